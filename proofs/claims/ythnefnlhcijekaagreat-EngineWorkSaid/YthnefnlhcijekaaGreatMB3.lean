/- What the laws of this chapter rest on, for every input; part 4. -/
import Derived.Test.YthnefnlhcijekaaGreatMB2
import Derived.Shelf.SlSortCmp.NoneTotal
import Derived.Shelf.SlLaysF
import Derived.Test.YthnefnlhcijekaaGreatProg
set_option linter.unusedVariables false
set_option linter.unusedSimpArgs false
namespace Go.Proofs.YthnefnlhcijekaaGreat.Fw
open Go Go.RowKit Go.Sort Go.Shelf
theorem CV {W w':World} (Qs:w'.os=W.os) (ht:w'.tape=W.tape) (ho:jz W w') (hs:W.heap.size≤w'.heap.size) (hk:∀ b,b<W.heap.size→w'.heap[b]?=W.heap[b]?):∃ q os,w'=grow (W.drewN q) os:=by
 refine⟨w'.drawn - W.drawn,w'.heap.extract W.heap.size w'.heap.size,?_⟩
 have hh:w'.heap=W.heap++w'.heap.extract W.heap.size w'.heap.size:=by
  apply Array.ext_getElem?
  intro b
  by_cases hb:b<W.heap.size
  ·rw[hk b hb,adL hb]
  ·rw[Array.getElem?_append_right (by omega),Array.getElem?_extract]
   by_cases lR:b<w'.heap.size
   ·rw[if_pos (by omega),show W.heap.size+(b - W.heap.size)=b by omega]
   ·rw[if_neg (by omega),Array.getElem?_eq_none (by omega)]
 have hd:w'.drawn=W.drawn+(w'.drawn - W.drawn):=by have:=ho.d;omega
 obtain⟨heap,tape,drawn,os,output⟩:=w'
 simp only[grow,World.drewN]
 simp only[]at Qs ht hh hd
 congr 1
 exact ho.o
theorem mG {w:World} {AE b:Nat} (f:Array Value→Array Value) (h:b≠AE):(mapBlock w AE f).heap[b]?=w.heap[b]?:=by
 unfold mapBlock;simp only[Array.getElem?_modify];rw[if_neg (fun e=>h e.symm)]
theorem gS {w:World} {AE:Nat} (f:Array Value→Array Value) {vs:Array Value} {T:TypeId} {fr:Nat×Nat} (h:w.heap[AE]?=some (.cells vs T fr)):(mapBlock w AE f).heap[AE]?=some (.cells (f vs) T fr):=by
 unfold mapBlock;simp only[Array.getElem?_modify,h,if_true];rfl
theorem oc (w:World) (AE:Nat) (f:Array Value→Array Value):(mapBlock w AE f).heap.size=w.heap.size:=by
 unfold mapBlock;simp
theorem Grown.grow (w:World) (os:Array Obj):Grown w (grow w os) :=
 ⟨rfl,rfl,⟨rfl,abr _⟩,by show w.heap.size≤(w.heap++os).size;simp,fun b hb=>by show(w.heap++os)[b]?=_;rw[adL hb]⟩
theorem qO.putRow {w:World} {AE:Nat} {vs:Array Value} {T:TypeId} (n:Nat) {α:Type} [Inhabited α] (enc:α→Value) (d:Array α) (h:w.heap[AE]?=some (.cells vs T (0,0))) :
  qO w (putRow enc (Sort.ahead w n) AE 0 d) AE (.cells (putCells enc 0 d vs) T (0,0)) :=
 ⟨rfl,rfl,⟨rfl,Nat.le_add_right _ _⟩,oc _ _ _,gS (w:=Sort.ahead w n) _ h,fun k hk=>mG (w:=Sort.ahead w n) _ hk⟩
theorem xz (xs:List Int) (vs:Array Value) (k:Nat):(putCells (Value.int .i64) 0 xs.toArray vs)[k]?=if k<xs.length then(vs[k]?.map fun _=>Value.int .i64 (xs.getD k 0))else vs[k]?:=by
 unfold putCells
 rw[Array.getElem?_mapIdx]
 by_cases hk:k<xs.length
 ·rw[if_pos hk]
  cases vs[k]? with
  | none=>rfl
  | some v =>
   simp only[acb]
   rw[if_pos ⟨abw _,by simpa using hk⟩]
   congr 2
   simp[hk]
 ·rw[if_neg hk]
  cases vs[k]? with
  | none=>rfl
  | some v=>simp only[acb];rw[if_neg (by simp;omega)]
theorem ud {α:Type} {l:List α} {k:Nat} {v:α} (h:l[k]?=some v):(l.drop k).take 1=[v]:=by
 obtain⟨hk,rfl⟩:=abk.1 h
 rw[acj hk];rfl
theorem zi {g:Gh} {i:Nat} {w w':World} {T:TypeId} {xs ys:List Int} {vs:Array Value} {cap:Nat} (h:(Chunk.row T (.int .i64) fun _=>xs).sat g i w) (hV:g.V i=some cap) (hb:w.heap[g.B i]?=some (.cells vs T (0,0)))
  (hl:ys.length=xs.length) (hw:w'.heap[g.B i]?=some (.cells (putCells (Value.int .i64) 0 ys.toArray vs) T (0,0))):(Chunk.row T (.int .i64) fun _=>ys).sat g i w':=by
 obtain⟨h1,h2,h3⟩:=h
 refine⟨hl.trans h1,fun e=>(by rw[hV]at e;cases e),fun c hc=>?_⟩
 rw[hV]at hc;cases hc
 obtain⟨Uq,e1,e2,e3,e4⟩:=h3 cap hV
 have e3:xs.length≤cap:=e3
 rw[hb]at e1
 cases e1
 have hs:Ty.size (.int .i64)=1:=rfl
 rw[hs]at e2
 refine⟨_,hw,?_,by rw[hl];exact e3,fun k x hk=>?_⟩
 ·rw[hs];unfold putCells;simp;omega
 ·have vh:k<ys.length:=(abk.1 hk).1
  have yR:k<vs.size:=by omega
  have hg:=xz ys vs k
  rw[if_pos vh,aca yR]at hg
  have hx:ys.getD k 0=x:=by rw[abi,hk];rfl
  rw[hx]at hg
  rw[hs,aew]
  rw[ud (by rw[ada];exact hg)]
  exact⟨.int .i64 (fun _=>x),trivial⟩
theorem fg.RQ {g:Gh} {c:Chunk} {D:List Chunk} {w:World} (h:fg g (c::D) w):fg g (.none::D) w:=by
 refine⟨h.len,h.dA,fun i=>?_,fun i j b hi hj=>?_,fun i b hi=>?_⟩
 ·match i with
  | 0=>trivial
  | i+1=>exact h.sat (i+1)
 ·match i,j,hi,hj with
  | 0,_,hi,_=>exact hi.elim
  | _+1,0,_,hj=>exact hj.elim
  | i+1,j+1,hi,hj=>exact h.lL (i+1) (j+1) b hi hj
 ·match i,hi with
  | 0,hi=>exact hi.elim
  | i+1,hi=>exact h.dQ (i+1) b hi
section
variable {P:Program} {ρ:Ren}
theorem EV (L:SlLaysF.n6 P ρ) (T:TypeId) {gf:FuncId} {Oo:List AV} {D:List Chunk} {cf:Int→Int→Int} (hO:SWO (ltOf cf)) (hT:∀ x y,ltOf cf x y=false→ltOf cf y x=false→x=y)
  (FM:∀ (g:Gh) (W:World) (ws:List Value),fg g (.none::D) W→RL g Oo ws→∀ x y:Int,Calls P gf (#[Value.int .i64 x,Value.int .i64 y]++ws.toArray) W fun e w'=>e=.returned (.int .i64 (cf x y))∧∃ q RR,w'=grow (W.drewN q) RR)
  (eg:∀ args w,(callFunc gf args).run P w=.ok (.enter gf args) w) (HA:fY P (ρ.f 6)) (hD:∀ c∈D,∀ T t xs,c≠.au T t xs) (xs:List Int) (hn:xs.length<4611686018427387904) :
  aa P (ρ.f 6) [.vec 0 1 (fun _=>0) fun _=>xs.length,.fn (.func gf) [] Oo] (.row T (.int .i64) (fun _=>xs)::D) (Y:=Unit) (fun _=>True) (fun _=>.bM [])
   (fun _=>.row T (.int .i64) (fun _=>xs.mergeSort fun x y=>!(ltOf cf) y x)::D) where
 aA:=HA
 h:=by
  intro g w aD hS hr
  match aD,hr with
  | [v0,v1],hr =>
  obtain⟨h0,h1,_⟩:=hr
  cases h1 with
  | fn f az bs vs ws hl lK oC tj =>
  obtain rfl:vs=#[]:=by apply acx;simpa using hl.symm
  have Kp:af (.row T (.int .i64) (fun _=>xs)::D) 0=.row T (.int .i64) fun _=>xs:=rfl
  have Oq:=hS.sat 0
  rw[Kp]at Oq
  have hlen:(xs.mergeSort fun x y=>!(ltOf cf) y x).length=xs.length:=List.length_mergeSort _
  have Ee:RL g Oo ws.toList:=RL.mk (by simpa using lK) fun i y u hy hu=>tj i y u hy (by simpa using hu)
  cases h0 with
  | vec i sz off n A c hi hL HB HC =>
  have RS:ER g [] #[]:=fun t=>by
   have:look [] t=.undef:=rfl
   rw[this];exact .undef _
  have hI:=Inv.start hS RS
  cases hV:g.V 0 with
  | none =>
   obtain⟨rfl,rK,rfl,_⟩:=HB hV
   have hx:xs=[]:=ab9.1 rK
   subst hx
   refine(AnyF.slices_SortFunc_none (P:=P) (ρ:=ρ) { L with } none 0 (.func (.func gf) #[] ws) w).mono ?_
   rintro e w' ⟨rfl,rfl⟩
   have sA:([]:List Int).mergeSort (fun x y=>!(ltOf cf) y x)=[]:=List.mergeSort_nil
   exact⟨(),_,g,trivial,rfl,.bM _ _ rfl (by simp),by rw[sA];exact hS,by rw[sA];exact hI.ext⟩
  | some cap =>
   obtain⟨h4,h5,h6,h7,h8⟩:=HC cap hV
   have hA:=h7 (.inr rfl)
   subst hA
   obtain⟨s1,s2,s3⟩:=Oq
   obtain⟨vs,e1,e2,e3,e4⟩:=s3 cap hV
   have hblk:(af (.row T (.int .i64) (fun _=>xs)::D) 0).own g 0 (g.B 0):=by rw[Kp];exact⟨by rw[hV];simp,rfl⟩
   have e3:xs.length≤cap:=e3
   have e2:vs.size=cap:=by simpa [Ty.size]using e2
   have cA:∀ (k:Nat) (x:Int),xs[k]?=some x→vs[k]?=some (Value.int .i64 x):=fun k x hk=>by
    have:=e4 k x hk
    have vh:k<xs.length:=(abk.1 hk).1
    have yR:k<vs.size:=by omega
    rw[show Ty.size (Ty.int .i64)=1 from rfl,aew,ud (v:=vs[k]) (by simp[yR])]at this
    have h9:=this.1
    rw[aca yR]
    generalize vs[k]=u at h9
    cases h9;rfl
   have bm:=bt e1
   have hH:Holds (Value.int .i64) w (g.B 0) 0 xs.toArray:=fun j hj=>by
    have lM:j<xs.length:=by simpa using hj
    have lS:j<vs.size:=by omega
    refine⟨?_,?_⟩
    ·have h9:=cA j (xs[j]) (abj lM)
     have fm:xs.toArray[j]! = xs[j]:=by simp[lM]
     rw[fm]
     unfold World.cell?
     rw[e1]
     simpa using h9
    ·unfold World.frozen?
     rw[e1]
     simp
   have Ot:CmpLays1 P gf ws (Value.int .i64) cf (g.B 0) 0 xs.toArray.size w:=fun m os dk XH x y=>by
    have Ez:fg g (.none::D) (sortWorld (Value.int .i64) w (g.B 0) 0 m dk os):=by
     have Ko:=hI.set (c:=.row T (.int .i64) fun _=>dk.toList) hblk (qO.putRow m (Value.int .i64) dk e1)
      (zi (ys:=dk.toList) (hS.sat 0) hV e1 (by simpa using XH) (gS (w:=Sort.ahead w m) (putCells (Value.int .i64) 0 dk) e1)) ⟨by rw[hV];simp,rfl⟩ (fun T' t' Jq hc=>by cases hc)
     exact fg.RQ (Ko.aZ.grown (Grown.grow _ os))
    have:=FM g _ ws.toList Ez Ee x y
    simpa using this
   refine(Any.slices_SortFunc_total L (Value.int .i64) (fun _=>rfl) cf hO gf ws (g.B 0) 0 c xs.toArray w eg Ot hH bm (by simpa using hn) hT).mono ?_
   rintro e w' ⟨rfl,n,os,rfl⟩
   have Ko:=hI.set (c:=.row T (.int .i64) fun _=>xs.mergeSort fun x y=>!(ltOf cf) y x) hblk (qO.putRow n (Value.int .i64) (xs.mergeSort fun x y=>!(ltOf cf) y x).toArray e1) (zi (hS.sat 0) hV e1 hlen (gS (w:=Sort.ahead w n) _ e1)) ⟨by rw[hV];simp,rfl⟩ (fun T' t' Jq hc=>by cases hc)
   exact⟨(),_,g,trivial,rfl,.bM _ _ rfl (by simp),Ko.aZ.grown (Grown.grow _ os),Ko.ext.grow (Grown.grow _ os)⟩
end
end Go.Proofs.YthnefnlhcijekaaGreat.Fw
namespace Go.Proofs.YthnefnlhcijekaaGreat.Lay
open Go Go.Shelf
def rY:Go.Shelf.Ren:=⟨fun|6=>129|15=>123|14=>188|28=>182|29=>183|20=>236|21=>237|22=>238|23=>239|24=>240|25=>241|26=>242|27=>243|46=>273|47=>230|48=>231|49=>274|50=>275|57=>285|n=>n,fun|22=>122|24=>3|25=>99|3=>3|39=>159|0=>0|53=>262|55=>41|4=>4|46=>256|45=>255|50=>102|5=>5|9=>9|66=>291|70=>295|76=>329|77=>330|n=>n,fun|n=>n⟩
theorem sortInt:Go.Proofs.SlLaysF.n6 Tryz.prog rY:={
 mixed:=by kernel_rfl
 f6:=⟨Tryz.f129.name,by decide,Tryz.func129.trans (congrArg some (by kernel_rfl))⟩
 f14:=⟨Tryz.f188.name,by decide,Tryz.func188.trans (congrArg some (by kernel_rfl))⟩
 f15:=Tryz.func123.trans (congrArg some (by kernel_rfl))
 f20:=⟨Tryz.f236.name,by decide,Tryz.func236.trans (congrArg some (by kernel_rfl))⟩
 f21:=⟨Tryz.f237.name,by decide,Tryz.func237.trans (congrArg some (by kernel_rfl))⟩
 f22:=⟨Tryz.f238.name,by decide,Tryz.func238.trans (congrArg some (by kernel_rfl))⟩
 f23:=⟨Tryz.f239.name,by decide,Tryz.func239.trans (congrArg some (by kernel_rfl))⟩
 f24:=⟨Tryz.f240.name,by decide,Tryz.func240.trans (congrArg some (by kernel_rfl))⟩
 f25:=⟨Tryz.f241.name,by decide,Tryz.func241.trans (congrArg some (by kernel_rfl))⟩
 f26:=⟨Tryz.f242.name,by decide,Tryz.func242.trans (congrArg some (by kernel_rfl))⟩
 f27:=⟨Tryz.f243.name,by decide,Tryz.func243.trans (congrArg some (by kernel_rfl))⟩
 f28:=Tryz.func182.trans (congrArg some (by kernel_rfl))
 f29:=Tryz.func183.trans (congrArg some (by kernel_rfl))
 f46:=⟨Tryz.f273.name,by decide,Tryz.func273.trans (congrArg some (by kernel_rfl))⟩
 f47:=Tryz.func230.trans (congrArg some (by kernel_rfl))
 f48:=Tryz.func231.trans (congrArg some (by kernel_rfl))
 f49:=⟨Tryz.f274.name,by decide,Tryz.func274.trans (congrArg some (by kernel_rfl))⟩
 f50:=⟨Tryz.f275.name,by decide,Tryz.func275.trans (congrArg some (by kernel_rfl))⟩
 f57:=⟨Tryz.f285.name,by decide,Tryz.func285.trans (congrArg some (by kernel_rfl))⟩
 t0:=Tryz.underlying0
 a0:=Tryz.isAgg0
 z0:=Tryz.sizeOf0
 v0:=Tryz.zeroValue0
 t3:=Tryz.underlying3
 a3:=Tryz.isAgg3
 z3:=Tryz.sizeOf3
 v3:=Tryz.zeroValue3
 t4:=Tryz.underlying4
 a4:=Tryz.isAgg4
 z4:=Tryz.sizeOf4
 v4:=Tryz.zeroValue4
 t5:=Tryz.underlying5
 a5:=Tryz.isAgg5
 z5:=Tryz.sizeOf5
 v5:=Tryz.zeroValue5
 t9:=Tryz.underlying9
 a9:=Tryz.isAgg9
 z9:=Tryz.sizeOf9
 v9:=Tryz.zeroValue9
 t22:=Tryz.underlying122
 a22:=Tryz.isAgg122
 z22:=Tryz.sizeOf122
 v22:=Tryz.zeroValue122
 a24:=Tryz.isAgg3
 z24:=Tryz.sizeOf3
 t25:=Tryz.underlying99
 a25:=Tryz.isAgg99
 z25:=Tryz.sizeOf99
 v25:=Tryz.zeroValue99
 t39:=Tryz.underlying159
 a39:=Tryz.isAgg159
 z39:=Tryz.sizeOf159
 v39:=Tryz.zeroValue159
 t45:=Tryz.underlying255
 a45:=Tryz.isAgg255
 z45:=Tryz.sizeOf255
 v45:=Tryz.zeroValue255
 t46:=Tryz.underlying256
 a46:=Tryz.isAgg256
 z46:=Tryz.sizeOf256
 v46:=Tryz.zeroValue256
 t50:=Tryz.underlying102
 a50:=Tryz.isAgg102
 z50:=Tryz.sizeOf102
 v50:=Tryz.zeroValue102
 t53:=Tryz.underlying262
 a53:=Tryz.isAgg262
 z53:=Tryz.sizeOf262
 v53:=Tryz.zeroValue262
 t55:=Tryz.underlying41
 a55:=Tryz.isAgg41
 z55:=Tryz.sizeOf41
 v55:=Tryz.zeroValue41
 t66:=Tryz.underlying291
 a66:=Tryz.isAgg291
 z66:=Tryz.sizeOf291
 v66:=Tryz.zeroValue291
 t70:=Tryz.underlying295
 a70:=Tryz.isAgg295
 z70:=Tryz.sizeOf295
 v70:=Tryz.zeroValue295
 t76:=Tryz.underlying329
 a76:=Tryz.isAgg329
 z76:=Tryz.sizeOf329
 v76:=Tryz.zeroValue329
 t77:=Tryz.underlying330
 a77:=Tryz.isAgg330
 z77:=Tryz.sizeOf330
 v77:=Tryz.zeroValue330 }
end Go.Proofs.YthnefnlhcijekaaGreat.Lay
namespace Go.Proofs.YthnefnlhcijekaaGreat.Ti
open Go Go.RowKit Fw Wh Go.Sort
theorem CW {g g':Gh} {i:Nat}:∀ {es:List (Nat×Int×Int)} {a b:List MapEntry},gZ g i (rj es) a→gZ g' i (rj es) b→a=b
 | [],[],[],_,_=>rfl
 | e::r,x::a,y::b,h,h'=>by
  obtain⟨h1,h2,h3,h4⟩:=h
  obtain⟨yh,G1,Ha,Zx⟩:=h'
  have hv:x.val=y.val:=by
   change R g (.int .i64 fun _=>e.2.2) x.val at h3
   change R g' (.int .i64 fun _=>e.2.2) y.val at Ha
   generalize x.val=u at h3 ⊢
   generalize y.val=v at Ha ⊢
   cases h3;cases Ha;rfl
  have:x=y:=by
   obtain⟨k,v,n⟩:=x
   obtain⟨k',v',n'⟩:=y
   simp only[]at h1 h2 yh G1 hv
   rw[h1,yh,h2,G1,hv]
  rw[this,CW h4 Zx]
 | [],x::a,_,h,_=>h.elim
 | [],[],y::b,_,h=>h.elim
 | _::_,[],_,h,_=>h.elim
 | _::_,_::_,[],_,h=>h.elim
theorem Ou {f:FuncId} {args:List AV} {es:List (Nat×Int×Int)} {c:Nat} {n:Int} (hM:aa Tryz.prog f args [.none,.heap fun _=>sm es c] (Y:=Unit) (fun _=>True) (fun _=>.int .i64 fun _=>n) (fun _=>[.none,.heap fun _=>sm es c]))
  {g:Gh} {W:World} {aD:List Value} (hS:fg g [.none,.heap fun _=>sm es c] W) (hr:RL g args aD):Calls Tryz.prog f aD.toArray W fun e w'=>e=.returned (.int .i64 n)∧∃ q RR,w'=grow (W.drewN q) RR:=by
 refine(hM.h g W aD hS hr).mono ?_
 rintro e w' ⟨_,v,g',_,rfl,hv,XI,hx⟩
 cases hv
 refine⟨rfl,CV hx.os hx.tape hx.output hx.size fun b hb=>?_⟩
 by_cases ho:(⟨g,[.none,.heap fun _=>sm es c],W⟩:bU).owns b
 ·obtain⟨i,hi⟩:=ho
  match i,hi with
  | 0,hi=>exact hi.elim
  | i+2,hi=>exact hi.elim
  | 1,hi =>
   obtain⟨k,hk,rfl⟩:=hi
   have hs:=hS.sat 1
   have sQ:=XI.sat 1
   obtain⟨m1,m2,m3⟩:=hs
   obtain⟨Zy,m2',Zz⟩:=sQ
   have oD:k=0:=by
    have:g.M 1=1:=m1
    change k<g.M 1 at hk
    omega
   subst oD
   have wO:0<g'.M 1:=by rw[Zy];exact Nat.one_pos
   obtain⟨ob,h1,h2⟩:=m3 0 hk
   obtain⟨Gk,yh,G1⟩:=Zz 0 wO
   have hw:g'.W 1 0=g.W 1 0:=hx.r9 1 0 rfl hk
   show w'.heap[g.W 1 0]?=_
   rw[h1,←hw,yh]
   obtain⟨ms,rfl,h3⟩:=h2
   obtain⟨ZA,rfl,Ha⟩:=G1
   have:=CW h3 Ha
   rw[show ms=ZA from acS this]
 ·exact hx.cE b hb ho
theorem zj (x y:Int):(mE x y<0)↔x<y:=by
 unfold mE;split
 ·simp[*]
 ·split <;> simp[*] <;> omega
theorem vX (x y:Int):(mE x y=0)↔x=y:=by
 unfold mE;split
 ·constructor <;> intro h <;> omega
 ·split
  ·constructor <;> intro h <;> omega
  ·constructor <;> intro h <;> omega
theorem Mw (es:List (Nat×Int×Int)) (a b:Int):ltOf (p6 es) a b=true↔bp es a<bp es b∨(bp es a=bp es b∧a<b):=by
 unfold ltOf p6
 rw[decide_eq_true_eq]
 by_cases h:bp es a=bp es b
 ·rw[if_pos ((vX _ _).2 h),zj]
  constructor
  ·exact fun h2=>.inr ⟨h,h2⟩
  ·rintro(h2|h2) <;> omega
 ·rw[if_neg (fun e=>h ((vX _ _).1 e)),zj]
  constructor
  ·exact .inl
  ·rintro(h2|h2) <;> omega
theorem RT (es:List (Nat×Int×Int)):SWO (ltOf (p6 es)) where
 irrefl x:=by
  cases h:ltOf (p6 es) x x with
  | false=>rfl
  | true=>have:=(Mw es x x).1 h;omega
 trans x y z h1 h2:=by
  rw[Mw]at *;omega
 ntrans x y z h1 h2:=by
  cases h:ltOf (p6 es) x z with
  | false=>rfl
  | true =>
   exfalso
   have h3:=(Mw es x z).1 h
   have h4:¬(bp es x<bp es y∨(bp es x=bp es y∧x<y)):=fun e=>by rw[(Mw es x y).2 e]at h1;cases h1
   have h5:¬(bp es y<bp es z∨(bp es y=bp es z∧y<z)):=fun e=>by rw[(Mw es y z).2 e]at h2;cases h2
   omega
theorem RU (es:List (Nat×Int×Int)) (x y:Int) (h1:ltOf (p6 es) x y=false) (h2:ltOf (p6 es) y x=false):x=y:=by
 have h4:¬(bp es x<bp es y∨(bp es x=bp es y∧x<y)):=fun e=>by rw[(Mw es x y).2 e]at h1;cases h1
 have h5:¬(bp es y<bp es x∨(bp es y=bp es x∧y<x)):=fun e=>by rw[(Mw es y x).2 e]at h2;cases h2
 omega
def od (es:List (Nat×Int×Int)) (xs:List Int):List Int:=xs.mergeSort fun x y=>!(ltOf (p6 es)) y x
end Go.Proofs.YthnefnlhcijekaaGreat.Ti
namespace Go.Proofs.YthnefnlhcijekaaGreat.Ti
inductive Pl
 | late|row (i s:Nat)|fQ
 deriving DecidableEq
def lv (now d:Int):Pl :=
 if d≤now then .late
 else if d / 64=now / 64 then .row 0 (d % 64).toNat
 else if d / 4096=now / 4096 then .row 1 (d / 64 % 64).toNat
 else if d / 262144=now / 262144 then .row 2 (d / 4096 % 64).toNat
 else if d / 16777216=now / 16777216 then .row 3 (d / 262144 % 64).toNat
 else .fQ
def so (i:Nat) (n:Int):Int:=match i with|0=>n % 64|1=>n / 64 % 64|2=>n / 4096 % 64|_=>n / 262144 % 64
def pw (i:Nat):Int:=match i with|0=>1|1=>64|2=>4096|3=>262144|_=>16777216
def xA (i:Nat) (now:Int) (s:Nat):Int:=now / pw (i+1)*pw (i+1)+s*pw i
theorem gI {now d:Int}:lv now d=.late↔d≤now:=by
 unfold lv;split
 ·simp[*]
 ·repeat' split
  all_goals simp[*]
theorem xB {now d:Int} {i s:Nat} (h:lv now d=.row i s):now<d∧i<4∧s<64∧d / pw (i+1)=now / pw (i+1)∧so i d=s∧so i now<s:=by
 unfold lv at h
 split at h
 ·cases h
 split at h
 ·cases h;simp only[pw,so];omega
 split at h
 ·cases h;simp only[pw,so];omega
 split at h
 ·cases h;simp only[pw,so];omega
 split at h
 ·cases h;simp only[pw,so];omega
 ·cases h
theorem Bx {now d:Int} (h:lv now d=.fQ):now<d∧d / 16777216≠now / 16777216:=by
 unfold lv at h
 split at h
 ·cases h
 split at h
 ·cases h
 split at h
 ·cases h
 split at h
 ·cases h
 split at h
 ·cases h
 ·omega
theorem CX {now d:Int} (h0:now<d) (h:d / 64=now / 64):lv now d=.row 0 (d % 64).toNat:=by
 unfold lv;rw[if_neg (by omega),if_pos h]
theorem CY {now d:Int} (h0:now<d) (h:d / 64≠now / 64) (h1:d / 4096=now / 4096):lv now d=.row 1 (d / 64 % 64).toNat:=by
 unfold lv;rw[if_neg (by omega),if_neg h,if_pos h1]
theorem CZ {now d:Int} (h0:now<d) (h1:d / 4096≠now / 4096) (h2:d / 262144=now / 262144):lv now d=.row 2 (d / 4096 % 64).toNat:=by
 unfold lv;rw[if_neg (by omega),if_neg (by omega),if_neg h1,if_pos h2]
theorem C0 {now d:Int} (h0:now<d) (h2:d / 262144≠now / 262144) (h3:d / 16777216=now / 16777216):lv now d=.row 3 (d / 262144 % 64).toNat:=by
 unfold lv;rw[if_neg (by omega),if_neg (by omega),if_neg (by omega),if_neg h2,if_pos h3]
theorem C1 {now d:Int} (h0:now<d) (h3:d / 16777216≠now / 16777216):lv now d=.fQ:=by
 unfold lv;rw[if_neg (by omega),if_neg (by omega),if_neg (by omega),if_neg (by omega),if_neg h3]
theorem xC {now to d:Int} {i s:Nat} (h:lv now d=.row i s) (h1:now≤to) (h2:to<xA i now s):lv to d=.row i s:=by
 unfold xA at h2
 unfold lv at h
 split at h
 ·cases h
 split at h
 ·cases h;simp only[pw]at h2;exact CX (by omega) (by omega)
 split at h
 ·cases h;simp only[pw]at h2;exact CY (by omega) (by omega) (by omega)
 split at h
 ·cases h;simp only[pw]at h2;exact CZ (by omega) (by omega) (by omega)
 split at h
 ·cases h;simp only[pw]at h2;exact C0 (by omega) (by omega) (by omega)
 ·cases h
theorem mH {now to d:Int} (h:lv now d=.fQ) (h1:now≤to) (h2:to<d / 16777216*16777216):lv to d=.fQ:=by
 have:=Bx h
 exact C1 (by omega) (by omega)
theorem zk {now to d:Int} {i s j t:Nat} (h:lv now d=.row i s) (h1:now≤to) (hj:j<i) (ht:t<64) (h2:to≤xA j now t):lv to d=.row i s:=by
 refine xC h h1 ?_
 have:=xB h
 obtain⟨_,hi,hs,h3,h4,h5⟩:=this
 have:i=1∨i=2∨i=3:=by omega
 rcases this with rfl|rfl|rfl
 ·obtain rfl:j=0:=by omega
  simp only[xA,pw,so]at *;omega
 ·have:j=0∨j=1:=by omega
  rcases this with rfl|rfl <;> (simp only[xA,pw,so]at *;omega)
 ·have:j=0∨j=1∨j=2:=by omega
  rcases this with rfl|rfl|rfl <;> (simp only[xA,pw,so]at *;omega)
theorem p7 {now to d:Int} {j t:Nat} (h:lv now d=.fQ) (h1:now≤to) (hj:j<4) (ht:t<64) (h2:to≤xA j now t):lv to d=.fQ:=by
 refine mH h h1 ?_
 have:=Bx h
 have:j=0∨j=1∨j=2∨j=3:=by omega
 rcases this with rfl|rfl|rfl|rfl <;> (simp only[xA,pw]at *;omega)
theorem Ov {now:Int} {i s:Nat} (h0:0≤now) (hi:i<4) (h:so i now<s):now<xA i now s:=by
 have:i=0∨i=1∨i=2∨i=3:=by omega
 rcases this with rfl|rfl|rfl|rfl <;> (simp only[xA,pw,so]at *;omega)
theorem HD {now:Int} {i s t:Nat} (hi:i<4) (h:s<t):xA i now s<xA i now t:=by
 have:i=0∨i=1∨i=2∨i=3:=by omega
 rcases this with rfl|rfl|rfl|rfl <;> (simp only[xA,pw]at *;omega)
end Go.Proofs.YthnefnlhcijekaaGreat.Ti
namespace Go.Proofs.YthnefnlhcijekaaGreat.Wh
open Go Go.RowKit Fw
abbrev Es (α:Type):=List (Nat×Int×α)
def cg {α:Type} (es:Es α):List Nat:=es.map (·.1)
theorem C2:∀ (l m:List Nat),l.Nodup→(∀ x∈l,x∈m)→l.length≤m.length
 | [],_,_,_=>abw _
 | x::l,m,hn,hs=>by
  have hx:x∈m:=hs x (abq ..)
  rw[aci]at hn
  have:=C2 l (m.erase x) hn.2 (fun y hy=>(List.mem_erase_of_ne (fun e:y=x=>hn.1 (by rw[←e];exact hy))).2 (hs y (abn _ hy)))
  rw[acw hx]at this
  have:=ac4 hx
  simp only[abt];omega
structure vY {α:Type} (es cO:Es α):Prop where
 nd:(cg cO).Nodup
 sub:∀ e∈cO,e∈es
theorem vY.nil {α:Type} (es:Es α):vY es []:=⟨acd,fun _ h=>by cases h⟩
theorem vY.add {α:Type} {es cO:Es α} (h:vY es cO) {b:Nat} {n:Int} {v:α} (hm:(b,n,v)∈es) (hb:b∉cg cO):vY es (cO++[(b,n,v)]):=by
 refine⟨?_,fun e he=>?_⟩
 ·unfold cg;rw[adH,ac6]
  exact⟨h.nd,by simp,fun x hx y hy e=>by simp at hy;subst hy;subst e;exact hb hx⟩
 ·rcases ab1.1 he with h1|h1
  ·exact h.sub e h1
  ·rw[acO.1 h1];exact hm
theorem vY.len {α:Type} {es cO:Es α} (h:vY es cO):cO.length≤es.length:=by
 have:=C2 (cg cO) (cg es) h.nd (fun x hx=>by
  obtain⟨e,he,rfl⟩:=abR.1 hx
  exact abR.2 ⟨e,h.sub e he,rfl⟩)
 simpa [cg]using this
theorem born_inj {α:Type} {es:Es α} (hn:(cg es).Nodup) {e f:Nat×Int×α} (he:e∈es) (hf:f∈es) (h:e.1=f.1):e=f:=by
 induction es with
 | nil=>cases he
 | cons x r ih =>
  simp only[cg,abH,aci]at hn
  rcases abE.1 he with h1|h1 <;> rcases abE.1 hf with h2|h2
  ·rw[h1,h2]
  ·subst h1;exact(hn.1 (abR.2 ⟨f,h2,h.symm⟩)).elim
  ·subst h2;exact(hn.1 (abR.2 ⟨e,h1,h⟩)).elim
  ·exact ih hn.2 h1 h2
theorem vY.all {α:Type} {es cO:Es α} (h:vY es cO) (hn:(cg es).Nodup) (ha:∀ e∈es,e.1∈cg cO) (e:Nat×Int×α):e∈cO↔e∈es:=by
 refine⟨h.sub e,fun he=>?_⟩
 obtain⟨f,hf,h1⟩:=abR.1 (ha e he)
 rw[←born_inj hn (h.sub f hf) he h1];exact hf
theorem vY.By {α:Type} {es cO:Es α} (h:vY es cO) {b:Nat} {n:Int} {v:α} (hm:(b,n,v)∈es) (hb:b∉cg cO):cO.length<es.length:=by
 have:=(h.add hm hb).len
 simp only[abp,abt,abP]at this
 omega
theorem HE {α:Type} (f:α→HV) {es cO:Es α} {c j:Nat} {g:Unit→Nat} {K0:Prop} {K:Int→AV→List Nat→Prop} (hg:g ()=0) (bm:∀ e∈es,e.1<c)
  (k0:(∀ e∈es,e.1∈cg cO)→K0) (k1:∀ b n v,(b,n,v)∈es→b∉cg cO→K n ((f v).av j) (cg (cO++[(b,n,v)]))) :
  W6 j (fun _=>⟨1,fun _=>.map (es.map fun e=>(e.1,e.2.1,f e.2.2)) c⟩) g c c (fun _=>cg cO) K0 K:=by
 refine⟨_,rfl,rfl,fun e he=>?_,fun h=>k0 fun e he=>?_,fun b n v hm hb=>?_⟩
 ·obtain⟨x,hx,rfl⟩:=abR.1 he
  exact bm x hx
 ·exact h _ (abR.2 ⟨e,he,rfl⟩)
 ·obtain⟨⟨b',n',v'⟩,hx,h1⟩:=abR.1 hm
  cases h1
  have:=k1 b' n' v' hx hb
  unfold cg at this ⊢
  rw[adH]at this
  exact this
theorem key_inj {α:Type} {es:Es α} (hn:(aS es).Nodup) {e f:Nat×Int×α} (he:e∈es) (hf:f∈es) (h:e.2.1=f.2.1):e=f:=by
 induction es with
 | nil=>cases he
 | cons x r ih =>
  simp only[aS,abH,aci]at hn
  rcases abE.1 he with h1|h1 <;> rcases abE.1 hf with h2|h2
  ·rw[h1,h2]
  ·subst h1;exact(hn.1 (abR.2 ⟨f,h2,h.symm⟩)).elim
  ·subst h2;exact(hn.1 (abR.2 ⟨e,h1,h⟩)).elim
  ·exact ih hn.2 h1 h2
theorem vY.keys {α:Type} {es cO:Es α} (h:vY es cO) (hn:(aS es).Nodup):(aS cO).Nodup:=by
 have:=h.nd
 unfold cg at this
 unfold aS
 rw[ab5,ac7]at this ⊢
 refine acW ?_ this
 intro a b ha hb r8 e
 exact r8 (by rw[key_inj hn (h.sub a ha) (h.sub b hb) e])
theorem find_born {α:Type} (f:α→HV) {es:Es α} (hn:(cg es).Nodup) {b:Nat} {n:Int} {v:α} (hm:(b,n,v)∈es) :
  (es.map fun e=>(e.1,e.2.1,f e.2.2)).find? (fun e=>e.1 == b)=some (b,n,f v):=by
 induction es with
 | nil=>cases hm
 | cons x r ih =>
  simp only[cg,abH,aci]at hn
  simp only[abH,List.find?_cons]
  rcases abE.1 hm with h|h
  ·subst h;simp
  ·have bE:¬x.1=b:=fun e=>hn.1 (by rw[e];exact abR.2 ⟨(b,n,v),h,rfl⟩)
   rw[show(x.1 == b)=false by simpa using bE]
   exact ih hn.2 h
theorem HF {α:Type} (f:α→HV) {es cO:Es α} {c j:Nat} {g:Unit→Nat} {b:Nat} {n:Int} {v:α} {K:Int→AV→Prop} (hg:g ()=0) (hn:(cg es).Nodup) (hm:(b,n,v)∈es)
  (k:K n ((f v).av j)):W7 j (fun _=>⟨1,fun _=>.map (es.map fun e=>(e.1,e.2.1,f e.2.2)) c⟩) g c (fun _=>cg (cO++[(b,n,v)])) K :=
 ⟨_,b,_,rfl,by simp[cg],find_born f hn hm,k⟩
theorem zl {α:Type} {es:Es α} (h:(cg es).Nodup) (n:Int):(cg (b8 es n)).Nodup:=by
 have:(b8 es n).Sublist es:=by
  induction es with
  | nil=>exact aeu _
  | cons x r ih =>
   obtain⟨b,k,v⟩:=x
   simp only[cg,abH,aci]at h
   simp only[b8]
   split
   ·exact aex _ _
   ·exact List.Sublist.cons_cons _ (ih h.2)
 exact h.sublist (this.map _)
theorem zm {α:Type} {es:Es α} (h:(cg es).Nodup) {c:Nat} (hc:∀ e∈es,e.1<c) (n:Int) (v:α):(cg (bY es c n v)).Nodup:=by
 have key:cg (bY es c n v)=cg es∨cg (bY es c n v)=cg es++[c]:=by
  clear h hc
  induction es with
  | nil=>exact .inr rfl
  | cons x r ih =>
   obtain⟨b,k,u⟩:=x
   simp only[bY]
   split
   ·exact .inl rfl
   ·rcases ih with e|e
    ·left;simp only[cg,abH]at e ⊢;rw[e]
    ·right;simp only[cg,abH,acR]at e ⊢;rw[e]
 rcases key with e|e
 ·rw[e];exact h
 ·rw[e,ac6]
  refine⟨h,by simp,fun x hx y hy e2=>?_⟩
  simp at hy;subst hy;subst e2
  obtain⟨e,he,h1⟩:=abR.1 hx
  have:=hc e he
  omega
end Go.Proofs.YthnefnlhcijekaaGreat.Wh
namespace Go.Proofs.YthnefnlhcijekaaGreat.Ti
open Go Go.RowKit Fw Wh
abbrev Ks:=List (Nat×Int×Bool)
def p8 (es:Ks):List (Nat×Int×HV):=es.map fun e=>(e.1,e.2.1,.iq .bool e.2.2)
def vZ (es:Ks) (c:Nat):Hp:=⟨1,fun _=>.map (p8 es) c⟩
structure Tm where
 now:Int
 due:List (Nat×Int×Int)
 dc:Nat
 fQ:Ks
 fc:Nat
 late:Ks
 lc:Nat
 w0:Wl
 w1:Wl
 w2:Wl
 w3:Wl
abbrev Bz:TypeId:=183
def Ow (now:Int):Chunk:=.cells Bz [.int .i64 fun _=>now,.hm 1 fun _=>0,.hp 4 fun _=>some (1,0),.hp 5 fun _=>some (1,0),.hp 6 fun _=>some (1,0),.hp 7 fun _=>some (1,0),.hm 2 fun _=>0,.hm 3 fun _=>0]
def sF (t:Tm):List Chunk:=[Ow t.now,.heap fun _=>sm t.due t.dc,.heap fun _=>vZ t.fQ t.fc,.heap fun _=>vZ t.late t.lc,.heap fun _=>dG t.w0,.heap fun _=>dG t.w1,.heap fun _=>dG t.w2,.heap fun _=>dG t.w3]
def posOf (P:Int→Option Pl) (i:Nat) (id:Int):Option Nat:=match P id with|some (.row j s)=>if j=i then some s else none|_=>none
def cI {α:Type} (P:Int→Option α) (id:Int) (v:Option α):Int→Option α:=fun j=>if j=id then v else P j
structure rk (es:Ks) (c:Nat) (p:Int→Prop):Prop where
 nd:(aS es).Nodup
 mem:∀ id,id∈aS es↔p id
 lt:∀ e∈es,e.1<c
 vy:(cg es).Nodup
structure kZ (t:Tm) (D:Int→Option Int) (P:Int→Option Pl):Prop where
 iE:0≤t.now∧t.now≤1099511627776
 HG:(aS t.due).Nodup
 mI:∀ id,aO t.due id=D id
 HH:∀ e∈t.due,e.1<t.dc
 vo:(cg t.due).Nodup
 BA:∀ id d,D id=some d→0≤id∧id≤1048575∧0≤d∧d≤1099511627776
 fQ:rk t.fQ t.fc fun id=>P id=some .fQ
 late:rk t.late t.lc fun id=>P id=some .late
 w0:dX t.w0 (posOf P 0)
 w1:dX t.w1 (posOf P 1)
 w2:dX t.w2 (posOf P 2)
 w3:dX t.w3 (posOf P 3)
structure Can (now:Int) (D:Int→Option Int) (P:Int→Option Pl):Prop where
 h:∀ id,P id=(D id).map (lv now)
theorem k8 (P:Int→Option Pl) (i:Nat) (id:Int):kY (posOf P i) id none=posOf (cI P id none) i:=by
 funext j;unfold kY posOf cI;split <;> rfl
theorem ns (P:Int→Option Pl) (i s:Nat) (id:Int):kY (posOf P i) id (some s)=posOf (cI P id (some (.row i s))) i:=by
 funext j;unfold kY posOf cI;split <;> simp
theorem aL (P:Int→Option Pl) (i:Nat) (id:Int) (v:Pl) (hP:P id=none) (hv:∀ s,v≠.row i s):posOf P i=posOf (cI P id (some v)) i:=by
 funext j;unfold posOf cI
 by_cases h:j=id
 ·subst h;rw[hP,if_pos rfl]
  cases v with
  | late=>rfl
  | fQ=>rfl
  | row a b =>
   by_cases ha:a=i
   ·subst ha;exact(hv b rfl).elim
   ·simp[ha]
 ·rw[if_neg h]
theorem zn {α:Type} {es:List (Nat×Int×α)} {n:Int} {e:Nat×Int×α} (h:e∈b8 es n):e∈es:=by
 induction es with
 | nil=>cases h
 | cons x r ih =>
  obtain⟨b,k,v⟩:=x
  simp only[b8]at h
  split at h
  ·exact abn _ h
  ·rcases abE.1 h with h|h
   ·exact h▸abq ..
   ·exact abn _ (ih h)
theorem rk.del {es:Ks} {c:Nat} {p:Int→Prop} (h:rk es c p) (id:Int):rk (b8 es id) c fun j=>p j∧j≠id:=by
 refine⟨cV h.nd id,fun j=>?_,fun e he=>h.lt e (zn he),zl h.vy id⟩
 rw[zd,acf h.nd,h.mem]
 exact And.comm
def rl {α:Type} (es:List (Nat×Int×α)) (c:Nat) (n:Int):Nat:=match aO es n with|some _=>c|none=>c+1
theorem HI {α:Type} {es:List (Nat×Int×α)} {c:Nat} {n:Int} {v:α} {e:Nat×Int×α} (h:e∈bY es c n v):(∃ e'∈es,e'.1=e.1)∨(e.1=c∧aO es n=none):=by
 induction es with
 | nil =>
  simp only[bY,acO]at h
  subst h;exact .inr ⟨rfl,rfl⟩
 | cons x r ih =>
  obtain⟨b,k,u⟩:=x
  simp only[bY]at h
  by_cases hk:k=n
  ·rw[if_pos hk]at h
   rcases abE.1 h with h|h
   ·subst h;exact .inl ⟨_,abq ..,rfl⟩
   ·exact .inl ⟨e,abn _ h,rfl⟩
  ·rw[if_neg hk]at h
   rcases abE.1 h with h|h
   ·subst h;exact .inl ⟨_,abq ..,rfl⟩
   ·rcases ih h with⟨e',h1,h2⟩|h1
    ·exact .inl ⟨e',abn _ h1,h2⟩
    ·refine .inr ⟨h1.1,?_⟩
     simp only[aO];rw[if_neg hk];exact h1.2
theorem HJ {α:Type} {es:List (Nat×Int×α)} {c:Nat} {n:Int} {v:α} (h:∀ e∈es,e.1<c):∀ e∈bY es c n v,e.1<rl es c n:=by
 intro e he
 unfold rl
 rcases HI he with⟨e',h1,h2⟩|⟨h1,h2⟩
 ·have:=h e' h1
  split <;> omega
 ·rw[h2];simp only[];omega
theorem rk.put {es:Ks} {c:Nat} {p:Int→Prop} (h:rk es c p) (id:Int):rk (bY es c id true) (rl es c id) fun j=>p j∨j=id:=by
 refine⟨cU h.nd c id true,fun j=>?_,HJ h.lt,zm h.vy h.lt id true⟩
 rw[zb]
 split
 ·rename_i hm
  rw[h.mem]
  exact⟨.inl,fun h1=>h1.elim (fun h=>h) (fun e=>by subst e;exact(h.mem _).1 hm)⟩
 ·rw[ab1,h.mem];simp
theorem rk.iff {es:Ks} {c:Nat} {p q:Int→Prop} (h:rk es c p) (T3:∀ id,p id↔q id):rk es c q:=⟨h.nd,fun id=>(h.mem id).trans (T3 id),h.lt,h.vy⟩
theorem EW (es:Ks) (n:Int):aO (p8 es) n=(aO es n).map fun d=>HV.iq .bool d:=by
 induction es with
 | nil=>rfl
 | cons e r ih =>
  obtain⟨b,k,x⟩:=e
  simp only[p8,abH,aO]
  split
  ·rfl
  ·exact ih
theorem zo {α:Type} (f:α→HV) (es:List (Nat×Int×α)) (n:Int):b8 (es.map fun e=>(e.1,e.2.1,f e.2.2)) n=(b8 es n).map fun e=>(e.1,e.2.1,f e.2.2):=by
 induction es with
 | nil=>rfl
 | cons e r ih =>
  obtain⟨b,k,x⟩:=e
  simp only[abH,b8]
  split
  ·rfl
  ·rw[abH];congr 1
theorem zp {α:Type} (f:α→HV) (es:List (Nat×Int×α)) (c:Nat) (n:Int) (v:α):bY (es.map fun e=>(e.1,e.2.1,f e.2.2)) c n (f v)=(bY es c n v).map fun e=>(e.1,e.2.1,f e.2.2):=by
 induction es with
 | nil=>rfl
 | cons e r ih =>
  obtain⟨b,k,x⟩:=e
  simp only[abH,bY]
  split
  ·rfl
  ·rw[abH];congr 1
section
variable {P:Program} {ty i c:Nat} {K:Hp→Prop} {g:Unit→Nat} {n:Unit→Int} {z v:AV}
theorem HK {es:Ks} (hz:iU P ty=some (.bool false)) (hg:g ()=0) (k:K (vZ (b8 es (n ())) c)):Nj P ty n (fun _=>vZ es c) g K :=
 ⟨p8 es,c,_,vZ (b8 es (n ())) c,rfl,hz,⟨rfl,fun j hj=>aN (by
  have:j=0:=by change j<1 at hj;omega
  subst this;rw[hg]
  show HO.map _ _=HO.map _ _
  rw[show p8 (b8 es (n ()))=b8 (p8 es) (n ())from(zo (fun b=>HV.iq .bool b) es (n ())).symm])⟩,k⟩
theorem RV {es:List (Nat×Int×Int)} (hz:iU P ty=some (.int .i64 0)) (hg:g ()=0) (k:K (sm (b8 es (n ())) c)):Nj P ty n (fun _=>sm es c) g K :=
 ⟨rj es,c,_,sm (b8 es (n ())) c,rfl,hz,⟨rfl,fun j hj=>aN (by
  have:j=0:=by change j<1 at hj;omega
  subst this;rw[hg]
  show HO.map _ _=HO.map _ _
  rw[show rj (b8 es (n ()))=b8 (rj es) (n ())from(zo (fun b=>HV.iq (.int .i64) b) es (n ())).symm])⟩,k⟩
theorem HL {es:Ks} (hz:iU P ty=some (.bool false)) (hg:g ()=0) (hv:fo i v (.iq .bool true)) (k:K (vZ (bY es c (n ()) true) (rl es c (n ())))):Ni P ty i n v (fun _=>vZ es c) g K :=
 ⟨p8 es,c,_,_,vZ (bY es c (n ()) true) (rl es c (n ())),rfl,hz,hv,⟨rfl,fun j hj=>aN (by
  have:j=0:=by change j<1 at hj;omega
  subst this;rw[hg]
  show HO.map _ _=vc _ _ _ _
  unfold vc rl
  rw[show p8 (bY es c (n ()) true)=bY (p8 es) c (n ()) (.iq .bool true)from(zp (fun b=>HV.iq .bool b) es c (n ()) true).symm,EW]
  cases aO es (n ()) <;> rfl)⟩,k⟩
theorem Mx {es:List (Nat×Int×Int)} {x:Int} (hz:iU P ty=some (.int .i64 0)) (hg:g ()=0) (hv:fo i v (.iq (.int .i64) x)) (k:K (sm (bY es c (n ()) x) (rl es c (n ())))):Ni P ty i n v (fun _=>sm es c) g K :=
 ⟨rj es,c,_,_,sm (bY es c (n ()) x) (rl es c (n ())),rfl,hz,hv,⟨rfl,fun j hj=>aN (by
  have:j=0:=by change j<1 at hj;omega
  subst this;rw[hg]
  show HO.map _ _=vc _ _ _ _
  unfold vc rl
  rw[show rj (bY es c (n ()) x)=bY (rj es) c (n ()) (.iq (.int .i64) x)from(zp (fun b=>HV.iq (.int .i64) b) es c (n ()) x).symm,mF]
  cases aO es (n ()) <;> rfl)⟩,k⟩
end
structure HM (t:Tm) (D:Int→Option Int) (P:Int→Option Pl) (t':Tm):Prop where
 rel:kZ t' D P
 now:t'.now=t.now
abbrev WA:AV:=.agg [.hp 4 fun _=>some (1,0),.hp 5 fun _=>some (1,0),.hp 6 fun _=>some (1,0),.hp 7 fun _=>some (1,0)]
def v7 (t:Tm) (a b c d:Wl):Tm:={ t with w0:=a,w1:=b,w2:=c,w3:=d }
theorem liftM (t:Tm) (D:Int→Option Int) (P:Int→Option Pl) (h:kZ t D P) (id:Int):aa Tryz.prog 127 [.ptr 0 0,.int .i64 fun _=>id] (sF t) (Y:=Tm) (HM t D (cI P id none))
  (fun _=>.bM []) sF:=by
 (refine aa.q Tryz.func127 rfl fun S ao=>Wa _ ?_;(repeat' first|exact tv|apply pr|intro hh))
 refine aH.intro hm (X:=Nat×Wl×Wl×Wl×Wl)
  (fun x=>x.1≤4∧dX x.2.1 (posOf (if 0<x.1 then cI P id none else P) 0)∧dX x.2.2.1 (posOf (if 1<x.1 then cI P id none else P) 1)∧dX x.2.2.2.1 (posOf (if 2<x.1 then cI P id none else P) 2)∧dX x.2.2.2.2 (posOf (if 3<x.1 then cI P id none else P) 3)) (fun x=>4 - x.1)
  (fun x=>[(0,.ptr 0 0),(1,.int .i64 fun _=>id),(9,WA),(10,.int .i64 fun _=>(x.1:Int))])
  (fun x=>sF (v7 t x.2.1 x.2.2.1 x.2.2.2.1 x.2.2.2.2)) (0,t.w0,t.w1,t.w2,t.w3) [0,1,2,3,4,5,6,7] ⟨rfl,rfl,?_,?_⟩ ⟨by omega,h.w0,h.w1,h.w2,h.w3⟩ ?_
 ·exact Vc
 ·exact Vc
 ·rintro⟨i,a,b,c,d⟩ ⟨hi,h0,h1,h2,h3⟩
  simp only[]at hi h0 h1 h2 h3
  obtain rfl|rfl|rfl|rfl|rfl:i=0∨i=1∨i=2∨i=3∨i=4:=by omega
  ·(refine Wa _ ?_;(repeat' first|exact tv|apply pr|intro hh))
   ·exact⟨by simp⟩
   (refine ab.q (mD a (posOf P 0) h0 id) [4] ?_;rintro a1 ha;refine Wp _ ?_;(repeat' first|exact tv|apply pr|intro hh))
   refine⟨(1,a1,b,c,d),[0,1,2,3,4,5,6,7],⟨rfl,rfl,?_,?_⟩,⟨by omega,?_,h1,h2,h3⟩,by simp only[];omega⟩
   ·exact Vc
   ·exact Vc
   ·rw[k8]at ha;exact ha
  ·(refine Wa _ ?_;(repeat' first|exact tv|apply pr|intro hh))
   ·exact⟨by simp⟩
   (refine ab.q (mD b (posOf P 1) h1 id) [5] ?_;rintro a1 ha;refine Wp _ ?_;(repeat' first|exact tv|apply pr|intro hh))
   refine⟨(2,a,a1,c,d),[0,1,2,3,4,5,6,7],⟨rfl,rfl,?_,?_⟩,⟨by omega,h0,?_,h2,h3⟩,by simp only[];omega⟩
   ·exact Vc
   ·exact Vc
   ·rw[k8]at ha;exact ha
  ·(refine Wa _ ?_;(repeat' first|exact tv|apply pr|intro hh))
   ·exact⟨by simp⟩
   (refine ab.q (mD c (posOf P 2) h2 id) [6] ?_;rintro a1 ha;refine Wp _ ?_;(repeat' first|exact tv|apply pr|intro hh))
   refine⟨(3,a,b,a1,d),[0,1,2,3,4,5,6,7],⟨rfl,rfl,?_,?_⟩,⟨by omega,h0,h1,?_,h3⟩,by simp only[];omega⟩
   ·exact Vc
   ·exact Vc
   ·rw[k8]at ha;exact ha
  ·(refine Wa _ ?_;(repeat' first|exact tv|apply pr|intro hh))
   ·exact⟨by simp⟩
   (refine ab.q (mD d (posOf P 3) h3 id) [7] ?_;rintro a1 ha;refine Wp _ ?_;(repeat' first|exact tv|apply pr|intro hh))
   refine⟨(4,a,b,c,a1),[0,1,2,3,4,5,6,7],⟨rfl,rfl,?_,?_⟩,⟨by omega,h0,h1,h2,?_⟩,by simp only[];omega⟩
   ·exact Vc
   ·exact Vc
   ·rw[k8]at ha;exact ha
  ·(refine Wa _ ?_;(repeat' first|exact tv|apply pr|intro hh))
   (all_goals first|exact Ob.mk (fun h=>by cases h)|exact Ob.mk ⟨(fun h=>by cases h),by simp only[];omega,by simp only[];omega⟩|skip)
   refine HK rfl rfl ?_
   (refine Wa _ ?_;(repeat' first|exact tv|apply pr|intro hh))
   (all_goals first|exact Ob.mk (fun h=>by cases h)|exact Ob.mk ⟨(fun h=>by cases h),by simp only[];omega,by simp only[];omega⟩|skip)
   refine HK rfl rfl ?_
   (refine Wa _ ?_;(repeat' first|exact tv|apply pr|intro hh))
   (refine ae.w { v7 t a b c d with fQ:=b8 t.fQ id,late:=b8 t.late id } [0,1,2,3,4,5,6,7] _ ?_;(repeat' first|exact tv|apply pr))
   refine⟨⟨h.iE,h.HG,h.mI,h.HH,h.vo,h.BA,(h.fQ.del id).iff fun j=>?_,(h.late.del id).iff fun j=>?_,h0,h1,h2,h3⟩,rfl⟩
   ·unfold cI;split <;> simp[*]
   ·unfold cI;split <;> simp[*]
theorem wr {x:Int} (h0:0≤x) (h1:x<9223372036854775808):IntKind.i64.wrap x=x:=by
 simp only[IntKind.wrap,IntKind.bits,IntKind.signed];simp;omega
theorem VA {a b:Int} (ha:0≤a) (hb:0≤b) (ha1:a<2199023255552) (Qc:b<2199023255552) :
  IntKind.i64.wrap ((BitVec.ofInt IntKind.i64.bits a ^^^ BitVec.ofInt IntKind.i64.bits b).toNat:Int)=((a.toNat ^^^ b.toNat:Nat):Int):=by
 have e1:(BitVec.ofInt IntKind.i64.bits a).toNat=a.toNat:=by
  rw[adZ];show(a % ((2 ^ 64:Nat):Int)).toNat=_;congr 1;omega
 have e2:(BitVec.ofInt IntKind.i64.bits b).toNat=b.toNat:=by
  rw[adZ];show(b % ((2 ^ 64:Nat):Int)).toNat=_;congr 1;omega
 rw[BitVec.toNat_xor,e1,e2]
 have:a.toNat ^^^ b.toNat<2 ^ 41:=Nat.xor_lt_two_pow (by omega) (by omega)
 exact wr (by omega) (by omega)
theorem My (a b k:Nat):((a ^^^ b:Nat):Int).fdiv (2 ^ k)=0↔a / 2 ^ k=b / 2 ^ k:=by
 have e:((a ^^^ b:Nat):Int).fdiv (2 ^ k)=(((a ^^^ b) / 2 ^ k:Nat):Int):=by
  rw[ac0 _ (by exact_mod_cast abw (2 ^ k))];norm_cast
 rw[e]
 have e2:(a ^^^ b) / 2 ^ k=(a / 2 ^ k) ^^^ (b / 2 ^ k):=by
  rw[←aej,←aej,←aej,Nat.shiftRight_xor_distrib]
 rw[e2]
 constructor
 ·intro h
  have h:(a / 2 ^ k) ^^^ (b / 2 ^ k)=0:=by omega
  refine acN fun i=>?_
  have h2:=congrArg (fun z=>Nat.testBit z i) h
  simpa [Nat.testBit_xor]using h2
 ·intro h;rw[h,Nat.xor_self];rfl
theorem zq {x:Int} (h0:0≤x) (h1:x<2199023255552):IntKind.i64.wrap ((BitVec.ofInt IntKind.i64.bits x &&& BitVec.ofInt IntKind.i64.bits 63).toNat:Int)=x % 64:=by
 have e1:(BitVec.ofInt IntKind.i64.bits x).toNat=x.toNat:=by
  rw[adZ];show(x % ((2 ^ 64:Nat):Int)).toNat=_;congr 1;omega
 have e2:(BitVec.ofInt IntKind.i64.bits 63).toNat=2 ^ 6 - 1:=by decide
 rw[BitVec.toNat_and,e1,e2,adw]
 have:x.toNat % 2 ^ 6<64:=acM _ (by decide)
 rw[Wh.wr (by omega)]
 omega
theorem km (x:Int) (k:Nat) (m:Int) (h:(2:Int) ^ k=m) (hm:0≤m):x.fdiv (2 ^ k)=x / m:=by
 rw[h,ac0 _ hm]
theorem HN {now d:Int} (h0:now<d) (h:d / 64=now / 64):lv now d=.row 0 (d / 1 % 64).toNat:=by rw[Int.ediv_one];exact CX h0 h
theorem rn (t:Tm) (D:Int→Option Int) (P:Int→Option Pl) (h:kZ t D P) (id d:Int) (hd:D id=some d) (hp:P id=none):aa Tryz.prog 128 [.ptr 0 0,.int .i64 fun _=>id] (sF t) (Y:=Tm)
  (HM t D (cI P id (some (lv t.now d)))) (fun _=>.bM []) sF:=by
 have ZB:bp t.due id=d:=by unfold bp;rw[h.mI,hd];rfl
 obtain⟨ze,gi,XJ,Ox⟩:=h.BA id d hd
 (refine aa.q Tryz.func128 rfl fun S ao=>Wa _ ?_;(repeat' first|exact tv|apply pr|intro hh))
 (all_goals first|exact Ob.mk (fun h=>by cases h)|exact Ob.mk ⟨(fun h=>by cases h),by simp only[];omega,by simp only[];omega⟩|skip)
 refine zh rfl rfl ?_
 rw[ZB]
 (refine Wa _ ?_;(repeat' first|exact tv|apply pr|intro hh))
 (all_goals first|exact Ob.mk (fun h=>by cases h)|exact Ob.mk ⟨(fun h=>by cases h),by simp only[];omega,by simp only[];omega⟩|skip)
 ·refine HL rfl rfl .tt ?_
  (refine Wa _ ?_;(repeat' first|exact tv|apply pr|intro hh))
  (refine ae.w { t with late:=bY t.late t.lc id true,lc:=rl t.late t.lc id } [0,1,2,3,4,5,6,7] _ ?_;(repeat' first|exact tv|apply pr))
  rw[gI.2 hh]
  refine⟨⟨h.iE,h.HG,h.mI,h.HH,h.vo,h.BA,h.fQ.iff fun j=>?_,(h.late.put id).iff fun j=>?_,?_,?_,?_,?_⟩,rfl⟩
  ·unfold cI;split
   ·rename_i e;subst e;simp[hp]
   ·rfl
  ·unfold cI;split
   ·simp[*]
   ·simp[*]
  ·rw[←aL P 0 id _ hp (fun s e=>by cases e)];exact h.w0
  ·rw[←aL P 1 id _ hp (fun s e=>by cases e)];exact h.w1
  ·rw[←aL P 2 id _ hp (fun s e=>by cases e)];exact h.w2
  ·rw[←aL P 3 id _ hp (fun s e=>by cases e)];exact h.w3
 have bm:t.now<d:=by omega
 refine aH.intro hm (X:=Nat) (fun i=>i≤4∧(1≤i→d / 64≠t.now / 64)∧(2≤i→d / 4096≠t.now / 4096)∧(3≤i→d / 262144≠t.now / 262144)∧(4≤i→d / 16777216≠t.now / 16777216)) (fun i=>4 - i)
  (fun i=>[(0,.ptr 0 0),(1,.int .i64 fun _=>id),(4,.int .i64 fun _=>d),(5,.int .i64 fun _=>((d.toNat ^^^ t.now.toNat:Nat):Int)),(34,WA),(35,.int .i64 fun _=>(i:Int))])
  (fun _=>sF t) 0 [0,1,2,3,4,5,6,7] ⟨rfl,rfl,?_,?_⟩ ⟨by omega,by omega,by omega,by omega,by omega⟩ ?_
 ·exact Vc
 ·(refine Vb _ ?_;(repeat' first|exact tv|apply pr))
  exact VA XJ h.iE.1 (by omega) (by have:=h.iE.2;omega)
 ·rintro i ⟨hi,g1,g2,g3,g4⟩
  obtain rfl|rfl|rfl|rfl|rfl:i=0∨i=1∨i=2∨i=3∨i=4:=by omega
  ·(refine Wa _ ?_;(repeat' first|exact tv|apply pr|intro hh))
   ·exact⟨by simp⟩
   ·exact⟨by decide⟩
   ·exact⟨by decide⟩
   ·have hq:d / 64=t.now / 64:=by
     have h2:((d.toNat ^^^ t.now.toNat:Nat):Int).fdiv (2 ^ (6*(0+1)))=0:=hh
     have h2:=(My d.toNat t.now.toNat (6*(0+1))).1 h2
     have e:(2:Nat) ^ (6*(0+1))=64:=by decide
     rw[e]at h2
     have:=h.iE.1
     omega
    have xx:0≤d / 1 % 64∧d / 1 % 64<64:=by omega
    refine ab.intro (ET t.w0 (posOf P 0) h.w0 (d / 1 % 64).toNat (by omega) id ze gi) [4] rfl rfl ?_ ?_ (fun a1 ha=>?_)
    ·(refine Vb _ ?_;(repeat' first|exact tv|apply pr))
     have e:=zq (x:=d / 1) (by omega) (by omega)
     have e2:d.fdiv (2 ^ (6*0))=d / 1:=km d (6*0) 1 (by decide) (by decide)
     exact((congrArg (fun z=>IntKind.i64.wrap ((BitVec.ofInt IntKind.i64.bits z &&& BitVec.ofInt IntKind.i64.bits 63).toNat:Int)) e2).trans e).trans (abX xx.1).symm
    ·exact Vc
    (refine Wa _ ?_;(repeat' first|exact tv|apply pr|intro hh))
    (refine ae.w (v7 t a1 t.w1 t.w2 t.w3) [0,1,2,3,4,5,6,7] _ ?_;(repeat' first|exact tv|apply pr))
    rw[HN bm hq]
    rw[ns]at ha
    refine⟨⟨h.iE,h.HG,h.mI,h.HH,h.vo,h.BA,h.fQ.iff fun j=>?_,h.late.iff fun j=>?_,?_,?_,?_,?_⟩,rfl⟩
    ·unfold cI;split
     ·rename_i e;subst e;simp[hp]
     ·rfl
    ·unfold cI;split
     ·rename_i e;subst e;simp[hp]
     ·rfl
    ·first|exact ha|(rw[←aL P 0 id _ hp (fun s e=>by cases e)];exact h.w0)
    ·first|exact ha|(rw[←aL P 1 id _ hp (fun s e=>by cases e)];exact h.w1)
    ·first|exact ha|(rw[←aL P 2 id _ hp (fun s e=>by cases e)];exact h.w2)
    ·first|exact ha|(rw[←aL P 3 id _ hp (fun s e=>by cases e)];exact h.w3)
   ·have hq:d / 64≠t.now / 64:=fun hq=>hh ((My d.toNat t.now.toNat (6*(0+1))).2 (by
     have e:(2:Nat) ^ (6*(0+1))=64:=by decide
     rw[e]
     have:=h.iE.1
     omega))
    refine⟨0+1,[0,1,2,3,4,5,6,7],⟨rfl,rfl,?_,?_⟩,⟨by omega,fun _=>hq,by omega,by omega,by omega⟩,by omega⟩
    ·exact Vc
    ·exact Vc
  ·(refine Wa _ ?_;(repeat' first|exact tv|apply pr|intro hh))
   ·exact⟨by simp⟩
   ·exact⟨by decide⟩
   ·exact⟨by decide⟩
   ·have hq:d / 4096=t.now / 4096:=by
     have h2:((d.toNat ^^^ t.now.toNat:Nat):Int).fdiv (2 ^ (6*(1+1)))=0:=hh
     have h2:=(My d.toNat t.now.toNat (6*(1+1))).1 h2
     have e:(2:Nat) ^ (6*(1+1))=4096:=by decide
     rw[e]at h2
     have:=h.iE.1
     omega
    have xx:0≤d / 64 % 64∧d / 64 % 64<64:=by omega
    refine ab.intro (ET t.w1 (posOf P 1) h.w1 (d / 64 % 64).toNat (by omega) id ze gi) [5] rfl rfl ?_ ?_ (fun a1 ha=>?_)
    ·(refine Vb _ ?_;(repeat' first|exact tv|apply pr))
     have e:=zq (x:=d / 64) (by omega) (by omega)
     have e2:d.fdiv (2 ^ (6*1))=d / 64:=km d (6*1) 64 (by decide) (by decide)
     exact((congrArg (fun z=>IntKind.i64.wrap ((BitVec.ofInt IntKind.i64.bits z &&& BitVec.ofInt IntKind.i64.bits 63).toNat:Int)) e2).trans e).trans (abX xx.1).symm
    ·exact Vc
    (refine Wa _ ?_;(repeat' first|exact tv|apply pr|intro hh))
    (refine ae.w (v7 t t.w0 a1 t.w2 t.w3) [0,1,2,3,4,5,6,7] _ ?_;(repeat' first|exact tv|apply pr))
    rw[CY bm (g1 (by omega)) hq]
    rw[ns]at ha
    refine⟨⟨h.iE,h.HG,h.mI,h.HH,h.vo,h.BA,h.fQ.iff fun j=>?_,h.late.iff fun j=>?_,?_,?_,?_,?_⟩,rfl⟩
    ·unfold cI;split
     ·rename_i e;subst e;simp[hp]
     ·rfl
    ·unfold cI;split
     ·rename_i e;subst e;simp[hp]
     ·rfl
    ·first|exact ha|(rw[←aL P 0 id _ hp (fun s e=>by cases e)];exact h.w0)
    ·first|exact ha|(rw[←aL P 1 id _ hp (fun s e=>by cases e)];exact h.w1)
    ·first|exact ha|(rw[←aL P 2 id _ hp (fun s e=>by cases e)];exact h.w2)
    ·first|exact ha|(rw[←aL P 3 id _ hp (fun s e=>by cases e)];exact h.w3)
   ·have hq:d / 4096≠t.now / 4096:=fun hq=>hh ((My d.toNat t.now.toNat (6*(1+1))).2 (by
     have e:(2:Nat) ^ (6*(1+1))=4096:=by decide
     rw[e]
     have:=h.iE.1
     omega))
    refine⟨1+1,[0,1,2,3,4,5,6,7],⟨rfl,rfl,?_,?_⟩,⟨by omega,fun _=>g1 (by omega),fun _=>hq,by omega,by omega⟩,by omega⟩
    ·exact Vc
    ·exact Vc
  ·(refine Wa _ ?_;(repeat' first|exact tv|apply pr|intro hh))
   ·exact⟨by simp⟩
   ·exact⟨by decide⟩
   ·exact⟨by decide⟩
   ·have hq:d / 262144=t.now / 262144:=by
     have h2:((d.toNat ^^^ t.now.toNat:Nat):Int).fdiv (2 ^ (6*(2+1)))=0:=hh
     have h2:=(My d.toNat t.now.toNat (6*(2+1))).1 h2
     have e:(2:Nat) ^ (6*(2+1))=262144:=by decide
     rw[e]at h2
     have:=h.iE.1
     omega
    have xx:0≤d / 4096 % 64∧d / 4096 % 64<64:=by omega
    refine ab.intro (ET t.w2 (posOf P 2) h.w2 (d / 4096 % 64).toNat (by omega) id ze gi) [6] rfl rfl ?_ ?_ (fun a1 ha=>?_)
    ·(refine Vb _ ?_;(repeat' first|exact tv|apply pr))
     have e:=zq (x:=d / 4096) (by omega) (by omega)
     have e2:d.fdiv (2 ^ (6*2))=d / 4096:=km d (6*2) 4096 (by decide) (by decide)
     exact((congrArg (fun z=>IntKind.i64.wrap ((BitVec.ofInt IntKind.i64.bits z &&& BitVec.ofInt IntKind.i64.bits 63).toNat:Int)) e2).trans e).trans (abX xx.1).symm
    ·exact Vc
    (refine Wa _ ?_;(repeat' first|exact tv|apply pr|intro hh))
    (refine ae.w (v7 t t.w0 t.w1 a1 t.w3) [0,1,2,3,4,5,6,7] _ ?_;(repeat' first|exact tv|apply pr))
    rw[CZ bm (g2 (by omega)) hq]
    rw[ns]at ha
    refine⟨⟨h.iE,h.HG,h.mI,h.HH,h.vo,h.BA,h.fQ.iff fun j=>?_,h.late.iff fun j=>?_,?_,?_,?_,?_⟩,rfl⟩
    ·unfold cI;split
     ·rename_i e;subst e;simp[hp]
     ·rfl
    ·unfold cI;split
     ·rename_i e;subst e;simp[hp]
     ·rfl
    ·first|exact ha|(rw[←aL P 0 id _ hp (fun s e=>by cases e)];exact h.w0)
    ·first|exact ha|(rw[←aL P 1 id _ hp (fun s e=>by cases e)];exact h.w1)
    ·first|exact ha|(rw[←aL P 2 id _ hp (fun s e=>by cases e)];exact h.w2)
    ·first|exact ha|(rw[←aL P 3 id _ hp (fun s e=>by cases e)];exact h.w3)
   ·have hq:d / 262144≠t.now / 262144:=fun hq=>hh ((My d.toNat t.now.toNat (6*(2+1))).2 (by
     have e:(2:Nat) ^ (6*(2+1))=262144:=by decide
     rw[e]
     have:=h.iE.1
     omega))
    refine⟨2+1,[0,1,2,3,4,5,6,7],⟨rfl,rfl,?_,?_⟩,⟨by omega,fun _=>g1 (by omega),fun _=>g2 (by omega),fun _=>hq,by omega⟩,by omega⟩
    ·exact Vc
    ·exact Vc
  ·(refine Wa _ ?_;(repeat' first|exact tv|apply pr|intro hh))
   ·exact⟨by simp⟩
   ·exact⟨by decide⟩
   ·exact⟨by decide⟩
   ·have hq:d / 16777216=t.now / 16777216:=by
     have h2:((d.toNat ^^^ t.now.toNat:Nat):Int).fdiv (2 ^ (6*(3+1)))=0:=hh
     have h2:=(My d.toNat t.now.toNat (6*(3+1))).1 h2
     have e:(2:Nat) ^ (6*(3+1))=16777216:=by decide
     rw[e]at h2
     have:=h.iE.1
     omega
    have xx:0≤d / 262144 % 64∧d / 262144 % 64<64:=by omega
    refine ab.intro (ET t.w3 (posOf P 3) h.w3 (d / 262144 % 64).toNat (by omega) id ze gi) [7] rfl rfl ?_ ?_ (fun a1 ha=>?_)
    ·(refine Vb _ ?_;(repeat' first|exact tv|apply pr))
     have e:=zq (x:=d / 262144) (by omega) (by omega)
     have e2:d.fdiv (2 ^ (6*3))=d / 262144:=km d (6*3) 262144 (by decide) (by decide)
     exact((congrArg (fun z=>IntKind.i64.wrap ((BitVec.ofInt IntKind.i64.bits z &&& BitVec.ofInt IntKind.i64.bits 63).toNat:Int)) e2).trans e).trans (abX xx.1).symm
    ·exact Vc
    (refine Wa _ ?_;(repeat' first|exact tv|apply pr|intro hh))
    (refine ae.w (v7 t t.w0 t.w1 t.w2 a1) [0,1,2,3,4,5,6,7] _ ?_;(repeat' first|exact tv|apply pr))
    rw[C0 bm (g3 (by omega)) hq]
    rw[ns]at ha
    refine⟨⟨h.iE,h.HG,h.mI,h.HH,h.vo,h.BA,h.fQ.iff fun j=>?_,h.late.iff fun j=>?_,?_,?_,?_,?_⟩,rfl⟩
    ·unfold cI;split
     ·rename_i e;subst e;simp[hp]
     ·rfl
    ·unfold cI;split
     ·rename_i e;subst e;simp[hp]
     ·rfl
    ·first|exact ha|(rw[←aL P 0 id _ hp (fun s e=>by cases e)];exact h.w0)
    ·first|exact ha|(rw[←aL P 1 id _ hp (fun s e=>by cases e)];exact h.w1)
    ·first|exact ha|(rw[←aL P 2 id _ hp (fun s e=>by cases e)];exact h.w2)
    ·first|exact ha|(rw[←aL P 3 id _ hp (fun s e=>by cases e)];exact h.w3)
   ·have hq:d / 16777216≠t.now / 16777216:=fun hq=>hh ((My d.toNat t.now.toNat (6*(3+1))).2 (by
     have e:(2:Nat) ^ (6*(3+1))=16777216:=by decide
     rw[e]
     have:=h.iE.1
     omega))
    refine⟨3+1,[0,1,2,3,4,5,6,7],⟨rfl,rfl,?_,?_⟩,⟨by omega,fun _=>g1 (by omega),fun _=>g2 (by omega),fun _=>g3 (by omega),fun _=>hq⟩,by omega⟩
    ·exact Vc
    ·exact Vc
  ·(refine Wa _ ?_;(repeat' first|exact tv|apply pr|intro hh))
   (all_goals first|exact Ob.mk (fun h=>by cases h)|exact Ob.mk ⟨(fun h=>by cases h),by simp only[];omega,by simp only[];omega⟩|skip)
   refine HL rfl rfl .tt ?_
   (refine Wa _ ?_;(repeat' first|exact tv|apply pr|intro hh))
   (refine ae.w { t with fQ:=bY t.fQ t.fc id true,fc:=rl t.fQ t.fc id } [0,1,2,3,4,5,6,7] _ ?_;(repeat' first|exact tv|apply pr))
   rw[C1 bm (g4 (by omega))]
   refine⟨⟨h.iE,h.HG,h.mI,h.HH,h.vo,h.BA,(h.fQ.put id).iff fun j=>?_,h.late.iff fun j=>?_,?_,?_,?_,?_⟩,rfl⟩
   ·unfold cI;split
    ·simp[*]
    ·simp[*]
   ·unfold cI;split
    ·rename_i e;subst e;simp[hp]
    ·rfl
   ·rw[←aL P 0 id _ hp (fun s e=>by cases e)];exact h.w0
   ·rw[←aL P 1 id _ hp (fun s e=>by cases e)];exact h.w1
   ·rw[←aL P 2 id _ hp (fun s e=>by cases e)];exact h.w2
   ·rw[←aL P 3 id _ hp (fun s e=>by cases e)];exact h.w3
structure xD (now:Int) (D:Int→Option Int) (y:Int×Int×List Int):Prop where
 gt:now<y.1
 stay:∀ id d,D id=some d→id∉y.2.2→lv y.1 d=lv now d
 wait:∀ to id d,now≤to→to<y.1→D id=some d→lv to d=lv now d
 mem:∀ id,id∈y.2.2→∃ d,D id=some d
 nd:y.2.2.Nodup
 len:y.2.2.length≤1048576
theorem T4 {y:Int} (K:Nat) (m q:Int) (hm:(2:Int) ^ K=m) (ZC:m≤16777216) (hq:0≤q) (hx:q*m<2199023255552) (hy:0≤y) (ZD:y<m) :
  IntKind.i64.wrap ((BitVec.ofInt IntKind.i64.bits (q*m) ||| BitVec.ofInt IntKind.i64.bits y).toNat:Int)=q*m+y:=by
 have vF:0≤m:=by omega
 have ZE:0≤q*m:=abQ hq vF
 have ZF:m.toNat=2 ^ K:=by
  have:((2 ^ K:Nat):Int)=m:=by rw[←hm];norm_cast
  omega
 have e0:(q*m).toNat=q.toNat*2 ^ K:=by rw[Int.toNat_mul hq vF,ZF]
 have e1:(BitVec.ofInt IntKind.i64.bits (q*m)).toNat=(q*m).toNat:=by
  rw[adZ];show((q*m) % ((2 ^ 64:Nat):Int)).toNat=_;congr 1
  exact Int.emod_eq_of_lt ZE (by
   have:((2 ^ 64:Nat):Int)=18446744073709551616:=rfl
   omega)
 have e2:(BitVec.ofInt IntKind.i64.bits y).toNat=y.toNat:=by
  rw[adZ];show(y % ((2 ^ 64:Nat):Int)).toNat=_;congr 1;omega
 rw[BitVec.toNat_or,e1,e2,e0]
 have h3:=Nat.shiftLeft_add_eq_or_of_lt (b:=y.toNat) (i:=K) (by omega) q.toNat
 rw[Nat.shiftLeft_eq]at h3
 rw[←h3,←e0,Wh.wr (by omega)]
 omega
theorem xE {now:Int} {D:Int→Option Int} {P:Int→Option Pl} (hc:Can now D P) {i f:Nat} (hf:(f:Int)=so i now+1) (hy:ub (posOf P i) f none):∀ id s,P id≠some (.row i s):=by
 intro id s e
 have h1:=hc.h id
 rw[e]at h1
 cases hd:D id with
 | none=>rw[hd]at h1;cases h1
 | some d =>
  rw[hd]at h1
  have h2:lv now d=.row i s:=(ac9 h1).symm
  obtain⟨_,_,h3,_,_,h4⟩:=xB h2
  exact hy.none_ rfl s (by omega) h3 id (by unfold posOf;rw[e];simp)
theorem Can.pl {now:Int} {D:Int→Option Int} {P:Int→Option Pl} (hc:Can now D P) {id d:Int} (hd:D id=some d):P id=some (lv now d):=by rw[hc.h id,hd];rfl
theorem p9 {t:Tm} {D:Int→Option Int} {P:Int→Option Pl} (hc:Can t.now D P) (h:kZ t D P) {i f s:Nat} {l:List Int} {n:Int} (hi:i<4) (g:∀ j,j<i→∀ id s,P id≠some (.row j s)) (hf:(f:Int)=so i t.now+1)
  (hy:ub (posOf P i) f (some s)) (hl:Mv (posOf P i) s l):xD t.now D (xA i t.now s,n,l):=by
 obtain⟨k1,k2,k3,k4⟩:=hy.some_ s rfl
 have hn:=h.iE.1
 have HP:t.now<xA i t.now s:=Ov hn hi (by omega)
 have key:∀ id d,D id=some d→(lv t.now d=.late∨lv t.now d=.fQ∨(∃ j s',i<j∧lv t.now d=.row j s')∨(∃ s',s≤s'∧lv t.now d=.row i s')):=by
  intro id d hd
  have hp:=hc.pl hd
  cases AF:lv t.now d with
  | late=>exact .inl rfl
  | fQ=>exact .inr (.inl rfl)
  | row j s' =>
   rw[AF]at hp
   by_cases hj:j<i
   ·exact(g j hj id s' hp).elim
   by_cases lS:j=i
   ·subst lS
    refine .inr (.inr (.inr ⟨s',?_,rfl⟩))
    obtain⟨_,_,h3,_,_,h4⟩:=xB AF
    by_cases hs:s≤s'
    ·exact hs
    ·exact(k4 s' (by omega) (by omega) id (by unfold posOf;rw[hp];simp)).elim
   ·exact .inr (.inr (.inl ⟨j,s',by omega,rfl⟩))
 refine⟨HP,fun id d hd JS=>?_,fun to id d h1 h2 hd=>?_,fun id hid=>?_,hl.nd,hl.len⟩
 ·rcases key id d hd with e|e|⟨j,s',hj,e⟩|⟨s',hs,e⟩
  ·rw[e];have:=gI.1 e;exact gI.2 (by simp only[];omega)
  ·rw[e];exact p7 e (ad8 HP) hi k2 (abz _)
  ·rw[e];exact zk e (ad8 HP) hj k2 (abz _)
  ·rw[e]
   have bE:s≠s':=fun e2=>by
    subst e2
    exact JS ((hl.mem id).2 (by unfold posOf;rw[hc.pl hd,e];simp))
   exact xC e (ad8 HP) (HD hi (by omega))
 ·simp only[]at h2
  rcases key id d hd with e|e|⟨j,s',hj,e⟩|⟨s',hs,e⟩
  ·rw[e];have:=gI.1 e;exact gI.2 (by omega)
  ·rw[e];exact p7 e h1 hi k2 (ad8 h2)
  ·rw[e];exact zk e h1 hj k2 (ad8 h2)
  ·rw[e]
   refine xC e h1 ?_
   by_cases bE:s=s'
   ·subst bE;exact h2
   ·have:=HD (now:=t.now) hi (show s<s' by omega)
    omega
 ·have h1:=(hl.mem id).1 hid
  cases hd:D id with
  | some d=>exact⟨d,rfl⟩
  | none =>
   exfalso
   unfold posOf at h1
   rw[hc.h id,hd]at h1
   cases h1
def fR (es:List (Nat×Int×Int)) (id:Int):Int:=bp es id / 16777216*16777216
def EX (es:List (Nat×Int×Int)) (cO:Es Bool):Int:=cO.foldl (fun a e=>if fR es e.2.1<a then fR es e.2.1 else a) 2199023255552
def oR (es:List (Nat×Int×Int)) (at_:Int) (cO:Es Bool):List Int:=(cO.filter fun e=>decide (fR es e.2.1=at_)).map (·.2.1)
theorem C3 {t:Tm} {D:Int→Option Int} {P:Int→Option Pl} (h:kZ t D P) (id:Int):0≤bp t.due id∧bp t.due id≤1099511627776:=by
 unfold bp;rw[h.mI]
 cases hd:D id with
 | none=>simp
 | some d=>have:=h.BA id d hd;simp only[acY];omega
theorem rb {d:Int} (h0:0≤d) (h1:d≤1099511627776):IntKind.i64.wrap (d.fdiv (2 ^ 24)*2 ^ 24)=d / 16777216*16777216:=by
 rw[km d 24 16777216 (by decide) (by decide),show(2:Int) ^ 24=16777216 by decide,Wh.wr (by omega)]
theorem rk.len {es:Ks} {c:Nat} {p:Int→Prop} (h:rk es c p) (hp:∀ id,p id→0≤id∧id≤1048575):es.length≤1048576:=by
 have:=oP (n:=1048576) h.nd (fun x hx=>by have:=hp x ((h.mem x).1 hx);omega)
 simpa [aS]using this
theorem C4 (es:List (Nat×Int×Int)):∀ (cO:Es Bool) (a:Int),(cO.foldl (fun a e=>if fR es e.2.1<a then fR es e.2.1 else a) a≤a)∧∀ e∈cO,cO.foldl (fun a e=>if fR es e.2.1<a then fR es e.2.1 else a) a≤fR es e.2.1
 | [],a=>⟨abz _,fun _ h=>by cases h⟩
 | x::r,a=>by
  obtain⟨h1,h2⟩:=C4 es r (if fR es x.2.1<a then fR es x.2.1 else a)
  refine⟨adx h1 (by split <;> omega),fun e he=>?_⟩
  rcases abE.1 he with h|h
  ·subst h;exact adx h1 (by split <;> omega)
  ·exact h2 e h
theorem C5 (es:List (Nat×Int×Int)):∀ (cO:Es Bool) (a:Int),cO.foldl (fun a e=>if fR es e.2.1<a then fR es e.2.1 else a) a=a∨∃ e∈cO,cO.foldl (fun a e=>if fR es e.2.1<a then fR es e.2.1 else a) a=fR es e.2.1
 | [],a=>.inl rfl
 | x::r,a=>by
  rcases C5 es r (if fR es x.2.1<a then fR es x.2.1 else a)with h|⟨e,he,h⟩
  ·simp only[List.foldl_cons]
   by_cases hx:fR es x.2.1<a
   ·rw[if_pos hx]at h ⊢;exact .inr ⟨x,abq ..,h⟩
   ·rw[if_neg hx]at h ⊢;exact .inl h
  ·exact .inr ⟨e,abn _ he,h⟩
theorem HQ {t:Tm} {D:Int→Option Int} {P:Int→Option Pl} (hc:Can t.now D P) (h:kZ t D P) (g:∀ j,j<4→∀ id s,P id≠some (.row j s)) {cO lT:Es Bool} (F6:vY t.fQ lT) {n m:Int} (qQ:EX t.due cO=m)
  (ha:∀ e,e∈cO↔e∈t.fQ) (T5:∀ e,e∈lT↔e∈t.fQ) (hlen:t.fQ.length≤1048576):xD t.now D (m,n,oR t.due m lT):=by
 obtain⟨rK,Bf⟩:=h.iE
 have RW:∀ id,(∃ e∈t.fQ,e.2.1=id)↔P id=some .fQ:=fun id=>by
  rw[←h.fQ.mem id];unfold aS;simp only[abR]
 have hd:∀ e∈t.fQ,∃ d,D e.2.1=some d∧lv t.now d=.fQ∧bp t.due e.2.1=d:=fun e he=>by
  have hp:=(RW e.2.1).1 ⟨e,he,rfl⟩
  have h1:=hc.h e.2.1
  rw[hp]at h1
  cases hd:D e.2.1 with
  | none=>rw[hd]at h1;cases h1
  | some d=>rw[hd]at h1;exact⟨d,rfl,(ac9 h1).symm,by unfold bp;rw[h.mI,hd];rfl⟩
 have EY:=C4 t.due cO 2199023255552
 have hle:∀ e∈t.fQ,m≤fR t.due e.2.1:=fun e he=>by rw[←qQ];exact EY.2 e ((ha e).2 he)
 have HP:t.now<m:=by
  rcases C5 t.due cO 2199023255552 with h1|⟨e,he,h1⟩
  ·have:m=2199023255552:=by rw[←qQ];exact h1
   omega
  ·have h2:m=fR t.due e.2.1:=by rw[←qQ];exact h1
   obtain⟨d,_,h3,h4⟩:=hd e ((ha e).1 he)
   rw[h2];unfold fR;rw[h4]
   have:=Bx h3
   omega
 have key:∀ id d,D id=some d→lv t.now d=.late∨(lv t.now d=.fQ∧∃ e∈t.fQ,e.2.1=id∧bp t.due id=d):=fun id d mb=>by
  have hp:=hc.pl mb
  cases AF:lv t.now d with
  | late=>exact .inl rfl
  | row j s=>rw[AF]at hp;exact(g j (xB AF).2.1 id s hp).elim
  | fQ =>
   rw[AF]at hp
   obtain⟨e,he,h1⟩:=(RW id).2 hp
   exact .inr ⟨rfl,e,he,h1,by unfold bp;rw[h.mI,mb];rfl⟩
 refine⟨HP,fun id d mb JS=>?_,fun to id d h1 h2 mb=>?_,fun id hid=>?_,?_,?_⟩
 ·rcases key id d mb with e|⟨e,en,he,h1,h2⟩
  ·rw[e];have:=gI.1 e;exact gI.2 (by simp only[];omega)
  ·rw[e]
   have h3:=hle en he
   have h4:fR t.due en.2.1≠m:=fun h5=>JS (abR.2 ⟨en,acr.2 ⟨(T5 en).2 he,by simpa using h5⟩,h1⟩)
   unfold fR at h3 h4
   rw[h1,h2]at h3 h4
   exact mH e (ad8 HP) (by simp only[];omega)
 ·simp only[]at h2
  rcases key id d mb with e|⟨e,en,he,h3,h4⟩
  ·rw[e];have:=gI.1 e;exact gI.2 (by omega)
  ·rw[e]
   have h5:=hle en he
   unfold fR at h5
   rw[h3,h4]at h5
   exact mH e h1 (by omega)
 ·obtain⟨e,he,rfl⟩:=abR.1 hid
  obtain⟨d,h1,_⟩:=hd e ((T5 e).1 (acr.1 he).1)
  exact⟨d,h1⟩
 ·have:=F6.keys h.fQ.nd
  exact this.sublist (adz.map _)
 ·have h1:=F6.len
  have h2:=adI (fun e:Nat×Int×Bool=>decide (fR t.due e.2.1=m)) lT
  unfold oR
  simp only[ab4]
  omega
theorem RX (t:Tm) (D:Int→Option Int) (P:Int→Option Pl) (h:kZ t D P) (hc:Can t.now D P):aa Tryz.prog 126 [.ptr 0 0] (sF t) (Y:=Int×Int×List Int)
  (xD t.now D) (fun y=>.bM [.int .i64 fun _=>y.1,.int .i64 fun _=>y.2.1,.aG (.int .i64) fun _=>y.2.2]) (fun _=>sF t):=by
 obtain⟨rK,Bf⟩:=h.iE
 have FP:t.fQ.length≤1048576:=h.fQ.len fun id hp=>by
  have h1:=hc.h id
  rw[hp]at h1
  cases hd:D id with
  | none=>rw[hd]at h1;cases h1
  | some d=>have:=h.BA id d hd;omega
 (refine aa.q Tryz.func126 rfl fun S ao=>Wa _ ?_;(repeat' first|exact tv|apply pr|intro hh))
 refine aH.intro hm (X:=Nat) (fun i=>i≤4∧∀ j,j<i→∀ id s,P id≠some (.row j s)) (fun i=>4 - i)
  (fun i=>[(0,.ptr 0 0),(2,.int .i64 fun _=>0),(3,.int .i64 fun _=>0),(4,.aY),(18,WA),(19,.int .i64 fun _=>(i:Int))])
  (fun _=>sF t) 0 [0,1,2,3,4,5,6,7] ⟨rfl,rfl,?_,?_⟩ ⟨by omega,fun j hj=>by omega⟩ ?_
 ·exact Vc
 ·exact Vc
 ·rintro i ⟨hi,g⟩
  obtain rfl|rfl|rfl|rfl|rfl:i=0∨i=1∨i=2∨i=3∨i=4:=by omega
  ·(refine Wa _ ?_;(repeat' first|exact tv|apply pr|intro hh))
   ·exact⟨by simp⟩
   ·exact⟨by decide⟩
   have e2:t.now.fdiv (2 ^ (6*0))=t.now / 1:=km t.now (6*0) 1 (by decide) (by decide)
   have e:=zq (x:=t.now / 1) (by omega) (by omega)
   refine ab.intro (xy t.w0 (posOf P 0) h.w0 (t.now / 1 % 64+1).toNat (by omega)) [4] rfl rfl ?_ ?_ (fun y hy=>?_)
   ·(refine Vb _ ?_;(repeat' first|exact tv|apply pr))
    refine(congrArg (fun z=>IntKind.i64.wrap (IntKind.i64.wrap ((BitVec.ofInt IntKind.i64.bits z &&& BitVec.ofInt IntKind.i64.bits 63).toNat:Int)+1)) e2).trans ?_
    rw[e,Wh.wr (by omega)];omega
   ·exact Vc
   cases y with
   | none =>
    (refine Wa _ ?_;(repeat' first|exact tv|apply pr|intro hh))
    refine⟨0+1,[0,1,2,3,4,5,6,7],⟨rfl,rfl,?_,?_⟩,⟨by omega,fun j hj id s=>?_⟩,by omega⟩
    ·exact Vc
    ·exact Vc
    ·by_cases lS:j=0
     ·subst lS
      exact xE hc (f:=(t.now / 1 % 64+1).toNat) (by simp only[so];omega) hy id s
     ·exact g j (by omega) id s
   | some s =>
    have hf:(((t.now / 1 % 64+1).toNat:Nat):Int)=so 0 t.now+1:=by simp only[so];omega
    obtain⟨k1,k2,k3,k4⟩:=hy.some_ s rfl
    (refine Wa _ ?_;(repeat' first|exact tv|apply pr|intro hh))
    all_goals first|(exfalso;simp at hh;done)|skip
    ·exact⟨by decide⟩
    ·exact⟨by decide⟩
    ·exact⟨by decide⟩
    (refine ab.q (KA t.w0 (posOf P 0) h.w0 s k2) [4] ?_;rintro l hl;refine Wp _ ?_;(repeat' first|exact tv|apply pr|intro hh))
    (refine ae.w (xA 0 t.now s,0,l) [0,1,2,3,4,5,6,7] _ ?_;(repeat' first|exact tv|apply pr))
    ·have p1:(2:Int) ^ (6*0+6)=64:=by decide
     have p2:(2:Int) ^ (6*0)=1:=by decide
     have e3:IntKind.i64.wrap (t.now.fdiv (2 ^ (6*0+6))*2 ^ (6*0+6))=t.now / 64*64:=by
      rw[km t.now (6*0+6) 64 p1 (by decide),p1,Wh.wr (by omega)]
     have e4:IntKind.i64.wrap (((some s).getD 0:Nat)*2 ^ (6*0))=(s:Int)*1:=by
      rw[p2,show(some s).getD 0=s from rfl,Wh.wr (by omega)]
     exact(congr (congrArg (fun z w=>IntKind.i64.wrap ((BitVec.ofInt IntKind.i64.bits z ||| BitVec.ofInt IntKind.i64.bits w).toNat:Int)) e3) e4).trans (T4 (6*0+6) 64 (t.now / 64) p1 (by decide) (by omega) (by omega) (by omega) (by omega))
    ·exact p9 hc h (by omega) g hf hy hl
  ·(refine Wa _ ?_;(repeat' first|exact tv|apply pr|intro hh))
   ·exact⟨by simp⟩
   ·exact⟨by decide⟩
   have e2:t.now.fdiv (2 ^ (6*1))=t.now / 64:=km t.now (6*1) 64 (by decide) (by decide)
   have e:=zq (x:=t.now / 64) (by omega) (by omega)
   refine ab.intro (xy t.w1 (posOf P 1) h.w1 (t.now / 64 % 64+1).toNat (by omega)) [5] rfl rfl ?_ ?_ (fun y hy=>?_)
   ·(refine Vb _ ?_;(repeat' first|exact tv|apply pr))
    refine(congrArg (fun z=>IntKind.i64.wrap (IntKind.i64.wrap ((BitVec.ofInt IntKind.i64.bits z &&& BitVec.ofInt IntKind.i64.bits 63).toNat:Int)+1)) e2).trans ?_
    rw[e,Wh.wr (by omega)];omega
   ·exact Vc
   cases y with
   | none =>
    (refine Wa _ ?_;(repeat' first|exact tv|apply pr|intro hh))
    refine⟨1+1,[0,1,2,3,4,5,6,7],⟨rfl,rfl,?_,?_⟩,⟨by omega,fun j hj id s=>?_⟩,by omega⟩
    ·exact Vc
    ·exact Vc
    ·by_cases lS:j=1
     ·subst lS
      exact xE hc (f:=(t.now / 64 % 64+1).toNat) (by simp only[so];omega) hy id s
     ·exact g j (by omega) id s
   | some s =>
    have hf:(((t.now / 64 % 64+1).toNat:Nat):Int)=so 1 t.now+1:=by simp only[so];omega
    obtain⟨k1,k2,k3,k4⟩:=hy.some_ s rfl
    (refine Wa _ ?_;(repeat' first|exact tv|apply pr|intro hh))
    all_goals first|(exfalso;simp at hh;done)|skip
    ·exact⟨by decide⟩
    ·exact⟨by decide⟩
    ·exact⟨by decide⟩
    (refine ab.q (KA t.w1 (posOf P 1) h.w1 s k2) [5] ?_;rintro l hl;refine Wp _ ?_;(repeat' first|exact tv|apply pr|intro hh))
    (refine ae.w (xA 1 t.now s,1,l) [0,1,2,3,4,5,6,7] _ ?_;(repeat' first|exact tv|apply pr))
    ·have p1:(2:Int) ^ (6*1+6)=4096:=by decide
     have p2:(2:Int) ^ (6*1)=64:=by decide
     have e3:IntKind.i64.wrap (t.now.fdiv (2 ^ (6*1+6))*2 ^ (6*1+6))=t.now / 4096*4096:=by
      rw[km t.now (6*1+6) 4096 p1 (by decide),p1,Wh.wr (by omega)]
     have e4:IntKind.i64.wrap (((some s).getD 0:Nat)*2 ^ (6*1))=(s:Int)*64:=by
      rw[p2,show(some s).getD 0=s from rfl,Wh.wr (by omega)]
     exact(congr (congrArg (fun z w=>IntKind.i64.wrap ((BitVec.ofInt IntKind.i64.bits z ||| BitVec.ofInt IntKind.i64.bits w).toNat:Int)) e3) e4).trans (T4 (6*1+6) 4096 (t.now / 4096) p1 (by decide) (by omega) (by omega) (by omega) (by omega))
    ·exact p9 hc h (by omega) g hf hy hl
  ·(refine Wa _ ?_;(repeat' first|exact tv|apply pr|intro hh))
   ·exact⟨by simp⟩
   ·exact⟨by decide⟩
   have e2:t.now.fdiv (2 ^ (6*2))=t.now / 4096:=km t.now (6*2) 4096 (by decide) (by decide)
   have e:=zq (x:=t.now / 4096) (by omega) (by omega)
   refine ab.intro (xy t.w2 (posOf P 2) h.w2 (t.now / 4096 % 64+1).toNat (by omega)) [6] rfl rfl ?_ ?_ (fun y hy=>?_)
   ·(refine Vb _ ?_;(repeat' first|exact tv|apply pr))
    refine(congrArg (fun z=>IntKind.i64.wrap (IntKind.i64.wrap ((BitVec.ofInt IntKind.i64.bits z &&& BitVec.ofInt IntKind.i64.bits 63).toNat:Int)+1)) e2).trans ?_
    rw[e,Wh.wr (by omega)];omega
   ·exact Vc
   cases y with
   | none =>
    (refine Wa _ ?_;(repeat' first|exact tv|apply pr|intro hh))
    refine⟨2+1,[0,1,2,3,4,5,6,7],⟨rfl,rfl,?_,?_⟩,⟨by omega,fun j hj id s=>?_⟩,by omega⟩
    ·exact Vc
    ·exact Vc
    ·by_cases lS:j=2
     ·subst lS
      exact xE hc (f:=(t.now / 4096 % 64+1).toNat) (by simp only[so];omega) hy id s
     ·exact g j (by omega) id s
   | some s =>
    have hf:(((t.now / 4096 % 64+1).toNat:Nat):Int)=so 2 t.now+1:=by simp only[so];omega
    obtain⟨k1,k2,k3,k4⟩:=hy.some_ s rfl
    (refine Wa _ ?_;(repeat' first|exact tv|apply pr|intro hh))
    all_goals first|(exfalso;simp at hh;done)|skip
    ·exact⟨by decide⟩
    ·exact⟨by decide⟩
    ·exact⟨by decide⟩
    (refine ab.q (KA t.w2 (posOf P 2) h.w2 s k2) [6] ?_;rintro l hl;refine Wp _ ?_;(repeat' first|exact tv|apply pr|intro hh))
    (refine ae.w (xA 2 t.now s,2,l) [0,1,2,3,4,5,6,7] _ ?_;(repeat' first|exact tv|apply pr))
    ·have p1:(2:Int) ^ (6*2+6)=262144:=by decide
     have p2:(2:Int) ^ (6*2)=4096:=by decide
     have e3:IntKind.i64.wrap (t.now.fdiv (2 ^ (6*2+6))*2 ^ (6*2+6))=t.now / 262144*262144:=by
      rw[km t.now (6*2+6) 262144 p1 (by decide),p1,Wh.wr (by omega)]
     have e4:IntKind.i64.wrap (((some s).getD 0:Nat)*2 ^ (6*2))=(s:Int)*4096:=by
      rw[p2,show(some s).getD 0=s from rfl,Wh.wr (by omega)]
     exact(congr (congrArg (fun z w=>IntKind.i64.wrap ((BitVec.ofInt IntKind.i64.bits z ||| BitVec.ofInt IntKind.i64.bits w).toNat:Int)) e3) e4).trans (T4 (6*2+6) 262144 (t.now / 262144) p1 (by decide) (by omega) (by omega) (by omega) (by omega))
    ·exact p9 hc h (by omega) g hf hy hl
  ·(refine Wa _ ?_;(repeat' first|exact tv|apply pr|intro hh))
   ·exact⟨by simp⟩
   ·exact⟨by decide⟩
   have e2:t.now.fdiv (2 ^ (6*3))=t.now / 262144:=km t.now (6*3) 262144 (by decide) (by decide)
   have e:=zq (x:=t.now / 262144) (by omega) (by omega)
   refine ab.intro (xy t.w3 (posOf P 3) h.w3 (t.now / 262144 % 64+1).toNat (by omega)) [7] rfl rfl ?_ ?_ (fun y hy=>?_)
   ·(refine Vb _ ?_;(repeat' first|exact tv|apply pr))
    refine(congrArg (fun z=>IntKind.i64.wrap (IntKind.i64.wrap ((BitVec.ofInt IntKind.i64.bits z &&& BitVec.ofInt IntKind.i64.bits 63).toNat:Int)+1)) e2).trans ?_
    rw[e,Wh.wr (by omega)];omega
   ·exact Vc
   cases y with
   | none =>
    (refine Wa _ ?_;(repeat' first|exact tv|apply pr|intro hh))
    refine⟨3+1,[0,1,2,3,4,5,6,7],⟨rfl,rfl,?_,?_⟩,⟨by omega,fun j hj id s=>?_⟩,by omega⟩
    ·exact Vc
    ·exact Vc
    ·by_cases lS:j=3
     ·subst lS
      exact xE hc (f:=(t.now / 262144 % 64+1).toNat) (by simp only[so];omega) hy id s
     ·exact g j (by omega) id s
   | some s =>
    have hf:(((t.now / 262144 % 64+1).toNat:Nat):Int)=so 3 t.now+1:=by simp only[so];omega
    obtain⟨k1,k2,k3,k4⟩:=hy.some_ s rfl
    (refine Wa _ ?_;(repeat' first|exact tv|apply pr|intro hh))
    all_goals first|(exfalso;simp at hh;done)|skip
    ·exact⟨by decide⟩
    ·exact⟨by decide⟩
    ·exact⟨by decide⟩
    (refine ab.q (KA t.w3 (posOf P 3) h.w3 s k2) [7] ?_;rintro l hl;refine Wp _ ?_;(repeat' first|exact tv|apply pr|intro hh))
    (refine ae.w (xA 3 t.now s,3,l) [0,1,2,3,4,5,6,7] _ ?_;(repeat' first|exact tv|apply pr))
    ·have p1:(2:Int) ^ (6*3+6)=16777216:=by decide
     have p2:(2:Int) ^ (6*3)=262144:=by decide
     have e3:IntKind.i64.wrap (t.now.fdiv (2 ^ (6*3+6))*2 ^ (6*3+6))=t.now / 16777216*16777216:=by
      rw[km t.now (6*3+6) 16777216 p1 (by decide),p1,Wh.wr (by omega)]
     have e4:IntKind.i64.wrap (((some s).getD 0:Nat)*2 ^ (6*3))=(s:Int)*262144:=by
      rw[p2,show(some s).getD 0=s from rfl,Wh.wr (by omega)]
     exact(congr (congrArg (fun z w=>IntKind.i64.wrap ((BitVec.ofInt IntKind.i64.bits z ||| BitVec.ofInt IntKind.i64.bits w).toNat:Int)) e3) e4).trans (T4 (6*3+6) 16777216 (t.now / 16777216) p1 (by decide) (by omega) (by omega) (by omega) (by omega))
    ·exact p9 hc h (by omega) g hf hy hl
  ·(refine Wa _ ?_;(repeat' first|exact tv|apply pr|intro hh))
   refine .mk ⟨_,_,_,_,rfl,rfl,?_⟩
   (refine Wa _ ?_;(repeat' first|exact tv|apply pr|intro hh))
   refine aH.intro hm (X:=Es Bool) (vY t.fQ) (fun cO=>t.fQ.length - cO.length)
    (fun cO=>[(0,.ptr 0 0),(2,.int .i64 fun _=>0),(3,.int .i64 fun _=>0),(4,.aY),(10,.int .i64 fun _=>24),(11,.int .i64 fun _=>EX t.due cO),(62,.ptr 8 0)])
    (fun cO=>sF t++[.jD (.hm 2 fun _=>0) t.fc t.fc fun _=>cg cO]) [] [0,1,2,3,4,5,6,7,8] ⟨rfl,rfl,?_,?_⟩ (vY.nil _) ?_
   ·exact Vc
   ·exact Vc
   intro cO hv
   (refine Wa _ ?_;(repeat' first|exact tv|apply pr|intro hh))
   refine HE (fun b=>HV.iq .bool b) (es:=t.fQ) (cO:=cO) rfl h.fQ.lt (fun iy=>?_) (fun b n v bc hb=>?_)
   rotate_left
   ·(refine Wa _ ?_;(repeat' first|exact tv|apply pr|intro hh))
    refine HF (fun b=>HV.iq .bool b) (es:=t.fQ) (cO:=cO) rfl h.fQ.vy bc ?_
    (refine Wa _ ?_;(repeat' first|exact tv|apply pr|intro hh))
    refine zh rfl rfl ?_
    (refine Wa _ ?_;(repeat' first|exact tv|apply pr|intro hh))
    ·exact⟨by decide⟩
    ·exact⟨by decide⟩
    obtain⟨q0,q1⟩:=C3 h n
    have Cs:IntKind.i64.wrap ((bp t.due n).fdiv (2 ^ 24)*2 ^ 24)=fR t.due n:=rb q0 q1
    refine⟨cO++[(b,n,v)],[0,1,2,3,4,5,6,7,8],⟨rfl,rfl,?_,?_⟩,hv.add bc hb,?_⟩
    ·exact Vc
    ·(refine Vb _ ?_;(repeat' first|exact tv|apply pr))
     unfold EX
     rw[List.foldl_append]
     exact congrArg (fun z=>if z<EX t.due cO then z else EX t.due cO) Cs
    ·have:=hv.By bc hb
     simp only[abp,abt,abP];omega
   ·(refine Wc _ ?_;(repeat' first|exact tv|apply pr|intro hh))
    (refine aC.step hm rfl (Wc _ ?_);(repeat' first|exact tv|apply pr|intro hh))
    (refine aC.step hm rfl (Wc _ ?_);(repeat' first|exact tv|apply pr|intro hh))
    refine aC.nil 3 (.int .i64) none [13] ?_
    (conv=>whnf)
    (refine Wa _ ?_;(repeat' first|exact tv|apply pr|intro hh))
    refine .mk ⟨_,_,_,_,rfl,rfl,?_⟩
    (refine Wa _ ?_;(repeat' first|exact tv|apply pr|intro hh))
    generalize qQ:EX t.due cO=m
    refine aH.intro hm (X:=Es Bool) (vY t.fQ) (fun cO=>t.fQ.length - cO.length)
     (fun cO=>[(0,.ptr 0 0),(2,.int .i64 fun _=>0),(3,.int .i64 fun _=>0),(4,.aY),(10,.int .i64 fun _=>24),(11,.int .i64 fun _=>m),(13,.vec 8 1 (fun _=>0) fun _=>(oR t.due m cO).length),(83,.ptr 9 0)])
     (fun cO=>sF t++[.au 3 (.int .i64) fun _=>oR t.due m cO,.jD (.hm 2 fun _=>0) t.fc t.fc fun _=>cg cO]) [] [0,1,2,3,4,5,6,7,9,10] ⟨rfl,rfl,?_,?_⟩ (vY.nil _) ?_
    ·exact Vc
    ·exact Vc
    intro lT F6
    (refine Wa _ ?_;(repeat' first|exact tv|apply pr|intro hh))
    refine HE (fun b=>HV.iq .bool b) (es:=t.fQ) (cO:=lT) rfl h.fQ.lt (fun GP=>?_) (fun b n v bc hb=>?_)
    rotate_left
    ·(refine Wa _ ?_;(repeat' first|exact tv|apply pr|intro hh))
     refine HF (fun b=>HV.iq .bool b) (es:=t.fQ) (cO:=lT) rfl h.fQ.vy bc ?_
     (refine Wa _ ?_;(repeat' first|exact tv|apply pr|intro hh))
     obtain⟨q0,q1⟩:=C3 h n
     have Cs:IntKind.i64.wrap ((bp t.due n).fdiv (2 ^ 24)*2 ^ 24)=fR t.due n:=rb q0 q1
     have L4:=F6.By bc hb
     have RY:(oR t.due m lT).length≤1048576:=by
      have h2:=adI (fun e:Nat×Int×Bool=>decide (fR t.due e.2.1=m)) lT
      unfold oR
      simp only[ab4]
      omega
     refine zh rfl rfl ?_
     (refine Wa _ ?_;(repeat' first|exact tv|apply pr|intro hh))
     all_goals try exact⟨by decide⟩
     ·refine⟨⟨rfl,?_,?_⟩⟩
      ·show(oR t.due m lT).length+1≤_
       omega
      ·show((oR t.due m lT).length+1)*8≤_
       omega
     ·have hq:fR t.due n=m:=Cs.symm.trans hh
      have yA:oR t.due m (lT++[(b,n,v)])=oR t.due m lT++[n]:=by
       unfold oR;rw[List.filter_append,adH];simp[hq]
      refine⟨lT++[(b,n,v)],[0,1,2,3,4,5,6,7,8,9],⟨rfl,rfl,?_,?_⟩,F6.add bc hb,?_⟩
      ·(refine Vb _ ?_;(repeat' first|exact tv|apply pr))
       rw[yA];try simp
      ·(refine Vb _ ?_;(repeat' first|exact tv|apply pr))
       rw[yA];try simp
      ·simp only[abp,abt,abP];omega
     ·have hq:fR t.due n≠m:=fun e=>hh (Cs.trans e)
      have yA:oR t.due m (lT++[(b,n,v)])=oR t.due m lT:=by
       unfold oR;rw[List.filter_append,adH];simp[hq]
      refine⟨lT++[(b,n,v)],[0,1,2,3,4,5,6,7,8,9],⟨rfl,rfl,?_,?_⟩,F6.add bc hb,?_⟩
      ·(refine Vb _ ?_;(repeat' first|exact tv|apply pr))
       rw[yA];try simp
      ·(refine Vb _ ?_;(repeat' first|exact tv|apply pr))
       rw[yA];try simp
      ·simp only[abp,abt,abP];omega
    ·(refine Wa _ ?_;(repeat' first|exact tv|apply pr|intro hh))
     (refine ae.im 8 ?_;(conv=>whnf))
     (refine ae.w (m,4,oR t.due m lT) [0,1,2,3,4,5,6,7] _ ?_;(repeat' first|exact tv|apply pr))
     ·simp
     ·exact HQ hc h g F6 qQ (hv.all h.fQ.vy iy) (F6.all h.fQ.vy GP) FP
structure KB (t:Tm) (now:Int) (D:Int→Option Int):Prop where
 h:∃ P,kZ t D P∧Can t.now D P
 now:t.now=now
theorem kZ.Oy {t:Tm} {D:Int→Option Int} {P:Int→Option Pl} (h:kZ t D P) {id d:Int} (hi:0≤id∧id≤1048575) (hd:0≤d∧d≤1099511627776) :
  kZ { t with due:=bY t.due t.dc id d,dc:=rl t.due t.dc id } (cI D id (some d)) P:=by
 refine⟨h.iE,cU h.HG _ _ _,fun j=>?_,HJ h.HH,zm h.vo h.HH _ _,fun j e hj=>?_,h.fQ,h.late,h.w0,h.w1,h.w2,h.w3⟩
 ·show aO (bY t.due t.dc id d) j=_
  rw[dt,h.mI];rfl
 ·unfold cI at hj
  split at hj
  ·rename_i e2;cases hj;omega
  ·exact h.BA j e hj
theorem kZ.Oz {t:Tm} {D:Int→Option Int} {P:Int→Option Pl} (h:kZ t D P) (id:Int):kZ { t with due:=b8 t.due id } (cI D id none) P:=by
 refine⟨h.iE,cV h.HG _,fun j=>?_,fun e he=>h.HH e (zn he),zl h.vo _,fun j e hj=>?_,h.fQ,h.late,h.w0,h.w1,h.w2,h.w3⟩
 ·show aO (b8 t.due id) j=_
  rw[eA h.HG,h.mI];rfl
 ·unfold cI at hj
  split at hj
  ·cases hj
  ·exact h.BA j e hj
theorem Can.set {now:Int} {D:Int→Option Int} {P:Int→Option Pl} (h:Can now D P) (id d:Int):Can now (cI D id (some d)) (cI (cI P id none) id (some (lv now d))):=by
 refine .mk fun j=>?_
 unfold cI;split
 ·rfl
 ·exact h.h j
theorem Can.del {now:Int} {D:Int→Option Int} {P:Int→Option Pl} (h:Can now D P) (id:Int):Can now (cI D id none) (cI P id none):=by
 refine .mk fun j=>?_
 unfold cI;split
 ·rfl
 ·exact h.h j
theorem Bs (t:Tm) (now:Int) (D:Int→Option Int) (h:KB t now D) (id d:Int) (hi:0≤id∧id≤1048575) (hd:0≤d∧d≤1099511627776):aa Tryz.prog 119 [.ptr 0 0,.int .i64 fun _=>id,.int .i64 fun _=>d] (sF t) (Y:=Tm)
  (fun t'=>KB t' now (cI D id (some d))) (fun _=>.int .i64 fun _=>0) sF:=by
 obtain⟨⟨P,hr,hc⟩,rfl⟩:=h
 (refine aa.q Tryz.func119 rfl fun S ao=>Wa _ ?_;(repeat' first|exact tv|apply pr|intro hh))
 all_goals first|(exfalso;omega)|skip
 (refine ab.q (liftM t D P hr id) [0,1,2,3,4,5,6,7] ?_;rintro t1 h1;refine Wp _ ?_;(repeat' first|exact tv|apply pr|intro hh))
 refine Mx rfl rfl (.eq (.iq (.int .i64) d)) ?_
 (refine Wa _ ?_;(repeat' first|exact tv|apply pr|intro hh))
 have tj:=h1.rel.Oy hi hd
 (refine ab.q (rn _ _ _ tj id d (by simp[cI]) (by simp[cI])) [0,1,2,3,4,5,6,7] ?_;rintro t2 h2;refine Wp _ ?_;(repeat' first|exact tv|apply pr|intro hh))
 (refine ae.w t2 [0,1,2,3,4,5,6,7] _ ?_;(repeat' first|exact tv|apply pr))
 have e1:t2.now=t.now:=h2.now.trans h1.now
 have e2:t1.now=t.now:=h1.now
 refine⟨⟨_,h2.rel,?_⟩,e1⟩
 have:=hc.set id d
 rw[e1]
 exact cast (by rw[←e2]) this
theorem C6 (t:Tm) (now:Int) (D:Int→Option Int) (h:KB t now D) (id:Int):aa Tryz.prog 131 [.ptr 0 0,.int .i64 fun _=>id] (sF t) (Y:=Tm) (fun t'=>KB t' now (cI D id none))
  (fun _=>.bool fun _=>(D id).isSome) sF:=by
 obtain⟨⟨P,hr,hc⟩,rfl⟩:=h
 (refine aa.q Tryz.func131 rfl fun S ao=>Wa _ ?_;(repeat' first|exact tv|apply pr|intro hh))
 refine Hz rfl rfl (fun d hd=>?_) (fun hd=>?_)
 ·have hD:D id=some d:=by rw[←hr.mI];exact hd
  (refine Wa _ ?_;(repeat' first|exact tv|apply pr|intro hh))
  (refine ab.q (liftM t D P hr id) [0,1,2,3,4,5,6,7] ?_;rintro t1 h1;refine Wp _ ?_;(repeat' first|exact tv|apply pr|intro hh))
  refine RV rfl rfl ?_
  (refine Wa _ ?_;(repeat' first|exact tv|apply pr|intro hh))
  (refine ae.w { t1 with due:=b8 t1.due id } [0,1,2,3,4,5,6,7] _ ?_;(repeat' first|exact tv|apply pr))
  ·rw[hD];rfl
  ·exact⟨⟨_,h1.rel.Oz id,by rw[show({ t1 with due:=b8 t1.due id }:Tm).now=t.now from h1.now];exact hc.del id⟩,h1.now⟩
 ·have hD:D id=none:=by rw[←hr.mI];exact hd
  (refine Wa _ ?_;(repeat' first|exact tv|apply pr|intro hh))
  (refine ae.w t [0,1,2,3,4,5,6,7] _ ?_;(repeat' first|exact tv|apply pr))
  ·rw[hD];rfl
  ·have e:cI D id none=D:=by funext j;unfold cI;split <;> simp_all
   rw[e];exact⟨⟨P,hr,hc⟩,rfl⟩
theorem jl (o:Nat→HO) (c:Nat):(⟨1,fun _=>.map [] c⟩:Hp).eb (Hp.add ⟨0,o⟩ (.map [] c)):=by
 refine⟨rfl,fun j hj=>?_⟩
 have:j=0:=by change j<1 at hj;omega
 subst this;exact HO.aJ _
def cN (now:Int) (a b c d:AV):Chunk:=.cells Bz [.int .i64 fun _=>now,.hm 1 fun _=>0,a,b,c,d,.hm 2 fun _=>0,.hm 3 fun _=>0]
def ZG (now:Int) (c0 c1 c2 i:Nat) (w0 w1 w2 w3:Wl):List Chunk:=match i with
 | 0=>[cN now .bZ .bZ .bZ .bZ,.heap fun _=>sm [] c0,.heap fun _=>vZ [] c1,.heap fun _=>vZ [] c2]
 | 1=>[cN now (.hp 4 fun _=>some (1,0)) .bZ .bZ .bZ,.heap fun _=>sm [] c0,.heap fun _=>vZ [] c1,.heap fun _=>vZ [] c2,.heap fun _=>dG w0]
 | 2=>[cN now (.hp 4 fun _=>some (1,0)) (.hp 5 fun _=>some (1,0)) .bZ .bZ,.heap fun _=>sm [] c0,.heap fun _=>vZ [] c1,.heap fun _=>vZ [] c2,.heap fun _=>dG w0,.heap fun _=>dG w1]
 | 3=>[cN now (.hp 4 fun _=>some (1,0)) (.hp 5 fun _=>some (1,0)) (.hp 6 fun _=>some (1,0)) .bZ,.heap fun _=>sm [] c0,.heap fun _=>vZ [] c1,.heap fun _=>vZ [] c2,.heap fun _=>dG w0,.heap fun _=>dG w1,.heap fun _=>dG w2]
 | _=>sF ⟨now,[],c0,[],c1,[],c2,w0,w1,w2,w3⟩
set_option maxRecDepth 4000 in
theorem nK (now:Int) (hn:0≤now∧now≤1099511627776):aa Tryz.prog 58 [.int .i64 fun _=>now] [] (Y:=Tm) (fun t=>KB t now fun _=>none) (fun _=>.bM [.ptr 0 0,.int .i64 fun _=>0]) sF:=by
 (refine aa.q Tryz.func58 rfl fun S ao=>Wc _ ?_;(repeat' first|exact tv|apply pr|intro hh))
 (refine aC.step hm rfl (Wc _ ?_);(repeat' first|exact tv|apply pr|intro hh))
 (refine aC.step hm rfl (Wc _ ?_);(repeat' first|exact tv|apply pr|intro hh))
 all_goals first|(exfalso;omega)|skip
 (refine aC.step hm rfl (Wc _ ?_);(repeat' first|exact tv|apply pr|intro hh))
 refine aC.mu (fun _=>.map [] 0) ?_
 (conv=>whnf)
 refine aC.gH 4 0 rfl (fun c=>sm [] c) rfl rfl (jl _) (fun c0=>?_)
 (conv=>whnf)
 refine aC.mu (fun _=>.map [] 0) ?_
 (conv=>whnf)
 refine aC.gH 5 1 rfl (fun c=>vZ [] c) rfl rfl (jl _) (fun c1=>?_)
 (conv=>whnf)
 refine aC.mu (fun _=>.map [] 0) ?_
 (conv=>whnf)
 refine aC.gH 6 2 rfl (fun c=>vZ [] c) rfl rfl (jl _) (fun c2=>?_)
 (conv=>whnf)
 (refine Wa _ ?_;(repeat' first|exact tv|apply pr|intro hh))
 refine aH.intro hm (X:=Nat×Wl×Wl×Wl×Wl) (fun x=>x.1≤4∧(1≤x.1→dX x.2.1 fun _=>none)∧(2≤x.1→dX x.2.2.1 fun _=>none)∧(3≤x.1→dX x.2.2.2.1 fun _=>none)∧(4≤x.1→dX x.2.2.2.2 fun _=>none)) (fun x=>4 - x.1)
  (fun x=>[(3,.int .i64 fun _=>0),(2,.bZ),(4,.ptr 0 0),(18,.int .i64 fun _=>(x.1:Int))])
  (fun x=>ZG now c0 c1 c2 x.1 x.2.1 x.2.2.1 x.2.2.2.1 x.2.2.2.2) (0,FT 0,FT 0,FT 0,FT 0) [3,4,5,6] ?_ ⟨by simp,by simp,by simp,by simp,by simp⟩ ?_
 ·refine⟨rfl,rfl,?_,?_⟩
  ·exact Vc
  ·exact Vc
 ·rintro⟨i,a,b,c,d⟩ ⟨hi,h0,h1,h2,h3⟩
  simp only[]at hi h0 h1 h2 h3
  obtain rfl|rfl|rfl|rfl|rfl:i=0∨i=1∨i=2∨i=3∨i=4:=by omega
  ·(refine Wa _ ?_;(repeat' first|exact tv|apply pr|intro hh))
   (refine ab.q (Wh.nK) [] ?_;rintro w hw;refine Wp _ ?_;(repeat' first|exact tv|apply pr|intro hh))
   all_goals try exact⟨by decide⟩
   all_goals try exact⟨by simp⟩
   refine⟨(1,w,b,c,d),[0,1,2,3,4],⟨rfl,rfl,?_,?_⟩,⟨by omega,fun _=>hw,by omega,by omega,by omega⟩,by simp only[];omega⟩
   ·exact Vc
   ·exact Vc
  ·(refine Wa _ ?_;(repeat' first|exact tv|apply pr|intro hh))
   (refine ab.q (Wh.nK) [] ?_;rintro w hw;refine Wp _ ?_;(repeat' first|exact tv|apply pr|intro hh))
   all_goals try exact⟨by decide⟩
   all_goals try exact⟨by simp⟩
   refine⟨(2,a,w,c,d),[0,1,2,3,4,5],⟨rfl,rfl,?_,?_⟩,⟨by omega,fun _=>h0 (by omega),fun _=>hw,by omega,by omega⟩,by simp only[];omega⟩
   ·exact Vc
   ·exact Vc
  ·(refine Wa _ ?_;(repeat' first|exact tv|apply pr|intro hh))
   (refine ab.q (Wh.nK) [] ?_;rintro w hw;refine Wp _ ?_;(repeat' first|exact tv|apply pr|intro hh))
   all_goals try exact⟨by decide⟩
   all_goals try exact⟨by simp⟩
   refine⟨(3,a,b,w,d),[0,1,2,3,4,5,6],⟨rfl,rfl,?_,?_⟩,⟨by omega,fun _=>h0 (by omega),fun _=>h1 (by omega),fun _=>hw,by omega⟩,by simp only[];omega⟩
   ·exact Vc
   ·exact Vc
  ·(refine Wa _ ?_;(repeat' first|exact tv|apply pr|intro hh))
   (refine ab.q (Wh.nK) [] ?_;rintro w hw;refine Wp _ ?_;(repeat' first|exact tv|apply pr|intro hh))
   all_goals try exact⟨by decide⟩
   all_goals try exact⟨by simp⟩
   refine⟨(4,a,b,c,w),[0,1,2,3,4,5,6,7],⟨rfl,rfl,?_,?_⟩,⟨by omega,fun _=>h0 (by omega),fun _=>h1 (by omega),fun _=>h2 (by omega),fun _=>hw⟩,by simp only[];omega⟩
   ·exact Vc
   ·exact Vc
  ·(refine Wa _ ?_;(repeat' first|exact tv|apply pr|intro hh))
   (refine ae.w ⟨now,[],c0,[],c1,[],c2,a,b,c,d⟩ [0,1,2,3,4,5,6,7] _ ?_;(repeat' first|exact tv|apply pr))
   refine⟨⟨fun _=>none,⟨hn,acd,fun _=>rfl,by simp,acd,by simp,⟨acd,by simp[aS],by simp,acd⟩,⟨acd,by simp[aS],by simp,acd⟩,h0 (by omega),h1 (by omega),h2 (by omega),h3 (by omega)⟩,.mk fun _=>rfl⟩,rfl⟩
end Go.Proofs.YthnefnlhcijekaaGreat.Ti
namespace Go.Proofs.YthnefnlhcijekaaGreat.Ti
open Go Go.RowKit Fw Wh Go.Sort
def T6 (t:Tm):List Chunk:=[.cells Bz [.int .i64 fun _=>t.now,.hm 2 fun _=>0,.hp 5 fun _=>some (1,0),.hp 6 fun _=>some (1,0),.hp 7 fun _=>some (1,0),.hp 8 fun _=>some (1,0),.hm 3 fun _=>0,.hm 4 fun _=>0],
 .heap fun _=>sm t.due t.dc,.heap fun _=>vZ t.fQ t.fc,.heap fun _=>vZ t.late t.lc,.heap fun _=>dG t.w0,.heap fun _=>dG t.w1,.heap fun _=>dG t.w2,.heap fun _=>dG t.w3,.cells 110 [.ptr 1 0]]
theorem HR (t:Tm) (xs:List Int) (hn:xs.length<4611686018427387904):aa Tryz.prog 129
  [.vec 0 1 (fun _=>0) fun _=>xs.length,.fn (.func 130) [] [.ptr 9 0]] (.row 3 (.int .i64) (fun _=>xs)::T6 t) (Y:=Unit) (fun _=>True) (fun _=>.bM [])
  (fun _=>.row 3 (.int .i64) (fun _=>od t.due xs)::T6 t):=by
 refine EV (P:=Tryz.prog) (ρ:=Lay.rY) Lay.sortInt 3 (RT t.due) (RU t.due) (fun g W ws hS hr x y=>?_)
  (Go.Proofs.enters_of Tryz.func130 (by kernel_rfl) rfl) ⟨_,Tryz.func129,rfl,by decide⟩ (fun c hc T t xs e=>by simp[T6]at hc;rcases hc with h|h|h|h|h|h|h|h|h <;> (rw[h]at e;cases e)) xs hn
 have Rh:ER g (gB 0 [.ptr 9 0]) ws.toArray:=ki 0 [.ptr 9 0] ws hr (fun j u hj=>by simp[abJ,hj])
 have hk:yY [1,9] (gB 0 [.ptr 9 0]) (.none::T6 t) fun aj E'=>sC [0,2] (CI aj 0 1) [.cL [TR] 0]∧pG [0,2] E' [0,2] [.none,.heap fun _=>sm t.due t.dc]:=by
  exact Vc
 obtain⟨g1,cM,E1,vC,P5,⟨hl,hle⟩,_⟩:=sD [1,9] hS Rh hk
 have hlen:=hr.length
 have eu:=tL P5 1 0 (by simpa using hlen)
 have eu:RL (g1.dO [0,2]) [.cL [TR] 0] ws:=fv _ _ _ hl (by simpa using eu)
 have:=Ou (On t.due t.dc x y) (aD:=.int .i64 x::.int .i64 y::ws) (vC.dO hle rfl) ⟨.int .i64 fun _=>x,.int .i64 fun _=>y,eu⟩
 simpa using this
end Go.Proofs.YthnefnlhcijekaaGreat.Ti
namespace Go.Proofs.YthnefnlhcijekaaGreat.Ti
open Go Go.RowKit Fw Wh
structure Told (D:Int→Option Int) (to:Int) (l:List Int):Prop where
 nd:l.Nodup
 mem:∀ id,id∈l↔∃ d,D id=some d∧d≤to
 ord:l.Pairwise fun a b=>(D a).getD 0<(D b).getD 0∨((D a).getD 0=(D b).getD 0∧a<b)
def ue (D:Int→Option Int) (to:Int):Int→Option Int:=fun id=>match D id with|some d=>if d≤to then none else some d|none=>none
structure RZ (D:Int→Option Int) (to:Int) (y:List Int×Tm):Prop where
 told:Told D to y.1
 ok:KB y.2 to (ue D to)
def ko (t:Tm) (n:Int):Tm:={ t with now:=n }
def xF (D:Int→Option Int) (P:Int→Option Pl) (at_:Int) (l:List Int) (i:Nat):Int→Option Pl:=fun id=>if id∈l.take i then(D id).map (lv at_)else P id
theorem kZ.HS {t:Tm} {D:Int→Option Int} {P:Int→Option Pl} (h:kZ t D P) {n:Int} (hn:0≤n∧n≤1099511627776):kZ (ko t n) D P :=
 ⟨hn,h.HG,h.mI,h.HH,h.vo,h.BA,h.fQ,h.late,h.w0,h.w1,h.w2,h.w3⟩
theorem gR {α:Type} {L:List α} {i:Nat} {k:α} (h:L[i]?=some k):L.take (i+1)=L.take i++[k]:=by
 rw[abY,h];rfl
theorem HT {D:Int→Option Int} {P:Int→Option Pl} {at_:Int} {l:List Int} {i:Nat} {id d:Int} (hi:l[i]?=some id) (hd:D id=some d) :
  cI (cI (xF D P at_ l i) id none) id (some (lv at_ d))=xF D P at_ l (i+1):=by
 funext j
 unfold cI xF
 rw[gR hi]
 by_cases h:j=id
 ·subst h;simp[hd]
 ·simp[h]
theorem KC {now:Int} {D:Int→Option Int} {P:Int→Option Pl} {at_ n:Int} {l:List Int} (hc:Can now D P) (hs:xD now D (at_,n,l)) {i:Nat} (hi:l.length≤i):Can at_ D (xF D P at_ l i):=by
 refine .mk fun id=>?_
 unfold xF
 rw[abo hi]
 split
 ·rfl
 ·rename_i JS
  rw[hc.h id]
  cases hd:D id with
  | none=>rfl
  | some d=>exact congrArg some (hs.stay id d hd JS).symm
theorem EZ (es:List (Nat×Int×Int)) (xs:List Int) (x:Int):x∈od es xs↔x∈xs:=(List.mergeSort_perm xs _).mem_iff
theorem E4 (es:List (Nat×Int×Int)) {xs:List Int} (hn:xs.Nodup):(od es xs).Nodup∧(od es xs).Pairwise fun a b=>bp es a<bp es b∨(bp es a=bp es b∧a<b):=by
 have eZ:(od es xs).Nodup:=(List.mergeSort_perm xs _).nodup_iff.2 hn
 refine⟨eZ,?_⟩
 have hO:=RT es
 have hp:(od es xs).Pairwise fun a b=>(!(Go.Proofs.ltOf (p6 es)) b a)=true:=List.pairwise_mergeSort (le:=fun x y=>!(Go.Proofs.ltOf (p6 es)) y x) (fun a b c h1 h2=>by
  simp only[acv]at *
  exact hO.ntrans c b a h2 h1) (fun a b=>by
  cases h1:Go.Proofs.ltOf (p6 es) b a with
  | false=>rfl
  | true =>
   cases h2:Go.Proofs.ltOf (p6 es) a b with
   | false=>rfl
   | true=>have:=hO.trans a b a h2 h1;rw[hO.irrefl]at this;cases this) xs
 rw[ab5]at eZ
 refine List.Pairwise.imp₂ (fun a b h1 h2=>?_) hp eZ
 cases h:Go.Proofs.ltOf (p6 es) a b with
 | true=>exact(Mw es a b).1 h
 | false=>exact(h2 (RU es a b h (by simpa using h1))).elim
theorem VB (t:Tm) (now:Int) (D:Int→Option Int) (h:KB t now D) (to:Int) (h1:now≤to) (h2:to≤1099511627776):aa Tryz.prog 73 [.ptr 0 0,.int .i64 fun _=>to] (sF t) (Y:=List Int×Tm)
  (RZ D to) (fun y=>.aG (.int .i64) fun _=>y.1) (fun y=>sF y.2):=by
 obtain⟨⟨P,hr,hc⟩,rfl⟩:=h
 (refine aa.q Tryz.func73 rfl fun S ao=>Wa _ ?_;(repeat' first|exact tv|apply pr|intro hh))
 all_goals first|(exfalso;omega)|skip
 refine aH.intro hm (X:=Tm×(Int→Option Pl)) (fun x=>kZ x.1 D x.2∧Can x.1.now D x.2∧x.1.now≤to) (fun x=>(to - x.1.now).toNat)
  (fun x=>[(1,.int .i64 fun _=>to),(2,.ptr 8 0),(4,.aY)])
  (fun x=>sF x.1++[.cells 110 [.ptr 0 0]]) (t,P) [0,1,2,3,4,5,6,7,8] ⟨rfl,rfl,?_,?_⟩ ⟨hr,hc,h1⟩ ?_
 ·exact Vc
 ·exact Vc
 rintro⟨t1,P1⟩ ⟨oC,FQ,Bf⟩
 simp only[]at oC FQ Bf
 (refine Wa _ ?_;(repeat' first|exact tv|apply pr|intro hh))
 (refine ab.q (RX t1 D P1 oC FQ) [0,1,2,3,4,5,6,7] fun _ _=>Wq _ ?_;(repeat' first|exact tv|apply pr|intro hh))
 rename_i y hs
 obtain⟨JB,n1,l1⟩:=y
 (refine aC.step hm rfl (Wc _ ?_);(repeat' first|exact tv|apply pr|intro hh))
 (refine aC.step hm rfl (Wc _ ?_);(repeat' first|exact tv|apply pr|intro hh))
 ·(refine aC.step hm rfl (Wc _ ?_);(repeat' first|exact tv|apply pr|intro hh))
  (refine aC.step hm rfl (Wc _ ?_);(repeat' first|exact tv|apply pr|intro hh))
  refine aC.nil 3 (.int .i64) none [10] ?_
  (conv=>whnf)
  (refine Wa _ ?_;(repeat' first|exact tv|apply pr|intro hh))
  refine .mk ⟨_,_,_,_,rfl,rfl,?_⟩
  (refine Wa _ ?_;(repeat' first|exact tv|apply pr|intro hh))
  have ZH:=oC.HS (n:=to) ⟨by have:=oC.iE.1;omega,h2⟩
  have XK:Can to D P1:=.mk fun id=>by
   rw[FQ.h id]
   cases hd:D id with
   | none=>rfl
   | some d=>exact congrArg some (hs.wait to id d Bf hh hd).symm
  have L4:t1.late.length≤1048576:=oC.late.len fun id hp=>by
   have h3:=FQ.h id
   rw[hp]at h3
   cases hd:D id with
   | none=>rw[hd]at h3;cases h3
   | some d=>have:=oC.BA id d hd;omega
  refine aH.intro hm (X:=Es Bool) (vY t1.late) (fun cO=>t1.late.length - cO.length)
   (fun cO=>[(2,.ptr 8 0),(4,.aY),(10,.vec 9 1 (fun _=>0) fun _=>(aS cO).length),(62,.ptr 10 0)])
   (fun cO=>sF (ko t1 to)++[.cells 110 [.ptr 0 0],.au 3 (.int .i64) fun _=>aS cO,.jD (.hm 3 fun _=>0) t1.lc t1.lc fun _=>cg cO]) [] [0,1,2,3,4,5,6,7,8,9,10] ⟨rfl,rfl,?_,?_⟩ (vY.nil _) ?_
  ·exact Vc
  ·exact Vc
  intro cO hv
  (refine Wa _ ?_;(repeat' first|exact tv|apply pr|intro hh))
  refine HE (fun b=>HV.iq .bool b) (es:=t1.late) (cO:=cO) rfl oC.late.lt (fun iy=>?_) (fun b n v bc hb=>?_)
  rotate_left
  ·have AF:=hv.By bc hb
   have oS:(aS cO).length=cO.length:=by simp[aS]
   have XL:aS (cO++[(b,n,v)])=aS cO++[n]:=by simp[aS]
   (refine Wa _ ?_;(repeat' first|exact tv|apply pr|intro hh))
   refine HF (fun b=>HV.iq .bool b) (es:=t1.late) (cO:=cO) rfl oC.late.vy bc ?_
   (refine Wa _ ?_;(repeat' first|exact tv|apply pr|intro hh))
   ·refine⟨⟨rfl,?_,?_⟩⟩
    ·show(aS cO).length+1≤_
     omega
    ·show((aS cO).length+1)*8≤_
     omega
   refine⟨cO++[(b,n,v)],[0,1,2,3,4,5,6,7,8,9,10],⟨rfl,rfl,?_,?_⟩,hv.add bc hb,?_⟩
   ·(refine Vb _ ?_;(repeat' first|exact tv|apply pr))
    rw[XL];try simp
   ·(refine Vb _ ?_;(repeat' first|exact tv|apply pr))
    rw[XL];try simp
   ·simp only[abp,abt,abP];omega
  have iy:=hv.all oC.late.vy iy
  have oS:(aS cO).length=cO.length:=by simp[aS]
  have JR:=hv.len
  (refine Wa _ ?_;(repeat' first|exact tv|apply pr|intro hh))
  (refine ab.q (HR (ko t1 to) (aS cO) (by omega)) [9,0,1,2,3,4,5,6,7,8] ?_;rintro _ _;refine Wp _ ?_;(repeat' first|exact tv|apply pr|intro hh))
  have xx:(od t1.due (aS cO)).length=(aS cO).length:=List.length_mergeSort _
  have R0:∀ id,bp t1.due id=(D id).getD 0:=fun id=>by unfold bp;rw[oC.mI]
  have VC:=E4 t1.due (hv.keys oC.late.nd)
  have hL:Told D to (od t1.due (aS cO)):=by
   refine⟨VC.1,fun id=>?_,VC.2.imp fun h=>by rw[R0,R0]at h;exact h⟩
   rw[EZ]
   have e1:id∈aS cO↔id∈aS t1.late:=by
    unfold aS;simp only[abR]
    exact⟨fun⟨e,h3,h4⟩=>⟨e,(iy e).1 h3,h4⟩,fun⟨e,h3,h4⟩=>⟨e,(iy e).2 h3,h4⟩⟩
   rw[e1,oC.late.mem,XK.h id]
   cases hd:D id with
   | none=>simp
   | some d=>simp[gI]
  have rK:(od t1.due (aS cO)).length≤1048576:=by omega
  rw[←xx]
  generalize ZI:od t1.due (aS cO)=L at *
  refine aH.intro hm (X:=Nat×Tm) (fun x=>x.1≤L.length∧KB x.2 to (fun id=>if id∈L.take x.1 then none else D id)) (fun x=>L.length - x.1)
   (fun x=>[(2,.ptr 8 0),(4,.aY),(10,.vec 9 1 (fun _=>0) fun _=>L.length),(74,.vec 9 1 (fun _=>0) fun _=>L.length),(75,.int .i64 fun _=>(L.length:Int)),(76,.int .i64 fun _=>(x.1:Int))])
   (fun x=>sF x.2++[.cells 110 [.ptr 0 0],.row 3 (.int .i64) fun _=>L]) (0,ko t1 to) [0,1,2,3,4,5,6,7,8,9] ⟨rfl,rfl,?_,?_⟩ ⟨abw _,?_⟩ ?_
  ·(refine Vb _ ?_;(repeat' first|exact tv|apply pr))
   exact ZI
  ·exact Vc
  ·refine⟨⟨P1,?_,XK⟩,rfl⟩
   simpa using ZH
  rintro⟨i,t3⟩ ⟨hi,jm⟩
  simp only[]at hi jm
  (refine Wa _ ?_;(repeat' first|exact tv|apply pr|intro hh))
  ·exact⟨⟨by simp,hh⟩⟩
  ·have yj:(i:Int)<L.length:=hh
   have dp:i<L.length:=by omega
   have ZJ:L[i]?=some (L.getD (0+i) 0):=by rw[abx,abi,abj dp];rfl
   (refine ab.q (C6 t3 to _ jm (L.getD (0+i) 0)) [0,1,2,3,4,5,6,7] ?_;rintro t4 h4;refine Wp _ ?_;(repeat' first|exact tv|apply pr|intro hh))
   refine⟨(i+1,t4),[0,1,2,3,4,5,6,7,8,9],⟨rfl,rfl,?_,?_⟩,⟨by omega,?_⟩,by simp only[];omega⟩
   ·exact Vc
   ·(refine Vb _ ?_;(repeat' first|exact tv|apply pr))
    show IntKind.i64.wrap ((i:Int)+1)=_
    rw[Wh.wr (by omega)];omega
   ·have e:(fun id=>if id∈L.take (i+1)then none else D id)=cI (fun id=>if id∈L.take i then none else D id) (L.getD (0+i) 0) none:=by
     funext j
     unfold cI
     rw[gR ZJ]
     by_cases hj:j=L.getD (0+i) 0
     ·rw[if_pos hj,if_pos (by simp[hj])]
     ·rw[if_neg hj]
      simp only[ab1,acO,hj,or_false]
    rw[e];exact h4
  ·have yj:¬(i:Int)<L.length:=hh
   have dp:L.length≤i:=by omega
   refine ae.jf 9 rfl ?_
   (conv=>whnf)
   (refine ae.im 9 ?_;(conv=>whnf))
   (refine ae.w (L,t3) [0,1,2,3,4,5,6,7] _ ?_;(repeat' first|exact tv|apply pr))
   ·simp
   ·refine⟨hL,?_⟩
    have e:(fun id=>if id∈L.take i then none else D id)=ue D to:=by
     funext j
     rw[abo dp]
     unfold ue
     by_cases hj:j∈L
     ·obtain⟨d,h3,h4⟩:=(hL.mem j).1 hj
      rw[if_pos hj,h3];simp[h4]
     ·rw[if_neg hj]
      cases hd:D j with
      | none=>rfl
      | some d =>
       have:¬d≤to:=fun h4=>hj ((hL.mem j).2 ⟨d,hd,h4⟩)
       simp[this]
    rw[←e];exact jm
 ·have hle:JB≤to:=by have h3:¬to<JB:=hh;omega
  (refine Wa _ ?_;(repeat' first|exact tv|apply pr|intro hh))
  refine aH.intro hm (X:=Nat×Tm) (fun x=>x.1≤l1.length∧kZ x.2 D (xF D P1 JB l1 x.1)∧x.2.now=JB) (fun x=>l1.length - x.1)
   (fun x=>[(1,.int .i64 fun _=>to),(2,.ptr 8 0),(4,.aY),(41,.aG (.int .i64) fun _=>l1),(42,.int .i64 fun _=>(l1.length:Int)),(43,.int .i64 fun _=>(x.1:Int))])
   (fun x=>sF x.2++[.cells 110 [.ptr 0 0]]) (0,ko t1 JB) [0,1,2,3,4,5,6,7,8] ⟨rfl,rfl,?_,?_⟩ ⟨abw _,?_,rfl⟩ ?_
  ·exact Vc
  ·exact Vc
  ·have e0:xF D P1 JB l1 0=P1:=by funext j;simp[xF]
   rw[e0]
   have yj:¬to<JB:=hh
   have hg:t1.now<JB:=hs.gt
   exact oC.HS ⟨by have:=oC.iE.1;omega,by omega⟩
  rintro⟨i,t2⟩ ⟨hi,tj,yl⟩
  simp only[]at hi tj yl
  (refine Wa _ ?_;(repeat' first|exact tv|apply pr|intro hh))
  ·exact⟨⟨by simp,hh⟩⟩
  ·have yj:(i:Int)<l1.length:=hh
   have dp:i<l1.length:=by omega
   have hlen:l1.length≤1048576:=hs.len
   have hL:l1[i]?=some (l1.getD i 0):=by rw[abi,abj dp];rfl
   obtain⟨d,hd⟩:=hs.mem (l1.getD i 0) (adl hL)
   (refine ab.q (liftM t2 D _ tj (l1.getD i 0)) [0,1,2,3,4,5,6,7] ?_;rintro t3 h3;refine Wp _ ?_;(repeat' first|exact tv|apply pr|intro hh))
   (refine ab.q (rn t3 D _ h3.rel (l1.getD i 0) d hd (by simp[cI])) [0,1,2,3,4,5,6,7] ?_;rintro t4 h4;refine Wp _ ?_;(repeat' first|exact tv|apply pr|intro hh))
   refine⟨(i+1,t4),[0,1,2,3,4,5,6,7,8],⟨rfl,rfl,?_,?_⟩,⟨by omega,?_,?_⟩,by simp only[];omega⟩
   ·exact Vc
   ·(refine Vb _ ?_;(repeat' first|exact tv|apply pr))
    show IntKind.i64.wrap ((i:Int)+1)=_
    rw[Wh.wr (by omega)];omega
   ·have:=h4.rel
    rw[h3.now.trans yl,HT hL hd]at this
    exact this
   ·exact h4.now.trans (h3.now.trans yl)
  ·have yj:¬(i:Int)<l1.length:=hh
   have dp:l1.length≤i:=by omega
   refine⟨(t2,xF D P1 JB l1 i),[0,1,2,3,4,5,6,7,8],⟨rfl,rfl,?_,?_⟩,⟨tj,?_,?_⟩,?_⟩
   ·exact Vc
   ·exact Vc
   ·rw[yl];exact KC FQ hs dp
   ·show t2.now≤to
    omega
   ·have hg:t1.now<JB:=hs.gt
    show(to - t2.now).toNat<(to - t1.now).toNat
    omega
end Go.Proofs.YthnefnlhcijekaaGreat.Ti
namespace Go.Proofs.YthnefnlhcijekaaGreat.Rc
open Go Go.RowKit Fw Wh
structure Ln where
 id:Int
 bR:Nat
 da:Nat
structure Rc where
 n:Nat
 lk:Nat→Ln
 at_:List (Nat×Int×Nat)
 pg:Nat
def ol (C:List Nat) (j:Nat):Nat:=if j=0 then C.getD (C.length - 1) 0 else C.getD (j - 1) 0
structure sq (w:Rc) (L:List Nat):Prop where
 lk:∀ j k,(0::L)[j]?=some k→(w.lk k).da=(0::L).getD (j+1) 0∧(w.lk k).bR=ol (0::L) j∧k<w.n
 nd:(0::L).Nodup
 vW:∀ id k,aO w.at_ id=some k↔k∈L∧(w.lk k).id=id
 keys:(aS w.at_).Nodup
 pos:∀ k∈L,0≤(w.lk k).id
def ko (w:Rc) (k v:Nat):Rc:={ w with lk:=fJ w.lk k { w.lk k with da:=v } }
def qa (w:Rc) (k v:Nat):Rc:={ w with lk:=fJ w.lk k { w.lk k with bR:=v } }
def oQ (w:Rc) (id:Int):Rc:={ w with at_:=b8 w.at_ id }
def tZ (w:Rc) (id:Int) (k:Nat):Rc:={ w with at_:=bY w.at_ w.pg id k,pg:=w.pg+1 }
def C7 (w:Rc) (k:Nat) (id:Int):Rc:=oQ (qa (ko w (w.lk k).bR (w.lk k).da) (w.lk k).da (w.lk k).bR) id
theorem C8 (w:Rc) (k v x:Nat):(ko w k v).lk x=if x=k then { w.lk k with da:=v } else w.lk x:=rfl
theorem KD (w:Rc) (k v x:Nat):(qa w k v).lk x=if x=k then { w.lk k with bR:=v } else w.lk x:=rfl
theorem uf (w:Rc) (p q a b x:Nat):((qa (ko w p a) q b).lk x).id=(w.lk x).id∧((qa (ko w p a) q b).lk x).da=(if x=p then a else(w.lk x).da)∧((qa (ko w p a) q b).lk x).bR=if x=q then b else(w.lk x).bR:=by
 rw[KD,C8,C8]
 by_cases h1:x=q
 ·subst h1
  rw[if_pos rfl,if_pos rfl]
  by_cases h2:x=p
  ·subst h2;rw[if_pos rfl,if_pos rfl];exact⟨rfl,rfl,rfl⟩
  ·rw[if_neg h2,if_neg h2];exact⟨rfl,rfl,rfl⟩
 ·rw[if_neg h1,if_neg h1]
  by_cases h2:x=p
  ·subst h2;rw[if_pos rfl,if_pos rfl];exact⟨rfl,rfl,rfl⟩
  ·rw[if_neg h2,if_neg h2];exact⟨rfl,rfl,rfl⟩
theorem KE {L:List Nat} {j k:Nat} (h:L[j]?=some k) (d:Nat):L.getD j d=k:=by rw[abi,h];rfl
theorem k9 (C:List Nat) (i j d:Nat):(C.eraseIdx i).getD j d=if j<i then C.getD j d else C.getD (j+1) d:=by
 rw[abi,bV]
 split <;> rw[abi]
theorem sq.drop {w:Rc} {L:List Nat} (h:sq w L) {i k:Nat} (hi:L[i]?=some k):sq (C7 w k (w.lk k).id) (L.eraseIdx i):=by
 have hC:(0::L)[i+1]?=some k:=hi
 have dp:=(abk.1 hi).1
 obtain⟨a1,a2,a3⟩:=h.lk _ _ hC
 have BB:(w.lk k).bR=(0::L).getD i 0:=by rw[a2];unfold ol;rw[if_neg (by omega)];rfl
 have hlen:(0::L).length=L.length+1:=rfl
 have XM:(0::L.eraseIdx i)=(0::L).eraseIdx (i+1):=rfl
 have R1:((0::L).eraseIdx (i+1)).length=L.length:=by rw[List.length_eraseIdx,if_pos (by rw[hlen];omega),hlen];omega
 have ZK:∃ p,(0::L)[i]?=some p:=⟨_,abj (by rw[hlen];omega)⟩
 obtain⟨p,hp⟩:=ZK
 have XN:(w.lk k).bR=p:=by rw[BB];exact KE hp 0
 have bc:∀ x,x∈L.eraseIdx i↔x∈L∧x≠k:=fun x=>by
  constructor
  ·intro hx
   obtain⟨j,hj⟩:=abu.1 hx
   rw[bV]at hj
   have eZ:=(aci.1 h.nd).2
   split at hj
   ·exact⟨abu.2 ⟨j,hj⟩,fun e=>by subst e;have:=ig eZ hj hi;omega⟩
   ·exact⟨abu.2 ⟨_,hj⟩,fun e=>by subst e;have:=ig eZ hj hi;omega⟩
  ·rintro⟨hx,bE⟩
   obtain⟨j,hj⟩:=abu.1 hx
   refine abu.2 ?_
   rcases acT j i with h1|h1|h1
   ·exact⟨j,by rw[bV,if_pos h1];exact hj⟩
   ·subst h1;rw[hi]at hj;cases hj;exact(bE rfl).elim
   ·exact⟨j - 1,by rw[bV,if_neg (by omega),show j - 1+1=j by omega];exact hj⟩
 have hid:∀ x,((C7 w k (w.lk k).id).lk x).id=(w.lk x).id:=fun x=>(uf w _ _ _ _ x).1
 refine⟨fun j x hj=>?_,?_,fun id y=>?_,cV h.keys _,fun y hy=>?_⟩
 ·obtain⟨-,b2,b3⟩:=uf w (w.lk k).bR (w.lk k).da (w.lk k).da (w.lk k).bR x
  show((qa (ko w (w.lk k).bR (w.lk k).da) (w.lk k).da (w.lk k).bR).lk x).da=_∧((qa (ko w (w.lk k).bR (w.lk k).da) (w.lk k).da (w.lk k).bR).lk x).bR=_∧x<w.n
  rw[b2,b3,XM]
  rw[XM,bV]at hj
  have lS:(0::L)[if j<i+1 then j else j+1]?=some x:=by
   by_cases hq:j<i+1
   ·rw[if_pos hq]at hj ⊢;exact hj
   ·rw[if_neg hq]at hj ⊢;exact hj
  have hx:=h.lk (if j<i+1 then j else j+1) x lS
  have OA:∀ m,(0::L)[m]?=some x→m=(if j<i+1 then j else j+1):=fun m hm=>ig h.nd hm lS
  refine⟨?_,?_,hx.2.2⟩
  ·rw[k9]
   by_cases T7:x=p
   ·rw[if_pos (by rw[XN];exact T7),a1]
    have:=OA i (by rw[hp,T7])
    have j8:j=i:=by split at this <;> omega
    rw[if_neg (by omega),j8]
   ·rw[if_neg (by rw[XN];exact T7),hx.1]
    have j8:j≠i:=fun e=>T7 (by rw[if_pos (by omega),e,hp]at hj;cases hj;rfl)
    by_cases h1:j<i+1
    ·rw[if_pos h1,if_pos (by omega)]
    ·rw[if_neg h1,if_neg (by omega)]
  ·unfold ol
   rw[R1]
   by_cases hq:i+2<L.length+1
   ·have XO:(0::L)[i+2]?=some (w.lk k).da:=by
     rw[a1]
     rw[abi,abj (by rw[hlen];omega)];rfl
    by_cases T8:x=(w.lk k).da
    ·rw[if_pos T8]
     have:=OA (i+2) (by rw[XO,T8])
     have j8:j=i+1:=by split at this <;> omega
     rw[if_neg (by omega),j8,k9,if_pos (by omega)]
     rw[BB];rfl
    ·rw[if_neg T8,hx.2.1]
     have j8:j≠i+1:=fun e=>T8 (by rw[if_neg (by omega),e,XO]at hj;cases hj;rfl)
     unfold ol
     by_cases h1:j<i+1
     ·simp only[if_pos h1]
      by_cases h0:j=0
      ·rw[if_pos h0,if_pos h0,k9,if_neg (by omega),hlen,show L.length - 1+1=L.length+1 - 1 by omega]
      ·rw[if_neg h0,if_neg h0,k9,if_pos (by omega)]
     ·simp only[if_neg h1]
      rw[if_neg (by omega),if_neg (by omega),k9,if_neg (by omega)]
      congr 1;omega
   ·have ZL:(w.lk k).da=0:=by
     rw[a1,abi,abS (by rw[hlen];omega)];rfl
    rw[ZL]
    by_cases h0:j=0
    ·subst h0
     rw[if_pos (by omega)]at hj
     have OB:x=0:=by simp at hj;exact hj.symm
     rw[if_pos OB,if_pos rfl,k9,if_pos (by omega),BB]
     congr 1;omega
    ·have OB:x≠0:=fun e=>by
      have:=OA 0 (by rw[e];rfl)
      split at this <;> omega
     rw[if_neg OB,if_neg h0,hx.2.1]
     have rN:j<i+1:=by
      by_cases h1:j<i+1
      ·exact h1
      ·rw[if_neg h1]at hj
       have:=(abk.1 hj).1
       rw[hlen]at this;omega
     unfold ol
     simp only[if_pos rN]
     rw[if_neg h0,k9,if_pos (by omega)]
 ·exact h.nd.sublist (List.Sublist.cons_cons _ (List.eraseIdx_sublist _ _))
 ·show aO (b8 w.at_ (w.lk k).id) id=some y↔_
  rw[eA h.keys,hid,bc]
  by_cases he:id=(w.lk k).id
  ·rw[if_pos he]
   refine⟨fun e=>(by cases e),fun⟨⟨h1,h2⟩,h3⟩=>?_⟩
   have e1:=(h.vW id y).2 ⟨h1,h3⟩
   have e2:=(h.vW id k).2 ⟨abu.2 ⟨i,hi⟩,he.symm⟩
   rw[e1]at e2;cases e2;exact(h2 rfl).elim
  ·rw[if_neg he,h.vW]
   constructor
   ·rintro⟨h1,h2⟩
    exact⟨⟨h1,fun e=>by subst e;exact he h2.symm⟩,h2⟩
   ·rintro⟨⟨h1,_⟩,h2⟩
    exact⟨h1,h2⟩
 ·rw[hid];exact h.pos y ((bc y).1 hy).1
def qb (w:Rc) (id:Int):Rc:={ w with n:=w.n+1,lk:=fJ w.lk w.n ⟨id,(w.lk 0).bR,0⟩ }
def mJ (w:Rc) (id:Int):Rc:=tZ (qa (ko (qb w id) (w.lk 0).bR w.n) 0 w.n) id w.n
theorem sq.root {w:Rc} {L:List Nat} (h:sq w L):(w.lk 0).da=(0::L).getD 1 0∧(w.lk 0).bR=(0::L).getD L.length 0∧0<w.n∧(w.lk 0).bR<w.n:=by
 have h1:=h.lk 0 0 rfl
 have e:(w.lk 0).bR=(0::L).getD L.length 0:=by rw[h1.2.1];rfl
 refine⟨h1.1,e,h1.2.2,?_⟩
 rw[e]
 have:(0::L)[L.length]?=some ((0::L).getD L.length 0):=by rw[abi,abj (by simp)];rfl
 exact(h.lk _ _ this).2.2
theorem sq.zr {w:Rc} {L:List Nat} (h:sq w L) {id:Int} (hid:0≤id) (cu:aO w.at_ id=none):sq (mJ w id) (L++[w.n]):=by
 obtain⟨r1,r2,r3,r4⟩:=h.root
 have bm:∀ x∈(0::L),x<w.n:=fun x hx=>by
  obtain⟨j,hj⟩:=abu.1 hx
  exact(h.lk j x hj).2.2
 have hlen:(0::L).length=L.length+1:=rfl
 have R2:(0::(L++[w.n]))=(0::L)++[w.n]:=rfl
 have Mp:∀ x,((mJ w id).lk x).id=(if x=w.n then id else(w.lk x).id)∧((mJ w id).lk x).da=(if x=(w.lk 0).bR then w.n else if x=w.n then 0 else(w.lk x).da)∧((mJ w id).lk x).bR=(if x=0 then w.n else if x=w.n then(w.lk 0).bR else(w.lk x).bR):=fun x=>by
  have e:∀ y,(qb w id).lk y=if y=w.n then⟨id,(w.lk 0).bR,0⟩else w.lk y:=fun y=>rfl
  obtain⟨b1,b2,b3⟩:=uf (qb w id) (w.lk 0).bR 0 w.n w.n x
  show((qa (ko (qb w id) (w.lk 0).bR w.n) 0 w.n).lk x).id=_∧((qa (ko (qb w id) (w.lk 0).bR w.n) 0 w.n).lk x).da=_∧((qa (ko (qb w id) (w.lk 0).bR w.n) 0 w.n).lk x).bR=_
  rw[b1,b2,b3,e x]
  by_cases hx:x=w.n
  ·simp only[if_pos hx]
   exact⟨trivial,trivial,trivial⟩
  ·simp only[if_neg hx]
   exact⟨trivial,trivial,trivial⟩
 have ji:(0::L)[L.length]?=some (w.lk 0).bR:=by rw[r2,abi,abj (by simp)];rfl
 have KF:∀ x,x<w.n→((mJ w id).lk x).id=(w.lk x).id:=fun x hx=>by rw[(Mp x).1,if_neg (by omega)]
 refine⟨fun j x hj=>?_,?_,fun yk y=>?_,?_,fun y hy=>?_⟩
 ·obtain⟨-,b2,b3⟩:=Mp x
  rw[b2,b3,R2]
  rw[R2,abT]at hj
  have BB:∀ m,m<L.length+1→((0::L)++[w.n]).getD m 0=(0::L).getD m 0:=fun m hm=>by
   rw[abi,abi,abT,if_pos (by rw[hlen];omega)]
  have hZ:((0::L)++[w.n]).getD (L.length+1) 0=w.n:=by
   rw[abi,abT,if_neg (by rw[hlen];omega),hlen];simp
  split at hj
  ·rename_i rN
   rw[hlen]at rN
   obtain⟨c1,c2,c3⟩:=h.lk j x hj
   have XP:x≠w.n:=by omega
   refine⟨?_,?_,by show x<w.n+1;omega⟩
   ·by_cases T9:x=(w.lk 0).bR
    ·rw[if_pos T9]
     have:j=L.length:=ig h.nd hj (by rw[ji,T9])
     subst this;exact hZ.symm
    ·rw[if_neg T9,if_neg XP,c1]
     have:j≠L.length:=fun e=>T9 (by rw[e,ji]at hj;cases hj;rfl)
     exact(BB _ (by omega)).symm
   ·unfold ol
    by_cases h0:j=0
    ·subst h0
     have OB:x=0:=by simp at hj;exact hj.symm
     rw[if_pos OB,if_pos rfl,abp,hlen]
     exact hZ.symm
    ·have OB:x≠0:=fun e=>h0 (ig h.nd hj (by rw[e];rfl))
     rw[if_neg OB,if_neg XP,if_neg h0,c2]
     unfold ol
     rw[if_neg h0,BB _ (by omega)]
  ·rename_i rN
   rw[hlen]at rN hj
   have RB:j=L.length+1:=by
    have:=(abk.1 hj).1;simp at this;omega
   subst RB
   simp at hj
   subst hj
   refine⟨?_,?_,by show w.n<w.n+1;omega⟩
   ·rw[if_neg (by omega),if_pos rfl,abi,abS (by simp)];rfl
   ·rw[if_neg (by omega),if_pos rfl]
    unfold ol
    rw[if_neg (by omega),show L.length+1 - 1=L.length by omega,BB _ (by omega),r2]
 ·rw[R2,ac6]
  exact⟨h.nd,by simp,fun a ha b hb=>by simp at hb;subst hb;have:=bm a ha;omega⟩
 ·show aO (bY w.at_ w.pg id w.n) yk=some y↔_
  rw[dt]
  by_cases he:yk=id
  ·rw[if_pos he]
   constructor
   ·intro e;cases e
    exact⟨by simp,by rw[(Mp w.n).1,if_pos rfl,he]⟩
   ·rintro⟨h1,h2⟩
    rcases ab1.1 h1 with h3|h3
    ·rw[KF y (bm y (abn _ h3)),he]at h2
     have:=(h.vW id y).2 ⟨h3,h2⟩
     rw[cu]at this;cases this
    ·simp at h3;rw[h3]
  ·rw[if_neg he,h.vW]
   constructor
   ·rintro⟨h1,h2⟩
    exact⟨adj _ h1,by rw[KF y (bm y (abn _ h1))];exact h2⟩
   ·rintro⟨h1,h2⟩
    rcases ab1.1 h1 with h3|h3
    ·exact⟨h3,by rw[KF y (bm y (abn _ h3))]at h2;exact h2⟩
    ·simp at h3;rw[h3,(Mp w.n).1,if_pos rfl]at h2;exact(he h2.symm).elim
 ·exact cU h.keys _ _ _
 ·rcases ab1.1 hy with h3|h3
  ·rw[KF y (bm y (abn _ h3))];exact h.pos y h3
  ·simp at h3;rw[h3,(Mp w.n).1,if_pos rfl];exact hid
structure eC (w:Rc) (ids:List Int):Prop where
 h:∃ L,sq w L∧ids=L.map fun k=>(w.lk k).id
theorem sq.uniq {w:Rc} {L:List Nat} (h:sq w L) {a b:Nat} (ha:a∈L) (hb:b∈L) (e:(w.lk a).id=(w.lk b).id):a=b:=by
 have h1:=(h.vW _ a).2 ⟨ha,rfl⟩
 have h2:=(h.vW _ b).2 ⟨hb,e.symm⟩
 rw[h1]at h2;cases h2;rfl
theorem eC.nd {w:Rc} {ids:List Int} (h:eC w ids):ids.Nodup:=by
 obtain⟨L,q,rfl⟩:=h.h
 rw[ab5,ac7]
 refine acW ?_ (ab5.1 (aci.1 q.nd).2)
 intro a b ha hb r8 e
 exact r8 (q.uniq ha hb e)
theorem eC.no {w:Rc} {ids:List Int} (h:eC w ids) {id:Int}:aO w.at_ id=none↔id∉ids:=by
 obtain⟨L,q,rfl⟩:=h.h
 constructor
 ·intro hg hm
  obtain⟨k,hk,e⟩:=abR.1 hm
  rw[(q.vW id k).2 ⟨hk,e⟩]at hg;cases hg
 ·intro hm
  cases hg:aO w.at_ id with
  | none=>rfl
  | some k =>
   obtain⟨hk,e⟩:=(q.vW id k).1 hg
   exact(hm (abR.2 ⟨k,hk,e⟩)).elim
theorem HU {α β:Type} (f:α→β):∀ (L:List α) (i:Nat),(L.eraseIdx i).map f=(L.map f).eraseIdx i
 | [],_=>rfl
 | a::r,0=>rfl
 | a::r,i+1=>by simp[HU f r i]
theorem zt:∀ (l:List Int) (i:Nat) (x:Int),l.Nodup→l[i]?=some x→l.eraseIdx i=l.erase x
 | [],i,x,_,h=>by simp at h
 | a::r,0,x,_,h=>by simp at h;subst h;simp
 | a::r,i+1,x,hn,h=>by
  have h2:r[i]?=some x:=h
  have hm:=abu.2 ⟨i,h2⟩
  have bE:a≠x:=fun e=>by subst e;exact(aci.1 hn).1 hm
  rw[List.eraseIdx_cons_succ,zt r i x (aci.1 hn).2 h2,List.erase_cons_tail (by simpa using bE)]
theorem E6 {w:Rc} {L:List Nat} (h:sq w L) {i k:Nat} (hi:L[i]?=some k):(L.eraseIdx i).map (fun k=>(w.lk k).id)=(L.map fun k=>(w.lk k).id).erase (w.lk k).id:=by
 have eZ:(L.map fun k=>(w.lk k).id).Nodup:=eC.nd ⟨L,h,rfl⟩
 have dp:=(abk.1 hi).1
 rw[HU]
 have cH:(L.map fun k=>(w.lk k).id)[i]?=some (w.lk k).id:=by rw[ach,hi];rfl
 exact zt _ _ _ eZ cH
theorem eC.drop {w:Rc} {ids:List Int} (h:eC w ids) {id:Int} {k:Nat} (hk:aO w.at_ id=some k):eC (C7 w k id) (ids.erase id)∧id∈ids:=by
 obtain⟨L,q,rfl⟩:=h.h
 obtain⟨h1,rfl⟩:=(q.vW id k).1 hk
 obtain⟨i,hi⟩:=abu.1 h1
 refine⟨⟨_,q.drop hi,?_⟩,abR.2 ⟨k,h1,rfl⟩⟩
 rw[←E6 q hi]
 exact acE fun x _=>((uf w _ _ _ _ x).1).symm
theorem eC.zr {w:Rc} {ids:List Int} (h:eC w ids) {id:Int} (hid:0≤id) (cu:id∉ids):eC (mJ w id) (ids++[id]):=by
 have hg:=h.no.2 cu
 obtain⟨L,q,rfl⟩:=h.h
 refine⟨_,q.zr hid hg,?_⟩
 have e:∀ y,((mJ w id).lk y).id=if y=w.n then id else(w.lk y).id:=fun y=>by
  have:=(uf (qb w id) (w.lk 0).bR 0 w.n w.n y).1
  show((qa (ko (qb w id) (w.lk 0).bR w.n) 0 w.n).lk y).id=_
  rw[this]
  show(fJ w.lk w.n _ y).id=_
  unfold fJ;split <;> rfl
 rw[adH,List.map_singleton,e,if_pos rfl]
 congr 1
 refine acE fun x hx=>?_
 obtain⟨j,hj⟩:=abu.1 hx
 have:=(q.lk (j+1) x hj).2.2
 rw[e,if_neg (by omega)]
theorem eC.walk {w:Rc} {ids:List Int} (h:eC w ids):∃ L:List Nat,L.length=ids.length∧(∀ (i k:Nat),L[i]?=some k→ids[i]?=some (w.lk k).id∧k≠0)∧(w.lk 0).da=L.getD 0 0∧(∀ (i k:Nat),L[i]?=some k→(w.lk k).da=L.getD (i+1) 0) ∧
  (∀ (id:Int) (k:Nat),aO w.at_ id=some k→∃ i:Nat,L[i]?=some k∧ids[i]?=some id):=by
 obtain⟨L,q,rfl⟩:=h.h
 refine⟨L,by simp,fun i k hi=>⟨by rw[ach,hi];rfl,fun e=>?_⟩,q.root.1,fun i k hi=>(q.lk (i+1) k hi).1,fun id k hk=>?_⟩
 ·subst e
  exact(aci.1 q.nd).1 (abu.2 ⟨i,hi⟩)
 ·obtain⟨h1,rfl⟩:=(q.vW id k).1 hk
  obtain⟨i,hi⟩:=abu.1 h1
  exact⟨i,hi,by rw[ach,hi];rfl⟩
def R3 (c:Nat):Rc:=⟨1,fun _=>⟨-1,0,0⟩,[],c⟩
theorem OC (c:Nat):eC (R3 c) []:=by
 refine⟨[],⟨fun j k hj=>?_,by simp,fun id k=>by simp[R3,aO],by simp[R3,aS],by simp⟩,rfl⟩
 cases j with
 | zero=>cases hj;exact⟨rfl,rfl,by show 0<1;omega⟩
 | succ j=>cases hj
end Go.Proofs.YthnefnlhcijekaaGreat.Rc
namespace Go.Proofs.YthnefnlhcijekaaGreat.Rc
open Go Go.RowKit Fw
open Wh (aN fK fJ bD aX)
theorem hm:Tryz.prog.follows .mixedOrders=true:=by kernel_rfl
abbrev KG:TypeId:=165
abbrev ga:TypeId:=162
def pt (k:Nat):Option (Nat×Nat):=some (k+1,0)
def eX (l:Ln):Nat→HV
 | 0=>.iq (.int .i64) l.id|1=>.hp (pt l.bR)|_=>.hp (pt l.da)
def sk (es:List (Nat×Int×Nat)):List (Nat×Int×HV):=es.map fun e=>(e.1,e.2.1,.hp (pt e.2.2))
theorem jh (es:List (Nat×Int×Nat)) (n:Int):aO (sk es) n=(aO es n).map fun k=>HV.hp (pt k):=by
 induction es with
 | nil=>rfl
 | cons e r ih =>
  obtain⟨b,k,x⟩:=e
  simp only[sk,abH,aO]
  split
  ·rfl
  ·exact ih
theorem tU (es:List (Nat×Int×Nat)) (n:Int):b8 (sk es) n=sk (b8 es n):=by
 induction es with
 | nil=>rfl
 | cons e r ih =>
  obtain⟨b,k,x⟩:=e
  simp only[sk,abH,b8]
  split
  ·rfl
  ·rw[abH];congr 1
theorem tV (es:List (Nat×Int×Nat)) (c:Nat) (n:Int) (v:Nat):bY (sk es) c n (.hp (pt v))=sk (bY es c n v):=by
 induction es with
 | nil=>rfl
 | cons e r ih =>
  obtain⟨b,k,x⟩:=e
  simp only[sk,abH,bY]
  split
  ·rfl
  ·rw[abH];congr 1
def xq (w:Rc):Nat→HO
 | 0=>.map (sk w.at_) w.pg
 | k+1=>.cells ga 3 (eX (w.lk k))
def oT (w:Rc):Hp:=⟨w.n+1,xq w⟩
section
variable {P:Program} {t i:Nat} {w:Rc} {f:Unit→Option (Nat×Nat)} {K:AV→Prop}
theorem Kv (n:Nat) (hf:f ()=some (n+1,0)) (ht:ph P t=true) (k:K (.int .i64 fun _=>(w.lk n).id)):FI P t i (fun _=>oT w) f K :=
 ⟨n+1,0,ga,3,eX (w.lk n),_,hf,rfl,by omega,rfl,ht,k⟩
theorem xG (n:Nat) (hf:f ()=some (n+1,1)) (ht:ph P t=true) (k:K (.hp i fun _=>pt (w.lk n).bR)):FI P t i (fun _=>oT w) f K :=
 ⟨n+1,1,ga,3,eX (w.lk n),_,hf,rfl,by omega,rfl,ht,k⟩
theorem nt (n:Nat) (hf:f ()=some (n+1,2)) (ht:ph P t=true) (k:K (.hp i fun _=>pt (w.lk n).da)):FI P t i (fun _=>oT w) f K :=
 ⟨n+1,2,ga,3,eX (w.lk n),_,hf,rfl,by omega,rfl,ht,k⟩
theorem Kw (hz:iU P t=some (.pointer none)) {g:Unit→Nat} {n:Unit→Int} (hg:g ()=0)
  (k1:∀ k,aO w.at_ (n ())=some k→K (.bM [.hp i fun _=>pt k,.tt])) (k0:aO w.at_ (n ())=none→K (.bM [.bZ,.ff])):PR P t true i (fun _=>oT w) g n K :=
 ⟨sk w.at_,w.pg,_,by rw[hg];rfl,hz,fun v hv=>by
  rw[jh]at hv
  cases h:aO w.at_ (n ())with
  | none=>rw[h]at hv;cases hv
  | some k=>rw[h]at hv;cases hv;exact k1 k h,fun hv=>by
  rw[jh]at hv
  cases h:aO w.at_ (n ())with
  | none=>exact k0 h
  | some k=>rw[h]at hv;cases hv⟩
end
section
variable {i:Nat} {w:Rc} {f:Unit→Option (Nat×Nat)} {v:AV} {K:Hp→Prop}
theorem C9 {w:Rc} (n:Nat) (l:Ln) (p:Nat) (hv:HV) (he:∀ q,q<3→eX l q=if q=p then hv else eX (w.lk n) q) :
  (oT { w with lk:=fJ w.lk n l }).eb ((oT w).set (n+1) (.cells ga 3 fun q=>if q=p then hv else eX (w.lk n) q)):=by
 refine⟨rfl,fun j hj=>?_⟩
 match j with
 | 0=>exact aN rfl
 | j+1 =>
  by_cases h:j=n
  ·subst h
   simp only[oT,Hp.set,xq,bD,if_true]
   exact fK he
  ·simp only[oT,Hp.set,xq]
   rw[if_neg (by omega),aX _ _ _ h]
   exact HO.aJ _
theorem Da (n x:Nat) (hf:f ()=some (n+1,1)) (hv:fo i v (.hp (pt x))) (k:K (oT (qa w n x))):AT i v (fun _=>oT w) f K :=
 ⟨n+1,1,ga,3,eX (w.lk n),.hp (pt x),oT (qa w n x),hf,rfl,by omega,hv,C9 n _ 1 _ (fun q hq=>by
  match q,hq with
  | 0,_=>rfl
  | 1,_=>rfl
  | 2,_=>rfl),k⟩
theorem Db (n x:Nat) (hf:f ()=some (n+1,2)) (hv:fo i v (.hp (pt x))) (k:K (oT (ko w n x))):AT i v (fun _=>oT w) f K :=
 ⟨n+1,2,ga,3,eX (w.lk n),.hp (pt x),oT (ko w n x),hf,rfl,by omega,hv,C9 n _ 2 _ (fun q hq=>by
  match q,hq with
  | 0,_=>rfl
  | 1,_=>rfl
  | 2,_=>rfl),k⟩
theorem Oh {P:Program} {t:Nat} (hz:iU P t=some (.pointer none)) {g:Unit→Nat} {n:Unit→Int} (hg:g ()=0) (k:K (oT (oQ w (n ())))):Nj P t n (fun _=>oT w) g K:=by
 refine⟨sk w.at_,w.pg,_,oT (oQ w (n ())),by rw[hg];rfl,hz,⟨rfl,fun j hj=>?_⟩,k⟩
 rw[hg]
 match j with
 | 0=>simp only[oT,Hp.set,xq,if_true,tU];exact HO.aJ _
 | j+1=>exact aN rfl
theorem Oi {P:Program} {t:Nat} (hz:iU P t=some (.pointer none)) {g:Unit→Nat} {n:Unit→Int} (x:Nat) (hg:g ()=0) (hv:fo i v (.hp (pt x))) (cu:aO w.at_ (n ())=none) (k:K (oT (tZ w (n ()) x))):Ni P t i n v (fun _=>oT w) g K:=by
 refine⟨sk w.at_,w.pg,_,.hp (pt x),oT (tZ w (n ()) x),by rw[hg];rfl,hz,hv,⟨rfl,fun j hj=>?_⟩,k⟩
 rw[hg]
 match j with
 | 0 =>
  simp only[oT,Hp.set,xq,if_true,vc,tV,jh,cu]
  exact HO.aJ _
 | j+1=>exact aN rfl
end
theorem HW (w:Rc) (id:Int):(oT (qb w id)).eb ((oT w).add (.cells ga 3 (eX ⟨id,(w.lk 0).bR,0⟩))):=by
 refine⟨rfl,fun j hj=>?_⟩
 match j with
 | 0=>exact aN (by simp[oT,Hp.add,xq,qb])
 | k+1 =>
  by_cases h:k=w.n
  ·subst h;exact aN (by simp[oT,Hp.add,xq,qb,bD])
  ·refine aN ?_
   simp only[oT,Hp.add,xq,qb]
   rw[aX _ _ _ h];exact(if_neg (show¬(k+1=w.n+1) by omega)).symm
end Go.Proofs.YthnefnlhcijekaaGreat.Rc
namespace Go.Proofs.YthnefnlhcijekaaGreat.Rc
open Go Go.RowKit Fw
open Wh (aN fK fJ bD aX)
abbrev RP:AV:=.ptr 0 0
def BC (w:Rc):List Chunk:=[.cells KG [.hp 1 fun _=>pt 0,.hm 1 fun _=>0],.heap fun _=>oT w]
theorem mD (w:Rc) (ids:List Int) (hw:eC w ids) (id:Int):aa Tryz.prog 76 [RP,.int .i64 fun _=>id] (BC w) (Y:=Rc) (fun w'=>eC w' (ids.erase id))
  (fun _=>.bool fun _=>decide (id∈ids)) BC:=by
 (refine aa.q Tryz.func76 rfl fun S ao=>Wa _ ?_;(repeat' first|exact tv|apply pr|intro hh))
 (all_goals first|exact Ob.mk (fun h=>by cases h)|exact Ob.mk ⟨(fun h=>by cases h),by simp only[];omega,by simp only[];omega⟩|skip)
 refine Kw rfl rfl (fun k hk=>?_) (fun hk=>?_)
 rotate_left
 ·have hp:=hw.no.1 hk
  (refine Wa _ ?_;(repeat' first|exact tv|apply pr|intro hh))
  (refine ae.w w [0,1] _ ?_;(repeat' first|exact tv|apply pr))
  ·simp[hp]
  ·rw[adb hp];exact hw
 obtain⟨h1,h2⟩:=hw.drop hk
 (refine Wa _ ?_;(repeat' first|exact tv|apply pr|intro hh))
 (all_goals first|exact Ob.mk (fun h=>by cases h)|exact Ob.mk ⟨(fun h=>by cases h),by simp only[];omega,by simp only[];omega⟩|skip)
 iterate 4
  (first|refine xG k rfl rfl ?_|refine nt k rfl rfl ?_)
  (refine Wa _ ?_;(repeat' first|exact tv|apply pr|intro hh))
  (all_goals first|exact Ob.mk (fun h=>by cases h)|exact Ob.mk ⟨(fun h=>by cases h),by simp only[];omega,by simp only[];omega⟩|skip)
 refine Db (w.lk k).bR (w.lk k).da rfl (.eq (.hp _)) ?_
 (refine Wa _ ?_;(repeat' first|exact tv|apply pr|intro hh))
 (all_goals first|exact Ob.mk (fun h=>by cases h)|exact Ob.mk ⟨(fun h=>by cases h),by simp only[];omega,by simp only[];omega⟩|skip)
 refine Da (w.lk k).da (w.lk k).bR rfl (.eq (.hp _)) ?_
 (refine Wa _ ?_;(repeat' first|exact tv|apply pr|intro hh))
 (all_goals first|exact Ob.mk (fun h=>by cases h)|exact Ob.mk ⟨(fun h=>by cases h),by simp only[];omega,by simp only[];omega⟩|skip)
 refine Oh rfl rfl ?_
 (refine Wa _ ?_;(repeat' first|exact tv|apply pr|intro hh))
 (refine ae.w (C7 w k id) [0,1] _ ?_;(repeat' first|exact tv|apply pr))
 ·simp[h2]
 ·exact h1
theorem OD (w:Rc) (ids:List Int) (hw:eC w ids) (id:Int) (h0:0≤id):aa Tryz.prog 74 [RP,.int .i64 fun _=>id] (BC w) (Y:=Rc) (fun w'=>eC w' (ids.erase id++[id]))
  (fun _=>.int .i64 fun _=>0) BC:=by
 (refine aa.q Tryz.func74 rfl fun S ao=>Wa _ ?_;(repeat' first|exact tv|apply pr|intro hh))
 ·exfalso;omega
 (refine ab.q (mD w ids hw id) [0,1] ?_;rintro w1 Ek;refine Wp _ ?_;(repeat' first|exact tv|apply pr|intro hh))
 (all_goals first|exact Ob.mk (fun h=>by cases h)|exact Ob.mk ⟨(fun h=>by cases h),by simp only[];omega,by simp only[];omega⟩|skip)
 have cu:id∉ids.erase id:=fun h=>((acf hw.nd).1 h).1 rfl
 have hg:=Ek.no.2 cu
 refine xG 0 rfl rfl ?_
 (refine Wc _ ?_;(repeat' first|exact tv|apply pr|intro hh))
 (all_goals first|exact Ob.mk (fun h=>by cases h)|exact Ob.mk ⟨(fun h=>by cases h),by simp only[];omega,by simp only[];omega⟩|skip)
 refine aC.ie 1 2 rfl (oT (qb w1 id)) (eX ⟨id,(w1.lk 0).bR,0⟩) rfl rfl (fun p v h=>?_) ?_ ?_
 ·match p with
  | 0=>cases h;exact .eq (.iq (.int .i64) id)
  | 1=>cases h;exact .eq (.hp _)
  | 2=>cases h;exact .eq (.hp _)
 ·exact HW w1 id
 (conv=>whnf)
 have en:(qb w1 id).lk w1.n=⟨id,(w1.lk 0).bR,0⟩:=bD ..
 (refine Wb _ ?_;(repeat' first|exact tv|apply pr|intro hh))
 (all_goals first|exact Ob.mk (fun h=>by cases h)|exact Ob.mk ⟨(fun h=>by cases h),by simp only[];omega,by simp only[];omega⟩|skip)
 iterate 2
  (first|refine xG w1.n rfl rfl ?_|refine nt w1.n rfl rfl ?_)
  rw[en]
  (refine Wa _ ?_;(repeat' first|exact tv|apply pr|intro hh))
  (all_goals first|exact Ob.mk (fun h=>by cases h)|exact Ob.mk ⟨(fun h=>by cases h),by simp only[];omega,by simp only[];omega⟩|skip)
 refine Db (w1.lk 0).bR w1.n rfl (.eq (.hp (pt w1.n))) ?_
 (refine Wa _ ?_;(repeat' first|exact tv|apply pr|intro hh))
 (all_goals first|exact Ob.mk (fun h=>by cases h)|exact Ob.mk ⟨(fun h=>by cases h),by simp only[];omega,by simp only[];omega⟩|skip)
 refine Da 0 w1.n rfl (.eq (.hp (pt w1.n))) ?_
 (refine Wa _ ?_;(repeat' first|exact tv|apply pr|intro hh))
 (all_goals first|exact Ob.mk (fun h=>by cases h)|exact Ob.mk ⟨(fun h=>by cases h),by simp only[];omega,by simp only[];omega⟩|skip)
 refine Oi rfl w1.n rfl (.eq (.hp (pt w1.n))) hg ?_
 (refine Wa _ ?_;(repeat' first|exact tv|apply pr|intro hh))
 (refine ae.w (mJ w1 id) [0,1] _ ?_;(repeat' first|exact tv|apply pr))
 exact Ek.zr h0 cu
theorem R4 {w:Rc} {f g:Unit→Option (Nat×Nat)} {K:AV→Prop} (a b:Nat) (hf:f ()=pt a) (hg:g ()=pt b) (k:K (.bool fun _=>decide (a=b))):WT (fun _=>oT w) f g K:=by
 refine⟨fun x hx=>?_,fun x hx=>?_,?_⟩
 ·rw[hf]at hx;cases hx;exact⟨ga,3,_,rfl⟩
 ·rw[hg]at hx;cases hx;exact⟨ga,3,_,rfl⟩
 ·have e:(fun u=>f u == g u)=fun _=>decide (a=b):=by
   funext u;cases u
   rw[hf,hg]
   by_cases h:a=b
   ·subst h;simp
   ·simp[pt,h]
  rw[e];exact k
theorem Dc (w:Rc) (k q:Nat) (hq:(w.lk k).da=q):aa Tryz.prog 132 [RP,.hp 1 fun _=>pt k] (BC w) (Y:=Unit) (fun _=>True)
  (fun _=>.bM [.int .i64 fun _=>if q=0 then 0 else(w.lk q).id,.bool fun _=>!decide (q=0)]) (fun _=>BC w):=by
 (refine aa.q Tryz.func132 rfl fun S ao=>Wa _ ?_;(repeat' first|exact tv|apply pr|intro hh))
 (all_goals first|exact Ob.mk (fun h=>by cases h)|exact Ob.mk ⟨(fun h=>by cases h),by simp only[];omega,by simp only[];omega⟩|skip)
 refine nt k rfl rfl ?_
 (refine Wa _ ?_;(repeat' first|exact tv|apply pr|intro hh))
 (all_goals first|exact Ob.mk (fun h=>by cases h)|exact Ob.mk ⟨(fun h=>by cases h),by simp only[];omega,by simp only[];omega⟩|skip)
 refine R4 (w.lk k).da 0 rfl rfl ?_
 rw[hq]
 (refine Wa _ ?_;(repeat' first|exact tv|apply pr|intro hh))
 ·(refine ae.w () [0,1] _ ?_;(repeat' first|exact tv|apply pr))
  ·rw[if_pos hh]
  ·simp[hh]
 (all_goals first|exact Ob.mk (fun h=>by cases h)|exact Ob.mk ⟨(fun h=>by cases h),by simp only[];omega,by simp only[];omega⟩|skip)
 refine nt k rfl rfl ?_
 rw[hq]
 (refine Wa _ ?_;(repeat' first|exact tv|apply pr|intro hh))
 (all_goals first|exact Ob.mk (fun h=>by cases h)|exact Ob.mk ⟨(fun h=>by cases h),by simp only[];omega,by simp only[];omega⟩|skip)
 refine Kv q rfl rfl ?_
 (refine Wa _ ?_;(repeat' first|exact tv|apply pr|intro hh))
 (refine ae.w () [0,1] _ ?_;(repeat' first|exact tv|apply pr))
 ·rw[if_neg hh]
 ·simp[hh]
theorem sG {w:Rc} {ids:List Int} {L:List Nat} (hl:L.length=ids.length) (h2:∀ (i k:Nat),L[i]?=some k→ids[i]?=some (w.lk k).id∧k≠0) (i:Nat) :
  (L.getD i 0=0↔ids.length≤i)∧(if L.getD i 0=0 then 0 else(w.lk (L.getD i 0)).id)=ids.getD i 0:=by
 by_cases hi:i<L.length
 ·have hk:L[i]?=some (L.getD i 0):=by rw[abi,abj hi];rfl
  obtain⟨h3,h4⟩:=h2 i _ hk
  refine⟨⟨fun e=>(h4 e).elim,fun e=>by omega⟩,?_⟩
  rw[if_neg h4,abi (l:=ids),h3];rfl
 ·have e:L.getD i 0=0:=by rw[abi,abS (by omega)];rfl
  rw[e]
  refine⟨⟨fun _=>by omega,fun _=>rfl⟩,?_⟩
  rw[if_pos rfl,abi,abS (by omega)];rfl
theorem KH (w:Rc) (ids:List Int) (hw:eC w ids):aa Tryz.prog 75 [RP] (BC w) (Y:=Unit) (fun _=>True)
  (fun _=>.bM [.int .i64 fun _=>ids.getD 0 0,.bool fun _=>decide (0<ids.length)]) (fun _=>BC w):=by
 obtain⟨L,hl,h2,h3,h4,h5⟩:=hw.walk
 have hx:=sG hl h2 0
 (refine aa.q Tryz.func75 rfl fun S ao=>Wa _ ?_;(repeat' first|exact tv|apply pr|intro hh))
 (all_goals first|exact Ob.mk (fun h=>by cases h)|exact Ob.mk ⟨(fun h=>by cases h),by simp only[];omega,by simp only[];omega⟩|skip)
 (refine ab.q (Dc w 0 (L.getD 0 0) h3) [0,1] fun _ _=>Wp _ ?_;(repeat' first|exact tv|apply pr|intro hh))
 (refine ae.w () [0,1] _ ?_;(repeat' first|exact tv|apply pr))
 ·exact hx.2
 ·rw[decide_eq_decide.2 hx.1,←decide_not,decide_eq_decide];omega
theorem OE (w:Rc) (ids:List Int) (hw:eC w ids) (id:Int) (i:Nat) (hi:ids[i]?=some id):aa Tryz.prog 125 [RP,.int .i64 fun _=>id] (BC w) (Y:=Unit) (fun _=>True)
  (fun _=>.bM [.int .i64 fun _=>ids.getD (i+1) 0,.bool fun _=>decide (i+1<ids.length)]) (fun _=>BC w):=by
 obtain⟨L,hl,h2,h3,h4,h5⟩:=hw.walk
 have hx:=sG hl h2 (i+1)
 (refine aa.q Tryz.func125 rfl fun S ao=>Wa _ ?_;(repeat' first|exact tv|apply pr|intro hh))
 (all_goals first|exact Ob.mk (fun h=>by cases h)|exact Ob.mk ⟨(fun h=>by cases h),by simp only[];omega,by simp only[];omega⟩|skip)
 refine Kw rfl rfl (fun k hk=>?_) (fun hk=>?_)
 rotate_left
 ·exact(hw.no.1 hk (abu.2 ⟨i,hi⟩)).elim
 obtain⟨j,Ua,lS⟩:=h5 id k hk
 have cD:j=i:=by
  have e1:=abk.1 lS
  have e2:=abk.1 hi
  exact(List.getElem_inj hw.nd).1 (e1.2.trans e2.2.symm)
 subst cD
 (refine Wa _ ?_;(repeat' first|exact tv|apply pr|intro hh))
 (refine ab.q (Dc w k (L.getD (j+1) 0) (h4 j k Ua)) [0,1] fun _ _=>Wp _ ?_;(repeat' first|exact tv|apply pr|intro hh))
 (refine ae.w () [0,1] _ ?_;(repeat' first|exact tv|apply pr))
 ·exact hx.2
 ·rw[decide_eq_decide.2 hx.1,←decide_not,decide_eq_decide];omega
theorem OF (w:Rc) (ids:List Int) (hw:eC w ids) (hn:ids.length≤1000000):aa Tryz.prog 61 [RP] (BC w) (Y:=Unit) (fun _=>True)
  (fun _=>.aG (.int .i64) fun _=>ids) (fun _=>BC w):=by
 obtain⟨L,hl,h2,h3,h4,h5⟩:=hw.walk
 (refine aa.q Tryz.func61 rfl fun S ao=>Wc _ ?_;(repeat' first|exact tv|apply pr|intro hh))
 (refine aC.step hm rfl (Wc _ ?_);(repeat' first|exact tv|apply pr|intro hh))
 (refine aC.step hm rfl (Wc _ ?_);(repeat' first|exact tv|apply pr|intro hh))
 (refine aC.step hm rfl (Wc _ ?_);(repeat' first|exact tv|apply pr|intro hh))
 refine aC.nil 3 (.int .i64) none [3] ?_
 (conv=>whnf)
 (refine Wb _ ?_;(repeat' first|exact tv|apply pr|intro hh))
 (all_goals first|exact Ob.mk (fun h=>by cases h)|exact Ob.mk ⟨(fun h=>by cases h),by simp only[];omega,by simp only[];omega⟩|skip)
 refine nt 0 rfl rfl ?_
 rw[h3]
 (refine Wc _ ?_;(repeat' first|exact tv|apply pr|intro hh))
 apply aC.step hm rfl
 (conv=>whnf)
 refine aH.intro hm (X:=Nat) (fun i=>i≤L.length) (fun i=>L.length+1 - i)
  (fun i=>[(0,RP),(2,.aY),(3,.vec 2 1 (fun _=>0) fun _=>i),(4,.hp 1 fun _=>pt (L.getD i 0))])
  (fun i=>BC w++[.au 3 (.int .i64) fun _=>ids.take i]) 0 [0,1,2] ⟨rfl,rfl,?_,?_⟩ (abw _) ?_
 ·exact Vc
 ·exact Vc
 ·intro i hi
  (refine Wa _ ?_;(repeat' first|exact tv|apply pr|intro hh))
  (all_goals first|exact Ob.mk (fun h=>by cases h)|exact Ob.mk ⟨(fun h=>by cases h),by simp only[];omega,by simp only[];omega⟩|skip)
  refine R4 (L.getD i 0) 0 rfl rfl ?_
  (refine Wa _ ?_;(repeat' first|exact tv|apply pr|intro hh))
  rotate_right
  ·have eH:ids.length≤i:=(sG hl h2 i).1.1 hh
   (refine ae.im 2 ?_;(conv=>whnf))
   (refine ae.w () [0,1] _ ?_;(repeat' first|exact tv|apply pr))
   rw[abA,adS,abo (by omega)]
  all_goals have dp:i<ids.length:=by have:=mt (sG hl h2 i).1.2 hh;omega
  all_goals have hk:L[i]?=some (L.getD i 0):=by rw[abi,abj (by omega)];rfl
  (all_goals first|exact Ob.mk (fun h=>by cases h)|exact Ob.mk ⟨(fun h=>by cases h),by simp only[];omega,by simp only[];omega⟩|skip)
  refine Kv _ rfl rfl ?_
  (refine Wa _ ?_;(repeat' first|exact tv|apply pr|intro hh))
  (all_goals first|exact Ob.mk (fun h=>by cases h)|exact Ob.mk ⟨(fun h=>by cases h),by simp only[];omega,by simp only[];omega⟩|skip)
  ·refine⟨⟨rfl,?_,?_⟩⟩
   ·show i+1≤_
    omega
   ·show(i+1)*8≤_
    omega
  refine nt _ rfl rfl ?_
  rw[h4 i _ hk]
  (refine Wa _ ?_;(repeat' first|exact tv|apply pr|intro hh))
  refine⟨i+1,[0,1,2],⟨rfl,rfl,?_,?_⟩,by omega,by omega⟩
  ·(refine Vb _ ?_;(repeat' first|exact tv|apply pr))
   have hid:=(h2 i _ hk).1
   rw[show ids.take (i+1)=ids.take i++[(w.lk (L.getD i 0)).id] by rw[abY,hid];rfl]
   simp[adS]
  ·exact Vc
theorem nK:aa Tryz.prog 55 [] [] (Y:=Rc) (fun w=>eC w [])
  (fun _=>RP) BC:=by
 (refine aa.q Tryz.func55 rfl fun S ao=>Wa _ ?_;(repeat' first|exact tv|apply pr|intro hh))
 refine ae.mu (fun _=>.map [] 0) ?_
 (conv=>whnf)
 refine ae.gH 3 1 rfl (fun c=>⟨1,fun _=>.map [] c⟩) rfl rfl (fun c=>⟨rfl,fun j hj=>?_⟩) (fun c=>?_)
 ·have:j=0:=by change j<1 at hj;omega
  subst this;exact HO.aJ _
 (conv=>whnf)
 refine ae.ie 3 0 rfl (oT (R3 c)) (eX ⟨-1,0,0⟩) rfl rfl (fun p v h=>?_) ?_ ?_
 ·match p with
  | 0=>cases h;exact .eq (.iq (.int .i64) (-1))
  | 1=>cases h;exact .eq (.hp _)
  | 2=>cases h;exact .eq (.hp _)
 ·refine⟨rfl,fun j hj=>?_⟩
  match j,hj with
  | 0,_=>exact HO.aJ _
  | 1,_=>exact HO.aJ _
  | j+2,hj=>exact absurd hj (by show¬(j+2<1+1);omega)
 (conv=>whnf)
 (refine ae.w (R3 c) [2,3] _ ?_;(repeat' first|exact tv|apply pr))
 exact OC c
end Go.Proofs.YthnefnlhcijekaaGreat.Rc
set_option maxRecDepth 8000
namespace Go.Proofs.YthnefnlhcijekaaGreat.Eb
open Go Go.RowKit Fw
abbrev gx (n G:Nat) (wd:He) (k:Nat):OQ:=EH (xn n G wd k) fun s=>pk (Sl.ch s)
section
variable {n G:Nat} {wd:He} {k:Nat}
structure HX (n:Nat) (wd:He) (h:Int):Prop where
 no:wd h=none
 pos:0≤h∧0≤h.tmod 64∧h.tmod 64<n
 other:∀ h' w,wd h'=some w→h'.tmod 64≠h.tmod 64
theorem BD (hG:G≤1000000000) (hk:0<k):aa Tryz.prog 64 [.ptr 0 0] [.bg (gx n G wd k)] (Y:=Int) (HX n wd)
  (fun h=>.bM [.int .i64 fun _=>h,.int .i64 fun _=>0]) (fun h=>[.bg (gx n G (iB wd h (some (List.replicate 19 0))) (k - 1))]):=by
 refine aa.boxed ⟨_,Tryz.func64,rfl,by decide⟩ (fun s p=>?_) rfl (fun _ _=>rfl) (fun _ _=>rfl)
 obtain⟨r,hr,_⟩:=p.h
 obtain⟨h,h1,h2,h3,h4,h5,h6,h7⟩:=p.take hG hk
 exact(Sl.Ry s n hr.ok).as fun _ _=>⟨(h,Sl.tP s),⟨⟨h2,⟨h3,h4,h5⟩,h6⟩,h7⟩,by rw[h1],rfl⟩
theorem OG (hG:G≤1000000000) {h:Int} {w:List Int} (e:wd h=some w):aa Tryz.prog 134 [.ptr 0 0,.int .i64 fun _=>h] [.bg (gx n G wd k)] (Y:=Unit) (fun _=>True)
  (fun _=>.int .i64 fun _=>0) (fun _=>[.bg (gx n (G+1) (iB wd h none) (k+1))]):=by
 refine aa.boxed ⟨_,Tryz.func134,rfl,by decide⟩ (fun s p=>?_) rfl (fun _ _=>rfl) (fun _ _=>rfl)
 obtain⟨h1,h2⟩:=p.Hc hG e
 exact(Sl.Rt s h).as fun _ _=>⟨((),Sl.mo s (h.tmod 64).toNat),⟨trivial,h2⟩,by simp[h1],by simp[h1]⟩
theorem OH (hG:G≤1000000000) {h:Int} {w:List Int} (e:wd h=some w):aa Tryz.prog 111 [.ptr 0 0,.int .i64 fun _=>h] [.bg (gx n G wd k)] (Y:=Unit) (fun _=>True)
  (fun _=>.bM [.aG (.int .u64) fun _=>w,.int .i64 fun _=>0]) (fun _=>[.bg (gx n G wd k)]):=by
 refine aa.boxed ⟨_,Tryz.func111,rfl,by decide⟩ (fun s p=>?_) rfl (fun _ _=>rfl) (fun _ _=>rfl)
 obtain⟨r,hr,_⟩:=p.h
 obtain⟨h1,h2⟩:=p.read hG e
 exact(Sl.CJ s n hr.ok h h1).as fun _ _=>⟨((),s),⟨trivial,p⟩,by rw[←h2];rfl,rfl⟩
theorem KI (hG:G≤1000000000) {h:Int} {w:List Int} (e:wd h=some w) (v:List Int) (hv:v.length=19):aa Tryz.prog 117 [.ptr 0 0,.int .i64 fun _=>h,.aG (.int .u64) fun _=>v] [.bg (gx n G wd k)] (Y:=Unit) (fun _=>True)
  (fun _=>.int .i64 fun _=>0) (fun _=>[.bg (gx n G (iB wd h (some v)) k)]):=by
 refine aa.boxed ⟨_,Tryz.func117,rfl,by decide⟩ (fun s p=>?_) rfl (fun _ _=>rfl) (fun _ _=>rfl)
 obtain⟨r,hr,_⟩:=p.h
 obtain⟨h1,h2,h3⟩:=p.write hG e hv
 exact(Sl.N3 s n hr.ok h v).as fun _ _=>⟨((),Sl.kW s (h.tmod 64) v),⟨trivial,h3⟩,by simp[h1,h2,hv],by simp[h1,h2,hv]⟩
theorem xH:aa Tryz.prog 70 [.ptr 0 0] [.bg (gx n G wd k)] (Y:=Unit) (fun _=>True)
  (fun _=>.int .i64 fun _=>(k:Int)) (fun _=>[.bg (gx n G wd k)]):=by
 refine aa.boxed ⟨_,Tryz.func70,rfl,by decide⟩ (fun s p=>?_) rfl (fun _ _=>rfl) (fun _ _=>rfl)
 exact(Sl.Rs s).as fun _ _=>⟨((),s),⟨trivial,p⟩,by rw[p.fr.1],rfl⟩
structure BE (wd:He) (l:List Int):Prop where
 nd:l.Nodup
 mem:∀ h,h∈l↔(wd h).isSome=true
theorem HY (hG:G≤1000000000):aa Tryz.prog 66 [.ptr 0 0] [.bg (gx n G wd k)] (Y:=List Int) (BE wd)
  (fun l=>.aG (.int .i64) fun _=>l) (fun _=>[.bg (gx n G wd k)]):=by
 refine aa.boxed ⟨_,Tryz.func66,rfl,by decide⟩ (fun s p=>?_) rfl (fun _ _=>rfl) (fun _ _=>rfl)
 obtain⟨r,hr,_⟩:=p.h
 have hc:=hr.ok.cap
 obtain⟨h1,h2⟩:=p.live hG
 exact(Sl.Mk s (by rw[hr.ok.len];omega)).as fun _ _=>⟨(Sl.taken s,s),⟨⟨h1,h2⟩,p⟩,rfl,rfl⟩
theorem R5 {n:Nat} (hn:1≤n∧n≤64):aa Tryz.prog 56 [.int .i64 fun _=>(n:Int),.int .i64 fun _=>19] [] (Y:=Unit) (fun _=>True)
  (fun _=>.bM [.ptr 0 0,.int .i64 fun _=>0]) (fun _=>[.bg (gx n 0 (fun _=>none) n)]) :=
 aa.mr ((Sl.nK n 19 hn (by decide)).as fun _ _=>⟨((),Sl.iA n 19),⟨trivial,xn.new hn⟩,rfl,rfl⟩) fun _ _=>rfl
end
abbrev vp (now:Int) (D:Int→Option Int):OQ:=EH (fun t=>Ti.KB t now D) fun t=>pk (Ti.sF t)
theorem R6 (now:Int) (D:Int→Option Int) (id d:Int) (hi:0≤id∧id≤1048575) (hd:0≤d∧d≤1099511627776):aa Tryz.prog 119 [.ptr 0 0,.int .i64 fun _=>id,.int .i64 fun _=>d] [.bg (vp now D)] (Y:=Unit) (fun _=>True)
  (fun _=>.int .i64 fun _=>0) (fun _=>[.bg (vp now (iB D id (some d)))]):=by
 refine aa.boxed ⟨_,Tryz.func119,rfl,by decide⟩ (fun t p=>?_) rfl (fun _ _=>rfl) (fun _ _=>rfl)
 exact(Ti.Bs t now D p id d hi hd).as fun t' h=>⟨((),t'),⟨trivial,h⟩,rfl,rfl⟩
theorem HZ (now:Int) (D:Int→Option Int) (id:Int):aa Tryz.prog 131 [.ptr 0 0,.int .i64 fun _=>id] [.bg (vp now D)] (Y:=Unit) (fun _=>True)
  (fun _=>.bool fun _=>(D id).isSome) (fun _=>[.bg (vp now (iB D id none))]):=by
 refine aa.boxed ⟨_,Tryz.func131,rfl,by decide⟩ (fun t p=>?_) rfl (fun _ _=>rfl) (fun _ _=>rfl)
 exact(Ti.C6 t now D p id).as fun t' h=>⟨((),t'),⟨trivial,h⟩,rfl,rfl⟩
theorem R7 (now:Int) (D:Int→Option Int) (to:Int) (h1:now≤to) (h2:to≤1099511627776):aa Tryz.prog 73 [.ptr 0 0,.int .i64 fun _=>to] [.bg (vp now D)] (Y:=List Int) (fun l=>Ti.Told D to l∧l.length≤1048576)
  (fun l=>.aG (.int .i64) fun _=>l) (fun _=>[.bg (vp to (Ti.ue D to))]):=by
 refine aa.boxed ⟨_,Tryz.func73,rfl,by decide⟩ (fun t p=>?_) rfl (fun _ _=>rfl) (fun _ _=>rfl)
 obtain⟨P,hr,_⟩:=p.h
 exact(Ti.VB t now D p to h1 h2).as fun y h=>⟨(y.1,y.2),⟨⟨h.told,Wh.oP (n:=1048576) h.told.nd fun x hx=>(by
  obtain⟨d,hd,_⟩:=(h.told.mem x).1 hx
  have:=hr.BA x d hd
  omega)⟩,h.ok⟩,rfl,rfl⟩
theorem R8:aa Tryz.prog 58 [.int .i64 fun _=>0] [] (Y:=Unit) (fun _=>True)
  (fun _=>.bM [.ptr 0 0,.int .i64 fun _=>0]) (fun _=>[.bg (vp 0 fun _=>none)]) :=
 aa.mr ((Ti.nK 0 ⟨by omega,by omega⟩).as fun t h=>⟨((),t),⟨trivial,h⟩,rfl,rfl⟩) fun _ _=>rfl
abbrev mK (ids:List Int):OQ:=EH (fun w=>Rc.eC w ids) fun w=>pk (Rc.BC w)
theorem BF (ids:List Int) (id:Int):aa Tryz.prog 76 [.ptr 0 0,.int .i64 fun _=>id] [.bg (mK ids)] (Y:=Unit) (fun _=>True)
  (fun _=>.bool fun _=>decide (id∈ids)) (fun _=>[.bg (mK (ids.erase id))]):=by
 refine aa.boxed ⟨_,Tryz.func76,rfl,by decide⟩ (fun w p=>?_) rfl (fun _ _=>rfl) (fun _ _=>rfl)
 exact(Rc.mD w ids p id).as fun w' h=>⟨((),w'),⟨trivial,h⟩,rfl,rfl⟩
theorem xI (ids:List Int) (id:Int) (h0:0≤id):aa Tryz.prog 74 [.ptr 0 0,.int .i64 fun _=>id] [.bg (mK ids)] (Y:=Unit) (fun _=>True)
  (fun _=>.int .i64 fun _=>0) (fun _=>[.bg (mK (ids.erase id++[id]))]):=by
 refine aa.boxed ⟨_,Tryz.func74,rfl,by decide⟩ (fun w p=>?_) rfl (fun _ _=>rfl) (fun _ _=>rfl)
 exact(Rc.OD w ids p id h0).as fun w' h=>⟨((),w'),⟨trivial,h⟩,rfl,rfl⟩
theorem zu (ids:List Int):aa Tryz.prog 75 [.ptr 0 0] [.bg (mK ids)] (Y:=Unit) (fun _=>True)
  (fun _=>.bM [.int .i64 fun _=>ids.getD 0 0,.bool fun _=>decide (0<ids.length)]) (fun _=>[.bg (mK ids)]):=by
 refine aa.boxed ⟨_,Tryz.func75,rfl,by decide⟩ (fun w p=>?_) rfl (fun _ _=>rfl) (fun _ _=>rfl)
 exact(Rc.KH w ids p).as fun _ _=>⟨((),w),⟨trivial,p⟩,rfl,rfl⟩
theorem KJ (ids:List Int) (id:Int) (i:Nat) (hi:ids[i]?=some id):aa Tryz.prog 125 [.ptr 0 0,.int .i64 fun _=>id] [.bg (mK ids)] (Y:=Unit) (fun _=>True)
  (fun _=>.bM [.int .i64 fun _=>ids.getD (i+1) 0,.bool fun _=>decide (i+1<ids.length)]) (fun _=>[.bg (mK ids)]):=by
 refine aa.boxed ⟨_,Tryz.func125,rfl,by decide⟩ (fun w p=>?_) rfl (fun _ _=>rfl) (fun _ _=>rfl)
 exact(Rc.OE w ids p id i hi).as fun _ _=>⟨((),w),⟨trivial,p⟩,rfl,rfl⟩
theorem Dd (ids:List Int) (hn:ids.length≤1000000):aa Tryz.prog 61 [.ptr 0 0] [.bg (mK ids)] (Y:=Unit) (fun _=>True)
  (fun _=>.aG (.int .i64) fun _=>ids) (fun _=>[.bg (mK ids)]):=by
 refine aa.boxed ⟨_,Tryz.func61,rfl,by decide⟩ (fun w p=>?_) rfl (fun _ _=>rfl) (fun _ _=>rfl)
 exact(Rc.OF w ids p hn).as fun _ _=>⟨((),w),⟨trivial,p⟩,rfl,rfl⟩
theorem Mz:aa Tryz.prog 55 [] [] (Y:=Unit) (fun _=>True) (fun _=>.ptr 0 0) (fun _=>[.bg (mK [])]) :=
 aa.mr (Rc.nK.as fun w h=>⟨((),w),⟨trivial,h⟩,rfl,rfl⟩) fun _ _=>rfl
end Go.Proofs.YthnefnlhcijekaaGreat.Eb
namespace Go.Proofs.YthnefnlhcijekaaGreat.Ro
abbrev Sl:=Bool×List UInt8×Int×Int
def z:Sl:=(false,[],0,0)
def sg (L:List Sl) (i:Nat):Sl:=L.getD i z
def ad (n h e:Nat):Nat:=if h+e<n then h+e else h+e - n
theorem OI {n h e:Nat} (hh:h<n) (he:e≤n):(h+e) % n=ad n h e:=by
 unfold ad
 split
 ·exact acs ‹_›
 ·rw[Nat.mod_eq_sub_mod (by omega),acs (by omega)]
theorem lF {n h e:Nat} (hh:h<n) (he:e≤n):ad n h e<n:=by unfold ad;split <;> omega
theorem OJ {n h e d:Nat} (hh:h<n) (he:e<n) (hd:d<n) (h2:ad n h e=ad n h d):e=d:=by
 unfold ad at h2;split at h2 <;> split at h2 <;> omega
theorem j1 {n h e:Nat} (hh:h<n) (he:e<n):ad n (ad n h e) 1=ad n h (e+1):=by
 unfold ad;split <;> split <;> split <;> omega
theorem zv {n h:Nat} (hh:h<n) (h2:2≤n):ad n h 1≠h:=by unfold ad;split <;> omega
theorem De {n a b:Nat} (ha:a<n) (hb:b<n) (h:ad n a 1=ad n b 1):a=b:=by unfold ad at h;split at h <;> split at h <;> omega
theorem H0 {n h u:Nat} (hh:h<n) (hu:u<n):∃ e,e<n∧ad n h e=u:=by
 by_cases h1:h≤u
 ·exact⟨u - h,by omega,by unfold ad;rw[if_pos (by omega)];omega⟩
 ·exact⟨u+n - h,by omega,by unfold ad;rw[if_neg (by omega)];omega⟩
theorem ij (L:List Sl) (i j:Nat) (x:Sl) (hi:i<L.length):sg (L.set i x) j=if j=i then x else sg L j:=by
 unfold sg
 rw[abi,abi,acG]
 by_cases h:i=j
 ·subst h;rw[if_pos rfl,if_pos rfl,if_pos hi];rfl
 ·rw[if_neg h,if_neg (fun e=>h e.symm)]
def Way (L:List Sl) (n h d:Nat):Prop:=∀ e,e<d→(sg L (ad n h e)).1=true∧(e:Int)≤(sg L (ad n h e)).2.2.2
structure vq (L:List Sl) (n:Nat) (home:List UInt8→Nat):Prop where
 len:L.length=n
 n2:2≤n
 hm:∀ k,home k<n
 pos:∀ i,i<n→(sg L i).1=true→∃ d:Nat,(sg L i).2.2.2=d∧d<n∧i=ad n (home (sg L i).2.1) d∧Way L n (home (sg L i).2.1) d
 uniq:∀ i j,i<n→j<n→(sg L i).1=true→(sg L j).1=true→(sg L i).2.1=(sg L j).2.1→i=j
structure Jw (L:List Sl) (n:Nat) (home:List UInt8→Nat):Prop extends vq L n home where
 cut:∃ c,c<n∧((sg L c).1=false∨(sg L c).2.2.2=0)
def rp (L:List Sl) (n:Nat) (M:List UInt8→Option Int):Prop:=∀ k v,M k=some v↔∃ i,i<n∧(sg L i).1=true∧(sg L i).2.1=k∧(sg L i).2.2.1=v
theorem xJ {L:List Sl} {n:Nat} {home:List UInt8→Nat} (h:vq L n home) {k:List UInt8} {d:Nat} (hd:d≤n) (cu:∀ e,e<d→(sg L (ad n (home k) e)).2.1≠k)
  (H2:d=n∨(sg L (ad n (home k) d)).1=false∨(sg L (ad n (home k) d)).2.2.2<d):∀ i,i<n→(sg L i).1=true→(sg L i).2.1≠k:=by
 intro i hi hu hk
 obtain⟨q,h1,h2,h3,h4⟩:=h.pos i hi hu
 rw[hk]at h3 h4
 by_cases hq:q<d
 ·exact cu q hq (by rw[←h3];exact hk)
 ·rcases H2 with h5|h5|h5
  ·omega
  ·by_cases VD:q=d
   ·subst VD;rw[←h3,hu]at h5;cases h5
   ·have:=h4 d (by omega);rw[h5]at this;exact Bool.noConfusion this.1
  ·by_cases VD:q=d
   ·subst VD;rw[←h3,h1]at h5;omega
   ·have:=h4 d (by omega);omega
theorem vq.val {L:List Sl} {n:Nat} {home:List UInt8→Nat} (h:vq L n home) {i:Nat} (hi:i<n) (v:Int) :
  vq (L.set i ((sg L i).1,(sg L i).2.1,v,(sg L i).2.2.2)) n home:=by
 have hl:=h.len
 have hg:∀ j,(sg (L.set i ((sg L i).1,(sg L i).2.1,v,(sg L i).2.2.2)) j).1=(sg L j).1∧(sg (L.set i ((sg L i).1,(sg L i).2.1,v,(sg L i).2.2.2)) j).2.1=(sg L j).2.1∧(sg (L.set i ((sg L i).1,(sg L i).2.1,v,(sg L i).2.2.2)) j).2.2.2=(sg L j).2.2.2:=fun j=>by
  rw[ij _ _ _ _ (by omega)]
  split
  ·rename_i e;subst e;exact⟨rfl,rfl,rfl⟩
  ·exact⟨rfl,rfl,rfl⟩
 refine⟨by rw[abC];exact hl,h.n2,h.hm,fun j hj hu=>?_,fun a b ha hb qc rZ hk=>?_⟩
 ·rw[(hg j).1]at hu
  obtain⟨d,h1,h2,h3,h4⟩:=h.pos j hj hu
  rw[(hg j).2.1,(hg j).2.2]
  exact⟨d,h1,h2,h3,fun e he=>by rw[(hg _).1,(hg _).2.2];exact h4 e he⟩
 ·rw[(hg a).1]at qc
  rw[(hg b).1]at rZ
  rw[(hg a).2.1,(hg b).2.1]at hk
  exact h.uniq a b ha hb qc rZ hk
structure ug (L:List Sl) (n:Nat) (home:List UInt8→Nat) (h0 t:Nat) (x:Sl):Prop where
 ok:vq L n home
 OK:h0<n
 used:x.1=true
 at_:∃ d:Nat,x.2.2.2=d∧d≤t∧ad n h0 t=ad n (home x.2.1) d∧Way L n (home x.2.1) d
 new:∀ j,j<n→(sg L j).1=true→(sg L j).2.1≠x.2.1
 full:∀ e,e<t→(sg L (ad n h0 e)).1=true
 free:∃ u,u<n∧(sg L u).1=false
theorem ug.t {L:List Sl} {n:Nat} {home:List UInt8→Nat} {h0 t:Nat} {x:Sl} (h:ug L n home h0 t x):t<n:=by
 obtain⟨u,hu,hf⟩:=h.free
 obtain⟨e,he,h1⟩:=H0 h.OK hu
 by_cases ht:t<n
 ·exact ht
 ·have:=h.full e (by omega)
  rw[h1,hf]at this;cases this
theorem ug.place {L:List Sl} {n:Nat} {home:List UInt8→Nat} {h0 t:Nat} {x:Sl} (h:ug L n home h0 t x) (hf:(sg L (ad n h0 t)).1=false):Jw (L.set (ad n h0 t) x) n home:=by
 have ht:=h.t
 have hl:=h.ok.len
 have hi:=lF h.OK (e:=t) (by omega)
 obtain⟨d,h1,h2,h3,h4⟩:=h.at_
 have hg:=fun j=>ij L (ad n h0 t) j x (by omega)
 have E7:∀ q m,Way L n q m→Way (L.set (ad n h0 t) x) n q m:=fun q m hw e he=>by
  have:=hw e he
  rw[hg]
  split
  ·rename_i e2;rw[e2,hf]at this;exact Bool.noConfusion this.1
  ·exact this
 refine⟨⟨by rw[abC];exact hl,h.ok.n2,h.ok.hm,fun j hj hu=>?_,fun a b ha hb qc rZ hk=>?_⟩,?_⟩
 ·rw[hg]at hu ⊢
  by_cases j8:j=ad n h0 t
  ·subst j8
   simp only[if_true]at hu ⊢
   exact⟨d,h1,by omega,h3,E7 _ _ h4⟩
  ·simp only[if_neg j8]at hu ⊢
   obtain⟨q,k1,k2,k3,k4⟩:=h.ok.pos j hj hu
   exact⟨q,k1,k2,k3,E7 _ _ k4⟩
 ·rw[hg]at qc hk
  rw[hg]at rZ hk
  by_cases h5:a=ad n h0 t <;> by_cases h6:b=ad n h0 t
  ·rw[h5,h6]
  ·rw[if_pos h5,if_neg h6]at hk
   rw[if_neg h6]at rZ
   exact(h.new b hb rZ hk.symm).elim
  ·rw[if_neg h5,if_pos h6]at hk
   rw[if_neg h5]at qc
   exact(h.new a ha qc hk).elim
  ·rw[if_neg h5,if_neg h6]at hk
   rw[if_neg h5]at qc
   rw[if_neg h6]at rZ
   exact h.ok.uniq a b ha hb qc rZ hk
 ·refine⟨ad n (ad n h0 t) 1,lF hi (by have:=h.ok.n2;omega),?_⟩
  rw[hg]
  have bE:ad n (ad n h0 t) 1≠ad n h0 t:=zv hi h.ok.n2
  rw[if_neg bE]
  cases hu:(sg L (ad n (ad n h0 t) 1)).1 with
  | false=>exact .inl rfl
  | true =>
   right
   obtain⟨q,k1,k2,k3,k4⟩:=h.ok.pos _ (lF hi (by have:=h.ok.n2;omega)) hu
   cases q with
   | zero=>rw[k1];rfl
   | succ q =>
    exfalso
    have h5:=k4 q (by omega)
    have hq:=h.ok.hm (sg L (ad n (ad n h0 t) 1)).2.1
    generalize home (sg L (ad n (ad n h0 t) 1)).2.1=H at *
    have:ad n H q=ad n h0 t:=De (lF hq (by omega)) hi ((j1 hq (by omega)).trans k3.symm)
    rw[this,hf]at h5;exact Bool.noConfusion h5.1
theorem ug.step {L:List Sl} {n:Nat} {home:List UInt8→Nat} {h0 t:Nat} {x:Sl} (h:ug L n home h0 t x) (hu:(sg L (ad n h0 t)).1=true) (hd:¬(sg L (ad n h0 t)).2.2.2<x.2.2.2) :
  ug L n home h0 (t+1) (x.1,x.2.1,x.2.2.1,x.2.2.2+1):=by
 have ht:=h.t
 obtain⟨d,h1,h2,h3,h4⟩:=h.at_
 refine⟨h.ok,h.OK,h.used,⟨d+1,by show x.2.2.2+1=_;rw[h1];rfl,by omega,?_,fun e he=>?_⟩,h.new,fun e he=>?_,h.free⟩
 ·rw[←j1 h.OK ht,h3,j1 (h.ok.hm _) (by omega)]
 ·by_cases VE:e=d
  ·subst VE
   show(sg L (ad n (home x.2.1) e)).1=true∧_
   rw[←h3];exact⟨hu,by omega⟩
  ·exact h4 e (by omega)
 ·by_cases het:e=t
  ·subst het;exact hu
  ·exact h.full e (by omega)
theorem ug.swap {L:List Sl} {n:Nat} {home:List UInt8→Nat} {h0 t:Nat} {x:Sl} (h:ug L n home h0 t x) (hu:(sg L (ad n h0 t)).1=true) (hd:(sg L (ad n h0 t)).2.2.2<x.2.2.2) :
  ug (L.set (ad n h0 t) x) n home h0 (t+1) ((sg L (ad n h0 t)).1,(sg L (ad n h0 t)).2.1,(sg L (ad n h0 t)).2.2.1,(sg L (ad n h0 t)).2.2.2+1):=by
 have ht:=h.t
 have hl:=h.ok.len
 have hi:=lF h.OK (e:=t) (by omega)
 obtain⟨d,h1,h2,h3,h4⟩:=h.at_
 have hg:=fun j=>ij L (ad n h0 t) j x (by omega)
 obtain⟨q,k1,k2,k3,k4⟩:=h.ok.pos _ hi hu
 have E7:∀ H m,Way L n H m→Way (L.set (ad n h0 t) x) n H m:=fun H m hw e he=>by
  have:=hw e he
  rw[hg]
  split
  ·rename_i e2
   refine⟨h.used,?_⟩
   have h5:=this.2
   rw[e2]at h5
   omega
  ·exact this
 refine⟨⟨by rw[abC];exact hl,h.ok.n2,h.ok.hm,fun j hj vr=>?_,fun a b ha hb qc rZ hk=>?_⟩,h.OK,hu,⟨q+1,by show(sg L (ad n h0 t)).2.2.2+1=_;rw[k1];rfl,by omega,?_,fun e he=>?_⟩,fun j hj vr=>?_,fun e he=>?_,?_⟩
 ·rw[hg]at vr ⊢
  by_cases j8:j=ad n h0 t
  ·subst j8
   simp only[if_true]at vr ⊢
   exact⟨d,h1,by omega,h3,E7 _ _ h4⟩
  ·simp only[if_neg j8]at vr ⊢
   obtain⟨p,p1,p2,p3,p4⟩:=h.ok.pos j hj vr
   exact⟨p,p1,p2,p3,E7 _ _ p4⟩
 ·rw[hg]at qc hk
  rw[hg]at rZ hk
  by_cases h5:a=ad n h0 t <;> by_cases h6:b=ad n h0 t
  ·rw[h5,h6]
  ·rw[if_pos h5,if_neg h6]at hk
   rw[if_neg h6]at rZ
   exact(h.new b hb rZ hk.symm).elim
  ·rw[if_neg h5,if_pos h6]at hk
   rw[if_neg h5]at qc
   exact(h.new a ha qc hk).elim
  ·rw[if_neg h5,if_neg h6]at hk
   rw[if_neg h5]at qc
   rw[if_neg h6]at rZ
   exact h.ok.uniq a b ha hb qc rZ hk
 ·rw[←j1 h.OK ht]
  show _=ad n (home (sg L (ad n h0 t)).2.1) (q+1)
  rw[←j1 (h.ok.hm _) k2,←k3]
 ·show(sg (L.set (ad n h0 t) x) (ad n (home (sg L (ad n h0 t)).2.1) e)).1=true∧_
  by_cases heq:e=q
  ·subst heq
   rw[←k3,hg,if_pos rfl]
   exact⟨h.used,by omega⟩
  ·exact E7 _ _ k4 e (by omega)
 ·rw[hg]at vr ⊢
  by_cases j8:j=ad n h0 t
  ·subst j8
   simp only[if_true]
   exact fun e=>h.new _ hi hu e.symm
  ·simp only[if_neg j8]at vr ⊢
   exact fun e=>j8 (h.ok.uniq j _ hj hi vr hu e)
 ·rw[hg]
  split
  ·exact h.used
  ·by_cases het:e=t
   ·subst het;exact hu
   ·exact h.full e (by omega)
 ·obtain⟨u,Up,D4⟩:=h.free
  refine⟨u,Up,?_⟩
  rw[hg,if_neg (fun e=>by rw[e,hu]at D4;cases D4)]
  exact D4
end Go.Proofs.YthnefnlhcijekaaGreat.Ro
namespace Go.Proofs.YthnefnlhcijekaaGreat.Ro
def bF (L:List Sl):Nat:=L.countP (·.1)
theorem jG (L:List Sl) (i:Nat) (x:Sl) (hi:i<L.length):bF (L.set i x)+(if(sg L i).1 then 1 else 0)=bF L+(if x.1 then 1 else 0):=by
 unfold bF sg
 have hg:L.getD i z=L[i]:=by rw[abi,abj hi];rfl
 rw[hg,List.countP_set hi]
 have:(if(L[i]).1=true then 1 else 0)≤L.countP (·.1):=by
  split
  ·exact List.countP_pos_iff.2 ⟨L[i],abO hi,‹_›⟩
  ·omega
 omega
def BG (L:List Sl) (n:Nat) (x:Sl) (M:List UInt8→Option Int):Prop:=∀ k v,M k=some v↔(∃ i,i<n∧(sg L i).1=true∧(sg L i).2.1=k∧(sg L i).2.2.1=v)∨(x.2.1=k∧x.2.2.1=v)
def bP (M:List UInt8→Option Int) (k:List UInt8) (v:Option Int):List UInt8→Option Int:=fun j=>if j=k then v else M j
theorem R9 {L:List Sl} {n:Nat} {M:List UInt8→Option Int} (h:rp L n M) (k:List UInt8) (v d:Int) (cu:M k=none):BG L n (true,k,v,d) (bP M k (some v)):=by
 intro j u
 unfold bP
 by_cases hj:j=k
 ·subst hj
  rw[if_pos rfl]
  constructor
  ·intro e;cases e;exact .inr ⟨rfl,rfl⟩
  ·rintro(h1|⟨_,h1⟩)
   ·rw[←h,cu]at h1;cases h1
   ·exact congrArg some h1
 ·rw[if_neg hj,h]
  constructor
  ·exact .inl
  ·rintro(h1|⟨h1,_⟩)
   ·exact h1
   ·exact(hj h1.symm).elim
theorem BG.swap {L:List Sl} {n i:Nat} {x:Sl} {M:List UInt8→Option Int} (h:BG L n x M) (hl:L.length=n) (hi:i<n) (hu:(sg L i).1=true) (hx:x.1=true) :
  BG (L.set i x) n ((sg L i).1,(sg L i).2.1,(sg L i).2.2.1,(sg L i).2.2.2+1) M:=by
 intro k v
 rw[h]
 have hg:=fun j=>ij L i j x (by omega)
 constructor
 ·rintro(⟨j,h1,h2,h3,h4⟩|⟨h1,h2⟩)
  ·by_cases hj:j=i
   ·subst hj;exact .inr ⟨h3,h4⟩
   ·exact .inl ⟨j,h1,by rw[hg,if_neg hj];exact h2,by rw[hg,if_neg hj];exact h3,by rw[hg,if_neg hj];exact h4⟩
  ·exact .inl ⟨i,hi,by rw[hg,if_pos rfl];exact hx,by rw[hg,if_pos rfl];exact h1,by rw[hg,if_pos rfl];exact h2⟩
 ·rintro(⟨j,h1,h2,h3,h4⟩|⟨h1,h2⟩)
  ·rw[hg]at h2 h3 h4
   by_cases hj:j=i
   ·rw[if_pos hj]at h3 h4;exact .inr ⟨h3,h4⟩
   ·rw[if_neg hj]at h2 h3 h4;exact .inl ⟨j,h1,h2,h3,h4⟩
  ·exact .inl ⟨i,hi,hu,h1,h2⟩
theorem BG.place {L:List Sl} {n i:Nat} {x:Sl} {M:List UInt8→Option Int} (h:BG L n x M) (hl:L.length=n) (hi:i<n) (hf:(sg L i).1=false) (hx:x.1=true):rp (L.set i x) n M:=by
 intro k v
 rw[h]
 have hg:=fun j=>ij L i j x (by omega)
 constructor
 ·rintro(⟨j,h1,h2,h3,h4⟩|⟨h1,h2⟩)
  ·have hj:j≠i:=fun e=>by subst e;rw[hf]at h2;cases h2
   exact⟨j,h1,by rw[hg,if_neg hj];exact h2,by rw[hg,if_neg hj];exact h3,by rw[hg,if_neg hj];exact h4⟩
  ·exact⟨i,hi,by rw[hg,if_pos rfl];exact hx,by rw[hg,if_pos rfl];exact h1,by rw[hg,if_pos rfl];exact h2⟩
 ·rintro⟨j,h1,h2,h3,h4⟩
  rw[hg]at h2 h3 h4
  by_cases hj:j=i
  ·rw[if_pos hj]at h3 h4;exact .inr ⟨h3,h4⟩
  ·rw[if_neg hj]at h2 h3 h4;exact .inl ⟨j,h1,h2,h3,h4⟩
theorem rp.val {L:List Sl} {n i:Nat} {home:List UInt8→Nat} {M:List UInt8→Option Int} (h:rp L n M) (ho:vq L n home) (hi:i<n) (hu:(sg L i).1=true) (v:Int) :
  rp (L.set i ((sg L i).1,(sg L i).2.1,v,(sg L i).2.2.2)) n (bP M (sg L i).2.1 (some v)):=by
 intro k u
 have hg:=fun j=>ij L i j ((sg L i).1,(sg L i).2.1,v,(sg L i).2.2.2) (by have:=ho.len;omega)
 unfold bP
 by_cases hk:k=(sg L i).2.1
 ·subst hk
  rw[if_pos rfl]
  constructor
  ·intro e;cases e
   exact⟨i,hi,by rw[hg,if_pos rfl];exact hu,by rw[hg,if_pos rfl],by rw[hg,if_pos rfl]⟩
  ·rintro⟨j,h1,h2,h3,h4⟩
   rw[hg]at h2 h3 h4
   by_cases hj:j=i
   ·rw[if_pos hj]at h4;exact congrArg some h4
   ·rw[if_neg hj]at h2 h3;exact(hj (ho.uniq j i h1 hi h2 hu h3)).elim
 ·rw[if_neg hk,h]
  constructor
  ·rintro⟨j,h1,h2,h3,h4⟩
   have hj:j≠i:=fun e=>by subst e;exact hk h3.symm
   exact⟨j,h1,by rw[hg,if_neg hj];exact h2,by rw[hg,if_neg hj];exact h3,by rw[hg,if_neg hj];exact h4⟩
  ·rintro⟨j,h1,h2,h3,h4⟩
   rw[hg]at h2 h3 h4
   by_cases hj:j=i
   ·rw[if_pos hj]at h3;exact(hk h3.symm).elim
   ·rw[if_neg hj]at h2 h3 h4;exact⟨j,h1,h2,h3,h4⟩
structure xK (L:List Sl) (n:Nat) (home:List UInt8→Nat) (i m:Nat):Prop where
 len:L.length=n
 n2:2≤n
 hm:∀ k,home k<n
 hi:i<n
 used:(sg L i).1=true
 pos:∀ j,j<n→j≠i→(sg L j).1=true→∃ d:Nat,(sg L j).2.2.2=d∧d<n∧j=ad n (home (sg L j).2.1) d ∧
  ∀ e,e<d→ad n (home (sg L j).2.1) e=i∨((sg L (ad n (home (sg L j).2.1) e)).1=true∧(e:Int)≤(sg L (ad n (home (sg L j).2.1) e)).2.2.2)
 uniq:∀ a b,a<n→b<n→a≠i→b≠i→(sg L a).1=true→(sg L b).1=true→(sg L a).2.1=(sg L b).2.1→a=b
 stop:(m=n∧(sg L i).2.2.2=0∧vq L n home)∨(m+1<n∧((sg L (ad n i (m+1))).1=false∨(sg L (ad n i (m+1))).2.2.2=0))
def BH (L:List Sl) (n i:Nat) (M:List UInt8→Option Int):Prop:=∀ k v,M k=some v↔∃ j,j<n∧j≠i∧(sg L j).1=true∧(sg L j).2.1=k∧(sg L j).2.2.1=v
theorem Jw.del {L:List Sl} {n:Nat} {home:List UInt8→Nat} (h:Jw L n home) {i:Nat} (hi:i<n) (hu:(sg L i).1=true):∃ m,m≤n∧xK L n home i m:=by
 have base:∀ m,((m=n∧(sg L i).2.2.2=0∧vq L n home)∨(m+1<n∧((sg L (ad n i (m+1))).1=false∨(sg L (ad n i (m+1))).2.2.2=0)))→xK L n home i m:=fun m hm =>
  ⟨h.len,h.n2,h.hm,hi,hu,fun j hj _ vr=>by
   obtain⟨d,h1,h2,h3,h4⟩:=h.pos j hj vr
   exact⟨d,h1,h2,h3,fun e he=>.inr (h4 e he)⟩,fun a b ha hb _ _=>h.uniq a b ha hb,hm⟩
 obtain⟨c,hc,JC⟩:=h.cut
 by_cases ZM:c=i
 ·subst ZM
  refine⟨n,abr _,base n (.inl ⟨rfl,?_,h.tovq⟩)⟩
  rcases JC with h1|h1
  ·rw[hu]at h1;cases h1
  ·exact h1
 ·obtain⟨e,he,h1⟩:=H0 hi hc
  have W3:e≠0:=fun e0=>by subst e0;unfold ad at h1;split at h1 <;> omega
  refine⟨e - 1,by omega,base _ (.inr ⟨by omega,?_⟩)⟩
  rw[show e - 1+1=e by omega,h1];exact JC
theorem rp.del {L:List Sl} {n:Nat} {home:List UInt8→Nat} {M:List UInt8→Option Int} (h:rp L n M) (ho:vq L n home) {i:Nat} (hi:i<n) (hu:(sg L i).1=true):BH L n i (bP M (sg L i).2.1 none):=by
 intro k v
 unfold bP
 by_cases hk:k=(sg L i).2.1
 ·subst hk
  rw[if_pos rfl]
  refine⟨fun e=>(by cases e),?_⟩
  rintro⟨j,h1,h2,h3,h4,_⟩
  exact(h2 (ho.uniq j i h1 hi h3 hu h4)).elim
 ·rw[if_neg hk,h]
  constructor
  ·rintro⟨j,h1,h2,h3,h4⟩
   exact⟨j,h1,fun e=>by subst e;exact hk h3.symm,h2,h3,h4⟩
  ·rintro⟨j,h1,_,h3⟩
   exact⟨j,h1,h3⟩
def pull (L:List Sl) (n i:Nat):Sl:=((sg L (ad n i 1)).1,(sg L (ad n i 1)).2.1,(sg L (ad n i 1)).2.2.1,(sg L (ad n i 1)).2.2.2 - 1)
theorem xK.step {L:List Sl} {n:Nat} {home:List UInt8→Nat} {i m:Nat} (h:xK L n home i m) (hu:(sg L (ad n i 1)).1=true) (hd:(sg L (ad n i 1)).2.2.2≠0):∃ m',m'<m∧xK (L.set i (pull L n i)) n home (ad n i 1) m':=by
 have FO:=lF h.hi (e:=1) (by have:=h.n2;omega)
 have bE:=zv h.hi h.n2
 have hl:=h.len
 have hi:=h.hi
 have n2:=h.n2
 obtain⟨d,k1,k2,k3,k4⟩:=h.pos _ FO bE hu
 have XJ:d≠0:=fun e=>by subst e;rw[k1]at hd;exact hd rfl
 have hg:=fun j=>ij L i j (pull L n i) (by omega)
 have hH:=h.hm (sg L (ad n i 1)).2.1
 have yD:ad n (home (sg L (ad n i 1)).2.1) (d - 1)=i:=by
  refine De (lF hH (by omega)) hi ?_
  rw[j1 hH (by omega),show d - 1+1=d by omega];exact k3.symm
 have VF:(pull L n i).2.2.2=((d - 1:Nat):Int):=by
  show(sg L (ad n i 1)).2.2.2 - 1=_
  rw[k1];omega
 have key:∀ m',(m'+1<n∧((sg (L.set i (pull L n i)) (ad n (ad n i 1) (m'+1))).1=false∨(sg (L.set i (pull L n i)) (ad n (ad n i 1) (m'+1))).2.2.2=0))→xK (L.set i (pull L n i)) n home (ad n i 1) m':=by
  intro m' AB
  refine⟨by rw[abC];exact hl,n2,h.hm,FO,by rw[hg,if_neg bE];exact hu,fun j hj j8 vr=>?_,fun a b ha hb VG y9 qc rZ hk=>?_,.inr AB⟩
  ·rw[hg]at vr ⊢
   by_cases lS:j=i
   ·subst lS
    simp only[if_true]
    refine⟨d - 1,VF,by omega,yD.symm,fun e he=>?_⟩
    have Sa:ad n (home (pull L n j).2.1) e≠j:=fun e2=>by
     have:=OJ hH (by omega) (by omega) (e2.trans yD.symm)
     omega
    rcases k4 e (by omega)with h5|h5
    ·exact(Sa h5).elim
    ·right
     show(sg (L.set j (pull L n j)) (ad n (home (pull L n j).2.1) e)).1=true∧(e:Int)≤(sg (L.set j (pull L n j)) (ad n (home (pull L n j).2.1) e)).2.2.2
     rw[hg,if_neg Sa];exact h5
   ·simp only[if_neg lS]at vr ⊢
    obtain⟨q,p1,p2,p3,p4⟩:=h.pos j hj lS vr
    have hQ:=h.hm (sg L j).2.1
    refine⟨q,p1,p2,p3,fun e he=>?_⟩
    by_cases MA:ad n (home (sg L j).2.1) e=i
    ·right
     rw[hg,if_pos MA]
     refine⟨hu,?_⟩
     rw[VF]
     have kl:ad n (home (sg L j).2.1) (e+1)=ad n i 1:=by rw[←j1 hQ (by omega),MA]
     by_cases heq:e+1=q
     ·rw[heq,←p3]at kl;exact(j8 kl).elim
     ·rcases p4 (e+1) (by omega)with h5|h5
      ·rw[kl]at h5;exact(bE h5).elim
      ·rw[kl,k1]at h5
       have:=h5.2
       omega
    ·rcases p4 e he with h5|h5
     ·exact(MA h5).elim
     ·right;rw[hg,if_neg MA];exact h5
  ·rw[hg]at qc hk
   rw[hg]at rZ hk
   by_cases h5:a=i <;> by_cases h6:b=i
   ·rw[h5,h6]
   ·rw[if_pos h5,if_neg h6]at hk
    rw[if_neg h6]at rZ
    exact(y9 (h.uniq _ b FO hb bE h6 hu rZ hk).symm).elim
   ·rw[if_neg h5,if_pos h6]at hk
    rw[if_neg h5]at qc
    exact(VG (h.uniq a _ ha FO h5 bE qc hu hk)).elim
   ·rw[if_neg h5,if_neg h6]at hk
    rw[if_neg h5]at qc
    rw[if_neg h6]at rZ
    exact h.uniq a b ha hb h5 h6 qc rZ hk
 rcases h.stop with⟨h1,h2,h3⟩|⟨h1,h2⟩
 ·subst h1
  refine⟨m - 2,by omega,key _ ⟨by omega,.inr ?_⟩⟩
  have Bg:ad m (ad m i 1) (m - 2+1)=i:=by unfold ad;split <;> split <;> omega
  rw[Bg,hg,if_pos rfl,VF]
  obtain⟨d2,q1,q2,q3,q4⟩:=h3.pos _ FO hu
  have:d2=d:=by omega
  subst this
  have h5:=q4 (d2 - 1) (by omega)
  rw[yD,h2]at h5
  omega
 ·by_cases vF:m=0
  ·subst vF
   rcases h2 with h2|h2
   ·rw[hu]at h2;cases h2
   ·exact(hd h2).elim
  ·refine⟨m - 1,by omega,key _ ⟨by omega,?_⟩⟩
   have vJ:ad n (ad n i 1) (m - 1+1)=ad n i (m+1):=by unfold ad;split <;> split <;> (try split) <;> omega
   rw[vJ,hg,if_neg (by unfold ad;split <;> omega)]
   exact h2
theorem BH.step {L:List Sl} {n i:Nat} {M:List UInt8→Option Int} (h:BH L n i M) (hl:L.length=n) (n2:2≤n) (hi:i<n) (hu:(sg L (ad n i 1)).1=true):BH (L.set i (pull L n i)) n (ad n i 1) M:=by
 have FO:=lF hi (e:=1) (by omega)
 have bE:=zv hi n2
 have hg:=fun j=>ij L i j (pull L n i) (by omega)
 intro k v
 rw[h]
 constructor
 ·rintro⟨j,h1,h2,h3,h4,h5⟩
  by_cases hj:j=ad n i 1
  ·subst hj
   exact⟨i,hi,bE.symm,by rw[hg,if_pos rfl];exact hu,by rw[hg,if_pos rfl];exact h4,by rw[hg,if_pos rfl];exact h5⟩
  ·exact⟨j,h1,hj,by rw[hg,if_neg h2];exact h3,by rw[hg,if_neg h2];exact h4,by rw[hg,if_neg h2];exact h5⟩
 ·rintro⟨j,h1,h2,h3,h4,h5⟩
  rw[hg]at h3 h4 h5
  by_cases hj:j=i
  ·rw[if_pos hj]at h4 h5
   exact⟨ad n i 1,FO,bE,hu,h4,h5⟩
  ·rw[if_neg hj]at h3 h4 h5
   exact⟨j,h1,hj,h3,h4,h5⟩
theorem xK.end_ {L:List Sl} {n:Nat} {home:List UInt8→Nat} {i m:Nat} (h:xK L n home i m) (he:(sg L (ad n i 1)).1=false∨(sg L (ad n i 1)).2.2.2=0):Jw (L.set i z) n home:=by
 have FO:=lF h.hi (e:=1) (by have:=h.n2;omega)
 have bE:=zv h.hi h.n2
 have hl:=h.len
 have hi:=h.hi
 have n2:=h.n2
 have hg:=fun j=>ij L i j z (by omega)
 have hz:(z:Sl).1=false:=rfl
 refine⟨⟨by rw[abC];exact hl,n2,h.hm,fun j hj vr=>?_,fun a b ha hb qc rZ hk=>?_⟩,i,hi,.inl (by rw[hg,if_pos rfl];rfl)⟩
 ·rw[hg]at vr ⊢
  by_cases j8:j=i
  ·rw[if_pos j8]at vr;cases vr
  simp only[if_neg j8]at vr ⊢
  obtain⟨q,p1,p2,p3,p4⟩:=h.pos j hj j8 vr
  have hQ:=h.hm (sg L j).2.1
  refine⟨q,p1,p2,p3,fun e bm=>?_⟩
  by_cases MA:ad n (home (sg L j).2.1) e=i
  ·exfalso
   have kl:ad n (home (sg L j).2.1) (e+1)=ad n i 1:=by rw[←j1 hQ (by omega),MA]
   by_cases heq:e+1=q
   ·rw[heq,←p3]at kl
    rcases he with h5|h5
    ·rw[←kl,vr]at h5;cases h5
    ·rw[←kl,p1]at h5;omega
   ·rcases p4 (e+1) (by omega)with h5|h5
    ·rw[kl]at h5;exact bE h5
    ·rw[kl]at h5
     rcases he with h6|h6
     ·rw[h6]at h5;exact Bool.noConfusion h5.1
     ·rw[h6]at h5;have:=h5.2;omega
  ·rcases p4 e bm with h5|h5
   ·exact(MA h5).elim
   ·rw[hg,if_neg MA];exact h5
 ·rw[hg]at qc hk
  rw[hg]at rZ hk
  by_cases h5:a=i
  ·rw[if_pos h5]at qc;cases qc
  by_cases h6:b=i
  ·rw[if_pos h6]at rZ;cases rZ
  rw[if_neg h5,if_neg h6]at hk
  rw[if_neg h5]at qc
  rw[if_neg h6]at rZ
  exact h.uniq a b ha hb h5 h6 qc rZ hk
theorem BH.end_ {L:List Sl} {n i:Nat} {M:List UInt8→Option Int} (h:BH L n i M) (hl:L.length=n) (hi:i<n):rp (L.set i z) n M:=by
 have hg:=fun j=>ij L i j z (by omega)
 intro k v
 rw[h]
 constructor
 ·rintro⟨j,h1,h2,h3⟩
  exact⟨j,h1,by rw[hg,if_neg h2];exact h3⟩
 ·rintro⟨j,h1,h3,h4⟩
  rw[hg]at h3 h4
  by_cases hj:j=i
  ·rw[if_pos hj]at h3;cases h3
  ·rw[if_neg hj]at h3 h4;exact⟨j,h1,hj,h3,h4⟩
theorem VH (n:Nat) (home:List UInt8→Nat) (n2:2≤n) (hm:∀ k,home k<n):Jw (List.replicate n z) n home∧rp (List.replicate n z) n (fun _=>none)∧bF (List.replicate n z)=0:=by
 have hg:∀ j,sg (List.replicate n z) j=z:=fun j=>by unfold sg;rw[abi,ab0];split <;> rfl
 refine⟨⟨⟨abM,n2,hm,fun j _ hu=>?_,fun a b _ _ qc=>?_⟩,0,by omega,.inl (by rw[hg];rfl)⟩,fun k v=>⟨fun e=>(by cases e),fun⟨j,_,hu,_⟩=>?_⟩,?_⟩
 ·rw[hg]at hu;cases hu
 ·rw[hg]at qc;cases qc
 ·rw[hg]at hu;cases hu
 ·unfold bF;rw[List.countP_eq_zero];intro a ha;rw[adg ha];simp[z]
end Go.Proofs.YthnefnlhcijekaaGreat.Ro
namespace Go.Proofs.YthnefnlhcijekaaGreat.Ro
abbrev di:=List UInt8→Option Int
structure Rb where
 aq:Int
 bits:Int
 L:List Sl
 used:Int
structure oX (home:Nat→List UInt8→Nat) (r:Rb) (b:Nat) (M:di) (c:Nat):Prop where
 bits:r.bits=b
 b1:1≤b∧b≤8
 ok:Jw r.L (2 ^ b) (home b)
 map:rp r.L (2 ^ b) M
 used:r.used=c
 bF:bF r.L=c
theorem nu {L:List Sl} {n:Nat} {M:di} (h:rp L n M) {k:List UInt8} (cu:∀ i,i<n→(sg L i).1=true→(sg L i).2.1≠k):M k=none:=by
 cases hm:M k with
 | none=>rfl
 | some v=>obtain⟨i,h1,h2,h3,_⟩:=(h k v).1 hm;exact(cu i h1 h2 h3).elim
theorem nx {L:List Sl} {n:Nat} {M:di} (h:rp L n M) {i:Nat} (hi:i<n) (hu:(sg L i).1=true):M (sg L i).2.1=some (sg L i).2.2.1:=(h _ _).2 ⟨i,hi,hu,rfl,rfl⟩
theorem H3 {L:List Sl} (h:bF L<L.length):∃ u,u<L.length∧(sg L u).1=false:=by
 unfold bF at h
 induction L with
 | nil=>simp at h
 | cons x r ih =>
  cases hx:x.1 with
  | false=>exact⟨0,by simp,by unfold sg;simpa using hx⟩
  | true =>
   rw[List.countP_cons_of_pos (by simpa using hx)]at h
   obtain⟨u,h1,h2⟩:=ih (by simp only[abt]at h;omega)
   exact⟨u+1,by simp only[abt];omega,by unfold sg at h2 ⊢;simpa using h2⟩
theorem H4 {L:List Sl} (h:0<bF L):∃ u,u<L.length∧(sg L u).1=true:=by
 unfold bF at h
 obtain⟨x,h1,h2⟩:=List.countP_pos_iff.1 h
 obtain⟨i,hi,rfl⟩:=List.mem_iff_getElem.1 h1
 exact⟨i,hi,by unfold sg;rw[abi,abj hi];exact h2⟩
theorem BI (L:List Sl):bF L≤L.length:=List.countP_le_length
theorem H5 {L:List Sl} {n:Nat} {M:di} (hl:L.length=n) (h:rp L n M) (h0:bF L=0):M=fun _=>none:=by
 funext k
 refine nu h fun i hi hu=>?_
 unfold bF at h0
 rw[List.countP_eq_zero]at h0
 have:sg L i∈L:=by unfold sg;rw[abi,abj (by omega)];exact abO _
 exact(h0 _ this hu).elim
def comb (A B:di):di:=fun k=>(A k).or (B k)
theorem zw {M:di} {k:List UInt8} (h:M k=none):bP M k none=M:=by
 funext j;unfold bP;split
 ·rename_i e;rw[e,h]
 ·rfl
def qd (A B:di):Prop:=∀ k,A k≠none→B k=none
theorem mL {A B:di} (k:List UInt8) (v:Int):comb (bP A k (some v)) (bP B k none)=bP (comb A B) k (some v):=by
 funext j;unfold comb bP
 by_cases h:j=k
 ·simp[h]
 ·simp[h]
theorem rq {A B:di} (h:qd A B) (k:List UInt8) (v:Int):qd (bP A k (some v)) (bP B k none):=by
 intro j hj
 unfold bP at hj ⊢
 by_cases e:j=k
 ·rw[if_pos e]
 ·rw[if_neg e]at hj ⊢;exact h j hj
theorem v8 {A B:di} (h:qd A B) {k:List UInt8} {v:Int} (hk:B k=some v):comb (bP A k (some v)) (bP B k none)=comb A B∧A k=none:=by
 have ha:A k=none:=by
  cases e:A k with
  | none=>rfl
  | some u=>have:=h k (by rw[e];simp);rw[hk]at this;cases this
 refine⟨?_,ha⟩
 rw[mL]
 funext j;unfold comb bP
 by_cases e:j=k
 ·subst e;rw[if_pos rfl,ha,hk];rfl
 ·rw[if_neg e]
theorem E8 {A B:di} (h:qd A B) {k:List UInt8} (hk:A k≠none):comb (bP A k none) B=bP (comb A B) k none:=by
 have hb:=h k hk
 funext j;unfold comb bP
 by_cases e:j=k
 ·subst e;rw[if_pos rfl,if_pos rfl,hb];rfl
 ·rw[if_neg e,if_neg e]
theorem E9 {A B:di} {k:List UInt8} (hk:A k=none):comb A (bP B k none)=bP (comb A B) k none:=by
 funext j;unfold comb bP
 by_cases e:j=k
 ·subst e;rw[if_pos rfl,if_pos rfl,hk];rfl
 ·rw[if_neg e,if_neg e]
theorem BJ {A B:di} (h:qd A B) (k:List UInt8):qd (bP A k none) B:=by
 intro j hj
 refine h j fun e=>hj ?_
 unfold bP;split
 ·rfl
 ·exact e
theorem BK {A B:di} (h:qd A B) (k:List UInt8):qd A (bP B k none):=by
 intro j hj
 have:=h j hj
 unfold bP;split
 ·rfl
 ·exact this
structure Gm where
 aq:Int
 bits:Int
 nw:Rb
 el:Option Rb
def VI (home:Nat→List UInt8→Nat) (el:Option Rb) (M:di) (c:Nat):Prop:=match el with
 | none=>M=(fun _=>none)∧c=0
 | some e=>∃ b,oX home e b M c
structure AG (home:Nat→List UInt8→Nat) (g:Gm) (sd:Int) (b:Nat) (A B:di) (ca cb:Nat):Prop where
 aq:g.aq=sd
 bits:g.bits=b
 sn:g.nw.aq=sd
 se:∀ e,g.el=some e→e.aq=sd
 nw:oX home g.nw b A ca
 el:VI home g.el B cb
 apart:qd A B
structure gj (b ca cb:Nat) (k:Nat):Prop where
 b3:3≤b∧b≤7
 mv:0<cb→4*(ca+cb)+2*cb≤3*2 ^ b+k
 no:cb=0→4*(ca+cb)≤3*2 ^ b
structure uh (home:Nat→List UInt8→Nat) (g:Gm) (sd:Int) (M:di) (n:Nat):Prop where
 h:∃ b A B ca cb,AG home g sd b A B ca cb∧M=comb A B∧n=ca+cb∧gj b ca cb 0
theorem OL (b:Nat) (h:3≤b):∃ q,2 ^ b=4*q∧2≤q:=by
 obtain⟨d,rfl⟩:∃ d,b=d+3:=⟨b - 3,by omega⟩
 refine⟨2 ^ d*2,?_,by have:=acn (n:=d);omega⟩
 rw[adP];omega
theorem gj.move {b ca cb k:Nat} (h:gj b ca (cb+1) k) (hk:k≤4):gj b (ca+1) cb (k - 2):=by
 obtain⟨q,hq,_⟩:=OL b h.b3.1
 have:=h.mv (by omega)
 exact⟨h.b3,fun _=>by omega,fun _=>by omega⟩
theorem gj.lt {b ca cb k:Nat} (h:gj b ca cb k) (hk:k≤4):ca<2 ^ b:=by
 obtain⟨q,hq,_⟩:=OL b h.b3.1
 by_cases h0:cb=0
 ·have:=h.no h0;omega
 ·have:=h.mv (by omega);omega
theorem gj.begin {b ca:Nat} (h:gj b ca 0 0) (hn:ca<64) (hg:3*2 ^ b<4*(ca+1)):gj (b+1) 0 ca 0:=by
 obtain⟨q,hq,_⟩:=OL b h.b3.1
 have h1:=h.no rfl
 have hb:b≤6:=by
  by_cases hb:b≤6
  ·exact hb
  ·have:b=7:=by have:=h.b3;omega
   subst this;simp at hg;omega
 have hp:2 ^ (b+1)=2*2 ^ b:=by rw[adT];omega
 exact⟨by have:=h.b3;omega,fun _=>by omega,fun _=>by omega⟩
theorem gj.more {b ca cb:Nat} (h:gj b ca cb 0) (hg:cb=0→4*(ca+1)≤3*2 ^ b):gj b (ca+1) cb 4 :=
 ⟨h.b3,fun h1=>by have:=h.mv h1;omega,fun h1=>by have:=hg h1;omega⟩
theorem gj.done {b ca cb k:Nat} (h:gj b ca cb k) (hk:k=0∨cb=0):gj b ca cb 0 :=
 ⟨h.b3,fun h1=>by have:=h.mv h1;omega,h.no⟩
theorem gj.Sb {b ca cb:Nat} (h:gj b (ca+1) cb 0):gj b ca cb 0:=⟨h.b3,fun h1=>by have:=h.mv h1;omega,fun h1=>by have:=h.no h1;omega⟩
theorem gj.Sd {b ca cb:Nat} (h:gj b ca (cb+1) 0):gj b ca cb 0:=⟨h.b3,fun h1=>by have:=h.mv (by omega);omega,fun h1=>by have:=h.mv (by omega);omega⟩
end Go.Proofs.YthnefnlhcijekaaGreat.Ro
namespace Go.Proofs.YthnefnlhcijekaaGreat.Ro
open Go Go.RowKit Fw
theorem hm:Tryz.prog.follows .mixedOrders=true:=by kernel_rfl
theorem wr {x:Int} (h:-9223372036854775808≤x∧x≤9223372036854775807):IntKind.i64.wrap x=x:=by rw[IntKind.wrap_i64];omega
def H6:AV:=.agg [.int .u64 fun _=>32,.int .u64 fun _=>11400714819323198485,.int .u64 fun _=>29,.int .u64 fun _=>13787848793156543929,.int .u64 fun _=>32,.int .u64 fun _=>1]
theorem OM:aa Tryz.prog 286 [] [] (Y:=Unit) (fun _=>True) (fun _=>H6) (fun _=>[]):=by
 (refine aa.q Tryz.func286 rfl fun S ao=>Wa _ ?_;(repeat' first|exact tv|apply pr|intro hh))
 exact ae.z () []
def oe (vD m n:Int):Int:=IntKind.u64.wrap (IntKind.u64.wrap (BitVec.ofInt IntKind.u64.bits n ^^^ BitVec.ofInt IntKind.u64.bits (n.fdiv (2 ^ (min vD.toNat IntKind.u64.bits)))).toNat*m)
def Se (n:Int):Nat→Int
 | 0=>n
 | 1=>oe 32 11400714819323198485 n
 | 2=>oe 29 13787848793156543929 (oe 32 11400714819323198485 n)
 | _=>oe 32 1 (oe 29 13787848793156543929 (oe 32 11400714819323198485 n))
def ui (n:Int):Int:=Se n 3
theorem ON (n:Int):aa Tryz.prog 276 [.int .u64 fun _=>n] [] (Y:=Unit) (fun _=>True) (fun _=>.int .u64 fun _=>ui n) (fun _=>[]):=by
 (refine aa.q Tryz.func276 rfl fun S ao=>Wa _ ?_;(repeat' first|exact tv|apply pr|intro hh))
 (refine ab.q (OM) [] fun _ _=>Wp _ ?_;(repeat' first|exact tv|apply pr|intro hh))
 refine aH.intro hm (X:=Nat) (fun i=>i≤3) (fun i=>3 - i)
  (fun i=>[(6,.int .i64 fun _=>(i:Int)),(5,H6),(0,.int .u64 fun _=>Se n i)])
  (fun i=>[]) 0 [] ⟨rfl,rfl,?_,?_⟩ (abw _) ?_
 ·exact Vc
 ·exact Vc
 intro i hi
 obtain rfl|rfl|rfl|rfl:i=0∨i=1∨i=2∨i=3:=by omega
 ·(refine Wa _ ?_;(repeat' first|exact tv|apply pr|intro hh))
  ·exact⟨by simp only[];omega⟩
  ·exact⟨by decide⟩
  ·refine⟨1,[],⟨rfl,rfl,?_,?_⟩,by omega,by omega⟩
   ·exact Vc
   ·exact Vc
 ·(refine Wa _ ?_;(repeat' first|exact tv|apply pr|intro hh))
  ·exact⟨by simp only[];omega⟩
  ·exact⟨by decide⟩
  ·refine⟨2,[],⟨rfl,rfl,?_,?_⟩,by omega,by omega⟩
   ·exact Vc
   ·exact Vc
 ·(refine Wa _ ?_;(repeat' first|exact tv|apply pr|intro hh))
  ·exact⟨by simp only[];omega⟩
  ·exact⟨by decide⟩
  ·refine⟨3,[],⟨rfl,rfl,?_,?_⟩,by omega,by omega⟩
   ·exact Vc
   ·exact Vc
 ·(refine Wa _ ?_;(repeat' first|exact tv|apply pr|intro hh))
  exact ae.z () []
theorem uj (n:Int):0≤ui n∧ui n<18446744073709551616:=by
 show 0≤IntKind.u64.wrap _∧IntKind.u64.wrap _<_
 generalize (IntKind.u64.wrap (BitVec.ofInt IntKind.u64.bits (oe 29 13787848793156543929 (oe 32 11400714819323198485 n)) ^^^ BitVec.ofInt IntKind.u64.bits ((oe 29 13787848793156543929 (oe 32 11400714819323198485 n)).fdiv (2 ^ (min (32:Int).toNat IntKind.u64.bits)))).toNat*1)=x
 simp only[IntKind.wrap,IntKind.bits,IntKind.signed]
 exact⟨ack _ (by decide),acX _ (by decide)⟩
def H7 (a b:Int):Int:=IntKind.u64.wrap (BitVec.ofInt IntKind.u64.bits a ^^^ BitVec.ofInt IntKind.u64.bits b).toNat
def xL (h:Int):List UInt8→Int
 | []=>h
 | b::r=>xL (ui (H7 h (IntKind.u64.wrap (IntKind.u64.wrap (b.toNat:Int)+1)))) r
def zz (aq:Int) (s:List UInt8):Int:=ui (H7 (xL (ui aq) s) (IntKind.u64.wrap s.length))
theorem wa (h:Int):∀ (l:List UInt8) (b:UInt8),xL h (l++[b])=ui (H7 (xL h l) (IntKind.u64.wrap (IntKind.u64.wrap (b.toNat:Int)+1)))
 | [],b=>rfl
 | x::r,b=>by rw[acR,xL,xL,wa _ r b]
theorem VJ (aq:Int) (s:List UInt8) (hs:s.length≤1000):aa Tryz.prog 246 [.int .u64 fun _=>aq,.str fun _=>s] [] (Y:=Unit) (fun _=>True) (fun _=>.int .u64 fun _=>zz aq s) (fun _=>[]):=by
 (refine aa.q Tryz.func246 rfl fun S ao=>Wa _ ?_;(repeat' first|exact tv|apply pr|intro hh))
 (refine ab.q (ON aq) [] fun _ _=>Wp _ ?_;(repeat' first|exact tv|apply pr|intro hh))
 ·exact⟨by simp only[];omega⟩
 refine aH.intro hm (X:=Nat) (fun i=>i≤s.length) (fun i=>s.length - i)
  (fun i=>[(13,.int .i64 fun _=>(i:Int)),(12,.int .i64 fun _=>(s.length:Int)),(11,.aG (.int .u8) fun _=>s.map fun b=>(b.toNat:Int)),(5,.int .u64 fun _=>xL (ui aq) (s.take i)),(1,.str fun _=>s)])
  (fun i=>[]) 0 [] ⟨rfl,rfl,?_,?_⟩ (abw _) ?_
 ·exact Vc
 ·(refine Vb _ ?_;(repeat' first|exact tv|apply pr))
  simp
 intro i hi
 (refine Wa _ ?_;(repeat' first|exact tv|apply pr|intro hh))
 ·exact⟨by simp only[ab4];omega⟩
 ·(refine ab.q (ON _) [] fun _ _=>Wp _ ?_;(repeat' first|exact tv|apply pr|intro hh))
  have dp:i<s.length:=by omega
  have hk:s[i]?=some s[i]:=abj dp
  refine⟨i+1,[],⟨rfl,rfl,?_,?_⟩,by omega,by omega⟩
  ·exact Vc
  ·(refine Vb _ ?_;(repeat' first|exact tv|apply pr))
   ·rw[wr (by omega)];omega
   ·rw[abY,hk]
    have e:(s.map fun b=>(b.toNat:Int)).getD ((i:Int)).toNat (Ty.int .u8).a8=(s[i].toNat:Int):=by
     rw[abm,abi,ach,hk];rfl
    rw[e]
    exact(wa _ _ _).symm
 ·(refine ab.q (ON _) [] fun _ _=>Wp _ ?_;(repeat' first|exact tv|apply pr|intro hh))
  have e:s.take i=s:=abo (by omega)
  rw[e]
  exact ae.z () []
theorem Sf (n:Int) (b:Nat) (hb:1≤b∧b≤8):aa Tryz.prog 245 [.int .u64 fun _=>n,.int .i64 fun _=>(b:Int)] [] (Y:=Unit) (fun _=>True) (fun _=>.int .i64 fun _=>IntKind.i64.wrap (n.fdiv (2 ^ (64 - b)))) (fun _=>[]):=by
 have e:IntKind.i64.wrap (64 - (b:Int))=((64 - b:Nat):Int):=by rw[wr (by omega)];omega
 (refine aa.q Tryz.func245 rfl fun S ao=>Wa _ ?_;(repeat' first|exact tv|apply pr|intro hh))
 ·exfalso;omega
 ·exact⟨by simp only[e];omega⟩
 ·(refine ae.w () [] _ ?_;(repeat' first|exact tv|apply pr))
  rw[e,abm,show min (64 - b) IntKind.u64.bits=64 - b from acq (by show 64 - b≤64;omega)]
 ·exfalso;omega
def bH (aq:Int) (b:Nat) (k:List UInt8):Nat:=(zz aq k).toNat / 2 ^ (64 - b)
theorem qe (aq:Int) {b:Nat} (hb:1≤b∧b≤8) (k:List UInt8):bH aq b k<2 ^ b:=by
 have h:=uj (H7 (xL (ui aq) k) (IntKind.u64.wrap k.length))
 unfold bH zz
 have h2:(2:Nat) ^ 64=18446744073709551616:=rfl
 rw[ad6 (Nat.two_pow_pos _),←adP,show b+(64 - b)=64 by omega,h2]
 generalize ui _=x at *
 omega
theorem H8 (aq:Int) {b:Nat} (hb:1≤b∧b≤8) (k:List UInt8):IntKind.i64.wrap ((zz aq k).fdiv (2 ^ (64 - b)))=(bH aq b k:Int):=by
 have h:=uj (H7 (xL (ui aq) k) (IntKind.u64.wrap k.length))
 have hl:=qe aq hb k
 have h8:2 ^ b≤2 ^ 8:=adk (by decide) hb.2
 have e:(zz aq k).fdiv (2 ^ (64 - b))=(bH aq b k:Int):=by
  unfold bH
  have h0:zz aq k=((zz aq k).toNat:Int):=(abX h.1).symm
  rw[ac0 _ (by exact_mod_cast abw _)]
  conv=>lhs;rw[h0]
  norm_cast
 rw[e,wr (by omega)]
abbrev um:Ty:=.pair .bool (.pair .str (.pair (.int .i64) (.int .i64)))
abbrev oY:TypeId:=233
abbrev kp:TypeId:=268
def u9 (r:Rb):List Chunk:=[.cells oY [.int .u64 fun _=>r.aq,.int .i64 fun _=>r.bits,.vec 1 4 (fun _=>0) (fun _=>r.L.length),.int .i64 fun _=>r.used],.au kp um fun _=>r.L]
theorem zA {b:Nat} (h:b≤8):2 ^ b≤256:=adk (by decide) h
theorem KK (a b:Nat) (ha:a<9223372036854775808) (hb:b<9223372036854775808):IntKind.i64.wrap ((BitVec.ofInt IntKind.i64.bits (a:Int) &&& BitVec.ofInt IntKind.i64.bits (b:Int)).toNat:Int)=((a &&& b:Nat):Int):=by
 have e:(BitVec.ofInt 64 (a:Int) &&& BitVec.ofInt 64 (b:Int)).toNat=a &&& b:=by
  rw[acZ,acZ,BitVec.toNat_and,adF,adF,acs (by omega),acs (by omega)]
 have h:=Nat.and_le_left (n:=a) (m:=b)
 show IntKind.i64.wrap ((BitVec.ofInt 64 (a:Int) &&& BitVec.ofInt 64 (b:Int)).toNat:Int)=_
 rw[e,wr (by omega)]
theorem Ub (r:Rb) (b h d:Nat) (hl:r.L.length=2 ^ b) (hb:b≤8) (hh:h<2 ^ b) (hd:d≤2 ^ b):aa Tryz.prog 194 [.ptr 0 0,.int .i64 fun _=>(h:Int),.int .i64 fun _=>(d:Int)] (u9 r) (Y:=Nat) (fun y=>y=ad (2 ^ b) h d)
  (fun y=>.int .i64 fun _=>(y:Int)) (fun _=>u9 r):=by
 (refine aa.q Tryz.func194 rfl fun S ao=>Wa _ ?_;(repeat' first|exact tv|apply pr|intro hh))
 have h8:=zA hb
 (refine ae.w (ad (2 ^ b) h d) [0,1] _ ?_;(repeat' first|exact tv|apply pr))
 rw[hl,wr (x:=(h:Int)+d) (by omega),wr (x:=((2 ^ b:Nat):Int) - 1) (by omega)]
 have h1:1≤2 ^ b:=acn
 rw[show(h:Int)+d=((h+d:Nat):Int) by omega,show((2 ^ b:Nat):Int) - 1=((2 ^ b - 1:Nat):Int) by omega,KK _ _ (by omega) (by omega),adw,OI hh hd]
theorem H9 (r:Rb) (k:List UInt8) (hk:k.length≤1000) (b:Nat) (hb:r.bits=b) (h1:1≤b∧b≤8):aa Tryz.prog 195 [.ptr 0 0,.str fun _=>k] (u9 r) (Y:=Nat) (fun y=>y=bH r.aq b k)
  (fun y=>.int .i64 fun _=>(y:Int)) (fun _=>u9 r):=by
 have dH:=Sf (zz r.aq k) b h1
 rw[←hb]at dH
 (refine aa.q Tryz.func195 rfl fun S ao=>Wa _ ?_;(repeat' first|exact tv|apply pr|intro hh))
 (refine ab.q (VJ r.aq k hk) [] fun _ _=>Wp _ ?_;(repeat' first|exact tv|apply pr|intro hh))
 (refine ab.q (dH) [] fun _ _=>Wp _ ?_;(repeat' first|exact tv|apply pr|intro hh))
 (refine ae.w (bH r.aq b k) [0,1] _ ?_;(repeat' first|exact tv|apply pr))
 exact H8 r.aq h1 k
structure Found (r:Rb) (n:Nat) (k:List UInt8) (y:Option Nat):Prop where
 yes:∀ i,y=some i→i<n∧(sg r.L i).1=true∧(sg r.L i).2.1=k
 no:y=none→∀ i,i<n→(sg r.L i).1=true→(sg r.L i).2.1≠k
theorem FU (L:List Sl) (i:Nat):L.getD (0+((i:Nat):Int).toNat) um.a8=sg L i:=by rw[abx,abm];rfl
theorem Ia (r:Rb) (k:List UInt8) (hk:k.length≤1000) {b:Nat} {M:di} {c:Nat} (ok:oX (bH r.aq) r b M c):aa Tryz.prog 193 [.ptr 0 0,.str fun _=>k] (u9 r) (Y:=Option Nat) (Found r (2 ^ b) k)
  (fun y=>.bM [.int .i64 fun _=>((y.getD 0:Nat):Int),.bool fun _=>y.isSome]) (fun _=>u9 r):=by
 have hl:=ok.ok.len
 have h8:=zA ok.b1.2
 have KL:=qe r.aq ok.b1 k
 (refine aa.q Tryz.func193 rfl fun S ao=>Wa _ ?_;(repeat' first|exact tv|apply pr|intro hh))
 (refine ab.q (H9 r k hk b ok.bits ok.b1) [0,1] ?_;rintro h XQ;refine Wp _ ?_;(repeat' first|exact tv|apply pr|intro hh))
 rw[←XQ]at KL
 refine aH.intro hm (X:=Nat) (fun d=>d≤2 ^ b∧∀ e,e<d→(sg r.L (ad (2 ^ b) (bH r.aq b k) e)).2.1≠k) (fun d=>2 ^ b - d)
  (fun d=>[(0,.ptr 0 0),(1,.str fun _=>k),(6,.int .i64 fun _=>(h:Int)),(18,.int .i64 fun _=>(r.L.length:Int)),(19,.int .i64 fun _=>(d:Int))])
  (fun _=>u9 r) 0 [0,1] ⟨rfl,rfl,?_,?_⟩ ⟨abw _,fun e he=>absurd he (ac8 e)⟩ ?_
 ·exact Vc
 ·exact Vc
 rintro d ⟨hd,cu⟩
 (refine Wa _ ?_;(repeat' first|exact tv|apply pr|intro hh))
 rotate_right
 ·refine ae.q none [0,1] ?_ ?_ ?_ <;> (refine Vb _ ?_;(repeat' first|exact tv|apply pr))
  exact⟨fun i h=>(by cases h),fun _=>xJ ok.ok.tovq hd cu (.inl (by omega))⟩
 have FN:d<2 ^ b:=by omega
 (refine ab.q (Ub r b h d hl ok.b1.2 KL hd) [0,1] ?_;rintro i ei;refine Wp _ ?_;(repeat' first|exact tv|apply pr|intro hh))
 all_goals have hi:=lF KL (e:=d) hd
 all_goals rw[←ei]at hi
 all_goals rw[XQ]at ei
 all_goals try exact Ob.mk ⟨by simp only[];omega,by simp only[];omega⟩
 ·refine ae.q none [0,1] ?_ ?_ ?_ <;> (refine Vb _ ?_;(repeat' first|exact tv|apply pr))
  rw[FU,ei]at hh
  exact⟨fun i h=>(by cases h),fun _=>xJ ok.ok.tovq hd cu (.inr (.inr hh))⟩
 ·rename_i hu _
  refine ae.q (some i) [0,1] ?_ ?_ ?_ <;> (refine Vb _ ?_;(repeat' first|exact tv|apply pr))
  rw[FU]at hh hu
  refine⟨fun i h=>?_,fun h=>(by cases h)⟩
  cases h
  exact⟨hi,hu,hh⟩
 ·refine⟨d+1,[0,1],⟨rfl,rfl,?_,?_⟩,⟨by omega,fun e he=>?_⟩,by omega⟩
  ·exact Vc
  ·(refine Vb _ ?_;(repeat' first|exact tv|apply pr))
   rw[wr (by omega)];omega
  ·rw[FU,ei]at hh
   by_cases VE:e=d
   ·subst VE;exact hh
   ·exact cu e (by omega)
 ·refine ae.q none [0,1] ?_ ?_ ?_ <;> (refine Vb _ ?_;(repeat' first|exact tv|apply pr))
  rw[FU,ei]at hh
  exact⟨fun i h=>(by cases h),fun _=>xJ ok.ok.tovq hd cu (.inr (.inl hh))⟩
theorem getM (r:Rb) (k:List UInt8) (hk:k.length≤1000) {b:Nat} {M:di} {c:Nat} (ok:oX (bH r.aq) r b M c):aa Tryz.prog 137 [.ptr 0 0,.str fun _=>k] (u9 r) (Y:=Unit) (fun _=>True)
  (fun _=>.bM [.int .i64 fun _=>(M k).getD 0,.bool fun _=>(M k).isSome]) (fun _=>u9 r):=by
 (refine aa.q Tryz.func137 rfl fun S ao=>Wa _ ?_;(repeat' first|exact tv|apply pr|intro hh))
 (refine ab.q (Ia r k hk ok) [0,1] ?_;rintro y hy;refine Wp _ ?_;(repeat' first|exact tv|apply pr|intro hh))
 ·have hn:y=none:=by cases y <;> simp_all
  have hm:=nu ok.map (hy.no hn)
  rw[hm]
  exact ae.z () [0,1]
 all_goals obtain⟨i,rfl⟩:∃ i,y=some i:=ab2.1 hh
 all_goals obtain⟨h1,h2,h3⟩:=hy.yes i rfl
 ·exact⟨by simp only[acY];have:=ok.ok.len;omega⟩
 ·have hm:=nx ok.map h1 h2
  rw[h3]at hm
  rw[hm]
  (refine ae.w () [0,1] _ ?_;(repeat' first|exact tv|apply pr))
  exact congrArg (fun x:Sl=>x.2.2.1) (FU r.L i)
theorem OO (k:List UInt8):aa Tryz.prog 137 [.bZ,.str fun _=>k] [] (Y:=Unit) (fun _=>True)
  (fun _=>.bM [.int .i64 fun _=>0,.ff]) (fun _=>[]):=by
 have Ib:aa Tryz.prog 193 [.bZ,.str fun _=>k] [] (Y:=Unit) (fun _=>True) (fun _=>.bM [.int .i64 fun _=>0,.ff]) (fun _=>[]):=by
  (refine aa.q Tryz.func193 rfl fun S ao=>Wa _ ?_;(repeat' first|exact tv|apply pr|intro hh))
  exact ae.z () []
 (refine aa.q Tryz.func137 rfl fun S ao=>Wa _ ?_;(repeat' first|exact tv|apply pr|intro hh))
 (refine ab.q (Ib) [] fun _ _=>Wp _ ?_;(repeat' first|exact tv|apply pr|intro hh))
 exact ae.z () []
theorem Ic (k:List UInt8):aa Tryz.prog 138 [.bZ,.str fun _=>k] [] (Y:=Unit) (fun _=>True)
  (fun _=>.ff) (fun _=>[]):=by
 have Ib:aa Tryz.prog 193 [.bZ,.str fun _=>k] [] (Y:=Unit) (fun _=>True) (fun _=>.bM [.int .i64 fun _=>0,.ff]) (fun _=>[]):=by
  (refine aa.q Tryz.func193 rfl fun S ao=>Wa _ ?_;(repeat' first|exact tv|apply pr|intro hh))
  exact ae.z () []
 (refine aa.q Tryz.func138 rfl fun S ao=>Wa _ ?_;(repeat' first|exact tv|apply pr|intro hh))
 (refine ab.q (Ib) [] fun _ _=>Wp _ ?_;(repeat' first|exact tv|apply pr|intro hh))
 exact ae.z () []
theorem Ie:aa Tryz.prog 189 [.bZ] [] (Y:=Unit) (fun _=>True) (fun _=>.int .i64 fun _=>0) (fun _=>[]):=by
 (refine aa.q Tryz.func189 rfl fun S ao=>Wa _ ?_;(repeat' first|exact tv|apply pr|intro hh))
 exact ae.z () []
theorem KM (r:Rb):aa Tryz.prog 189 [.ptr 0 0] (u9 r) (Y:=Unit) (fun _=>True) (fun _=>.int .i64 fun _=>r.used) (fun _=>u9 r):=by
 (refine aa.q Tryz.func189 rfl fun S ao=>Wa _ ?_;(repeat' first|exact tv|apply pr|intro hh))
 exact ae.z () [0,1]
theorem uo (L:List Sl) (i:Nat) (y:Sl) (hi:i<L.length) (hy:y.1=(sg L i).1):bF (L.set i y)=bF L:=by
 have:=jG L i y hi
 rw[hy]at this;omega
theorem wP (r:Rb) (k:List UInt8) (v:Int) (hk:1≤k.length∧k.length≤33) {b:Nat} {M:di} {c:Nat} (ok:oX (bH r.aq) r b M c) (hf:M k≠none∨c<2 ^ b) :
  aa Tryz.prog 139 [.ptr 0 0,.str fun _=>k,.int .i64 fun _=>v] (u9 r) (Y:=Rb) (fun r'=>r'.aq=r.aq∧oX (bH r.aq) r' b (bP M k (some v)) (if M k=none then c+1 else c))
  (fun _=>.int .i64 fun _=>0) u9:=by
 have hl:=ok.ok.len
 have h8:=zA ok.b1.2
 have KL:=qe r.aq ok.b1 k
 (refine aa.q Tryz.func139 rfl fun S ao=>Wa _ ?_;(repeat' first|exact tv|apply pr|intro hh))
 all_goals first|(exfalso;omega)|(exfalso;have h9:k=[]:=hh;rw[h9]at hk;simp at hk;done)|skip
 (refine ab.q (Ia r k (by omega) ok) [0,1] ?_;rintro y hy;refine Wp _ ?_;(repeat' first|exact tv|apply pr|intro hh))
 ·obtain⟨i,rfl⟩:∃ i,y=some i:=ab2.1 hh
  obtain⟨h1,h2,h3⟩:=hy.yes i rfl
  exact⟨by simp only[acY];omega⟩
 ·obtain⟨i,rfl⟩:∃ i,y=some i:=ab2.1 hh
  obtain⟨h1,h2,h3⟩:=hy.yes i rfl
  have hm:=nx ok.map h1 h2
  rw[h3]at hm
  refine ae.q { r with L:=r.L.set i ((sg r.L i).1,(sg r.L i).2.1,v,(sg r.L i).2.2.2) } [0,1] ?_ ?_ ?_ <;> (refine Vb _ ?_;(repeat' first|exact tv|apply pr))
  ·simp
  ·show r.L.set (0+((i:Nat):Int).toNat) ((r.L.getD (0+((i:Nat):Int).toNat) um.a8).1,(r.L.getD (0+((i:Nat):Int).toNat) um.a8).2.1,v,(r.L.getD (0+((i:Nat):Int).toNat) um.a8).2.2.2)=_
   rw[FU,abx,abm]
  ·rw[if_neg (by rw[hm];simp)]
   refine⟨ok.bits,ok.b1,?_,?_,ok.used,?_⟩
   ·refine⟨ok.ok.tovq.val h1 v,?_⟩
    obtain⟨q,hq,XR⟩:=ok.ok.cut
    refine⟨q,hq,?_⟩
    rw[ij _ _ _ _ (by omega)]
    split
    ·rename_i e;subst e;exact XR
    ·exact XR
   ·have:=ok.map.val ok.ok.tovq h1 h2 v
    rw[h3]at this ⊢;exact this
   ·exact adK (uo r.L i ((sg r.L i).1,(sg r.L i).2.1,v,(sg r.L i).2.2.2) (by omega) rfl) ok.bF
 all_goals have VK:y=none:=by cases y <;> simp_all
 all_goals have sA:=nu ok.map (hy.no VK)
 all_goals have hcf:c<2 ^ b:=hf.resolve_left (fun e=>e sA)
 ·exfalso
  have h9:=ok.used
  omega
 clear hh
 (refine ab.q (H9 r k (by omega) b ok.bits ok.b1) [0,1] ?_;rintro h0 XS;refine Wp _ ?_;(repeat' first|exact tv|apply pr|intro hh))
 rw[←XS]at KL
 have Sg:∃ u,u<2 ^ b∧(sg r.L u).1=false:=by
  have:=H3 (L:=r.L) (by rw[ok.bF];omega)
  rw[hl]at this;exact this
 refine aH.intro hm (X:=List Sl×Nat×Nat×Sl) (fun s=>ug s.1 (2 ^ b) (bH r.aq b) h0 s.2.1 s.2.2.2∧BG s.1 (2 ^ b) s.2.2.2 (bP M k (some v))∧bF s.1=c∧s.2.2.1=ad (2 ^ b) h0 s.2.1) (fun s=>2 ^ b - s.2.1)
  (fun s=>[(0,.ptr 0 0),(9,.ptr 2 0),(10,.int .i64 fun _=>(s.2.2.1:Int))])
  (fun s=>u9 { r with L:=s.1 }++[.cells kp [.bool fun _=>s.2.2.2.1,.str fun _=>s.2.2.2.2.1,.int .i64 fun _=>s.2.2.2.2.2.1,.int .i64 fun _=>s.2.2.2.2.2.2]]) (r.L,0,h0,(true,k,v,0)) [0,1,2] ⟨rfl,rfl,?_,?_⟩ ?_ ?_
 ·exact Vc
 ·exact Vc
 ·refine⟨⟨ok.ok.tovq,KL,rfl,⟨0,rfl,abr _,by rw[←XS],fun e he=>absurd he (ac8 e)⟩,hy.no VK,fun e he=>absurd he (ac8 e),Sg⟩,R9 ok.map k v 0 sA,ok.bF,?_⟩
  show h0=ad (2 ^ b) h0 0
  unfold ad;rw[if_pos (by omega)];rfl
 rintro⟨L,t,i,x⟩ ⟨hP,hM,hc,hi⟩
 simp only[]at hP hM hc hi
 have hL:=hP.ok.len
 have ht:=hP.t
 have dp:=lF KL (e:=t) (by omega)
 rw[←hi]at dp
 (refine Wa _ ?_;(repeat' first|exact tv|apply pr|intro hh))
 all_goals try exact Ob.mk ⟨by simp only[];omega,by simp only[];omega⟩
 ·refine ae.q { r with L:=L.set i x,used:=r.used+1 } [0,1] ?_ ?_ ?_ <;> (refine Vb _ ?_;(repeat' first|exact tv|apply pr))
  ·simp
  ·have h9:=ok.used
   rw[wr (by omega)]
  ·rw[abx,abm]
  ·rw[FU]at hh
   rw[hi]at hh
   have hx:=hP.used
   have hp:=hP.place hh
   have dH:=hM.place hL (by rw[←hi];omega) hh hx
   rw[←hi]at hp dH
   rw[if_pos sA]
   refine⟨ok.bits,ok.b1,hp,dH,by show r.used+1=_;rw[ok.used];rfl,?_⟩
   have:=jG L i x (by omega)
   rw[←hi]at hh
   rw[hh,hx]at this
   show bF (L.set i x)=c+1
   simp at this;omega
 ·rename_i hu
  rw[FU]at hh hu
  have D4:=hu
  have yj:=hh
  rw[hi]at D4 yj
  have hx:=hP.used
  have hp:=hP.swap D4 yj
  have dH:=hM.swap hL dp hu hx
  rw[←hi]at hp
  have KN:=hp.ok.len
  have hd:=hp.at_
  simp only[abx,abm]
  rw[show L.length=(L.set i x).length from(abC ..).symm]
  (refine ab.q (Ub { r with L:=L.set i x } b i 1 KN ok.b1.2 dp (by have:=hP.ok.n2;omega)) [0,1] ?_;rintro j ej;refine Wp _ ?_;(repeat' first|exact tv|apply pr|intro hh))
  obtain⟨d,Ox,FN,-⟩:=hd
  have Ox:(sg L i).2.2.2+1=d:=Ox
  refine⟨(L.set i x,t+1,j,((sg L i).1,(sg L i).2.1,(sg L i).2.2.1,(sg L i).2.2.2+1)),[0,1,2],⟨rfl,rfl,?_,?_⟩,⟨hp,dH,?_,?_⟩,by simp only[];omega⟩
  ·(refine Vb _ ?_;(repeat' first|exact tv|apply pr))
   show IntKind.i64.wrap ((sg L i).2.2.2+1)=_
   rw[wr (by omega)]
  ·exact Vc
  ·exact(uo L i x (by omega) (by rw[hu,hx])).trans hc
  ·show j=_
   rw[ej,hi,j1 KL ht]
 ·rename_i hu
  rw[FU]at hh hu
  have D4:=hu
  have yj:=hh
  rw[hi]at D4 yj
  have hp:=hP.step D4 yj
  have hd:=hp.at_
  (refine ab.q (Ub { r with L:=L } b i 1 hL ok.b1.2 dp (by have:=hP.ok.n2;omega)) [0,1] ?_;rintro j ej;refine Wp _ ?_;(repeat' first|exact tv|apply pr|intro hh))
  obtain⟨d,Ox,FN,-⟩:=hd
  have Ox:x.2.2.2+1=d:=Ox
  refine⟨(L,t+1,j,(x.1,x.2.1,x.2.2.1,x.2.2.2+1)),[0,1,2],⟨rfl,rfl,?_,?_⟩,⟨hp,hM,hc,?_⟩,by simp only[];omega⟩
  ·(refine Vb _ ?_;(repeat' first|exact tv|apply pr))
   rw[wr (by omega)]
  ·exact Vc
  ·show j=_
   rw[ej,hi,j1 KL ht]
theorem Fa (r:Rb) (k:List UInt8) (hk:k.length≤1000) {b:Nat} {M:di} {c:Nat} (ok:oX (bH r.aq) r b M c) :
  aa Tryz.prog 138 [.ptr 0 0,.str fun _=>k] (u9 r) (Y:=Rb) (fun r'=>r'.aq=r.aq∧oX (bH r.aq) r' b (bP M k none) (if M k=none then c else c - 1)∧(M k≠none→1≤c))
  (fun _=>.bool fun _=>(M k).isSome) u9:=by
 have hl:=ok.ok.len
 have h8:=zA ok.b1.2
 (refine aa.q Tryz.func138 rfl fun S ao=>Wa _ ?_;(repeat' first|exact tv|apply pr|intro hh))
 (refine ab.q (Ia r k (by omega) ok) [0,1] ?_;rintro y hy;refine Wp _ ?_;(repeat' first|exact tv|apply pr|intro hh))
 ·have hn:y=none:=by cases y <;> simp_all
  have hm:=nu ok.map (hy.no hn)
  (refine ae.w r [0,1] _ ?_;(repeat' first|exact tv|apply pr))
  ·rw[hm];rfl
  ·rw[zw hm,if_pos hm];exact ok
  ·exact fun h=>(h hm).elim
 obtain⟨i0,rfl⟩:∃ i,y=some i:=ab2.1 hh
 obtain⟨h1,h2,h3⟩:=hy.yes i0 rfl
 have AZ:=nx ok.map h1 h2
 rw[h3]at AZ
 obtain⟨m0,vF,ZN⟩:=ok.ok.del h1 h2
 have EG:=ok.map.del ok.ok.tovq h1 h2
 rw[h3]at EG
 refine aH.intro hm (X:=List Sl×Nat×Nat) (fun s=>xK s.1 (2 ^ b) (bH r.aq b) s.2.1 s.2.2∧BH s.1 (2 ^ b) s.2.1 (bP M k none)∧bF s.1=c) (fun s=>s.2.2)
  (fun s=>[(0,.ptr 0 0),(5,.int .i64 fun _=>(s.2.1:Int))])
  (fun s=>u9 { r with L:=s.1 }) (r.L,i0,m0) [0,1] ⟨rfl,rfl,?_,?_⟩ ⟨ZN,EG,ok.bF⟩ ?_
 ·exact Vc
 ·exact Vc
 rintro⟨L,i,m⟩ ⟨hD,hM,hc⟩
 simp only[]at hD hM hc
 have hL:=hD.len
 have hi:=hD.hi
 have yl:=hD.n2
 (refine Wa _ ?_;(repeat' first|exact tv|apply pr|intro hh))
 (refine ab.q (Ub { r with L:=L } b i 1 hL ok.b1.2 hi (by omega)) [0,1] ?_;rintro j ej;refine Wp _ ?_;(repeat' first|exact tv|apply pr|intro hh))
 all_goals have hj:=lF hi (e:=1) (by omega)
 all_goals rw[←ej]at hj
 all_goals try exact Ob.mk ⟨by simp only[];omega,by simp only[];omega⟩
 ·rw[FU,ej]at hh
  have H2:=hD.end_ (.inr hh)
  have VL:=hM.end_ hL hi
  have JC:=jG L i z (by omega)
  rw[hD.used]at JC
  have FQ:1≤c:=by simp[z]at JC;omega
  have ZO:=ok.used
  have FM:=BI L
  refine ae.q { r with L:=L.set i z,used:=r.used - 1 } [0,1] ?_ ?_ ?_ <;> (refine Vb _ ?_;(repeat' first|exact tv|apply pr))
  ·simp
  ·rw[wr (by omega)]
  ·rw[abx,abm];rfl
  ·rw[AZ];rfl
  ·rw[if_neg (by rw[AZ];simp)]
   refine⟨ok.bits,ok.b1,H2,VL,by show r.used - 1=_;omega,?_⟩
   show bF (L.set i z)=c - 1
   simp[z]at JC ⊢;omega
  ·exact fun _=>FQ
 ·rename_i hu
  rw[FU,ej]at hu hh
  have vA:bF (L.set i (pull L (2 ^ b) i))=c:=(uo L i _ (by omega) (by show(sg L (ad (2 ^ b) i 1)).1=_;rw[hu,hD.used])).trans hc
  obtain⟨m2,dH,XT⟩:=hD.step hu hh
  have TP:=hM.step hL yl hi hu
  have ZP:pull L (2 ^ b) i=((sg L j).1,(sg L j).2.1,(sg L j).2.2.1,(sg L j).2.2.2 - 1):=by unfold pull;rw[ej]
  have KO:=hD.pos j hj (by rw[ej];exact zv hi yl) (by rw[ej];exact hu)
  obtain⟨d,Ox,FN,-⟩:=KO
  rw[←ej]at XT TP
  refine⟨(L.set i (pull L (2 ^ b) i),j,m2),[0,1],⟨rfl,rfl,?_,?_⟩,⟨XT,TP,vA⟩,dH⟩
  ·(refine Vb _ ?_;(repeat' first|exact tv|apply pr))
   ·simp
   ·simp only[abx,abm]
    show(L.set i (sg L j)).set i ((sg (L.set i (sg L j)) i).1,(sg (L.set i (sg L j)) i).2.1,(sg (L.set i (sg L j)) i).2.2.1,IntKind.i64.wrap ((sg (L.set i (sg L j)) i).2.2.2 - 1))=L.set i (pull L (2 ^ b) i)
    rw[ij _ _ _ _ (by omega),if_pos rfl,List.set_set,ZP,wr (by omega)]
  ·exact Vc
 ·rw[FU,ej]at hh
  have H2:=hD.end_ (.inl hh)
  have VL:=hM.end_ hL hi
  have JC:=jG L i z (by omega)
  rw[hD.used]at JC
  have FQ:1≤c:=by simp[z]at JC;omega
  have ZO:=ok.used
  have FM:=BI L
  refine ae.q { r with L:=L.set i z,used:=r.used - 1 } [0,1] ?_ ?_ ?_ <;> (refine Vb _ ?_;(repeat' first|exact tv|apply pr))
  ·simp
  ·rw[wr (by omega)]
  ·rw[abx,abm];rfl
  ·rw[AZ];rfl
  ·rw[if_neg (by rw[AZ];simp)]
   refine⟨ok.bits,ok.b1,H2,VL,by show r.used - 1=_;omega,?_⟩
   show bF (L.set i z)=c - 1
   simp[z]at JC ⊢;omega
  ·exact fun _=>FQ
theorem KP (xs:List Sl) (hl:xs.length≤100000):aa Tryz.prog 244 [.aG um fun _=>xs] [] (Y:=Unit) (fun _=>True)
  (fun _=>.vec 0 4 (fun _=>0) (fun _=>xs.length)) (fun _=>[.au kp um fun _=>xs]):=by
 refine aa.q Tryz.func244 rfl fun S ao=>?_;(conv=>whnf)
 ((refine Wb _ ?_;(repeat' first|exact tv|apply pr|intro hh));all_goals(refine Wb _ ?_;(repeat' first|exact tv|apply pr|intro hh)))
 ·have hx:xs=[]:=‹_=true→xs=[]› hh
  refine ae.nil kp um 0 ?_
  (conv=>whnf)
  (refine ae.w () [0] _ ?_;(repeat' first|exact tv|apply pr))
  all_goals simp[hx]
 ·have hb:Tryz.t268.bytes≤1000:=by decide
  refine⟨⟨rfl,?_,?_⟩⟩
  ·show 0+xs.length≤_
   omega
  ·show(0+xs.length)*Tryz.t268.bytes≤_
   have:=Nat.mul_le_mul (show 0+xs.length≤100000 by omega) hb
   omega
 ·(refine ae.w () [0] _ ?_;(repeat' first|exact tv|apply pr))
  all_goals simp
theorem OP (r:Rb) (hl:r.L.length≤100000):aa Tryz.prog 190 [.ptr 0 0] (u9 r) (Y:=Unit) (fun _=>True)
  (fun _=>.aG um fun _=>r.L) (fun _=>u9 r):=by
 (refine aa.q Tryz.func190 rfl fun S ao=>Wa _ ?_;(repeat' first|exact tv|apply pr|intro hh))
 refine ab.rest (KP r.L hl) [1] ?_ (fun _ _=>⟨rfl,rfl⟩) ?_
 ·(refine Vb _ ?_;(repeat' first|exact tv|apply pr))
  simp
 intro y hy
 (refine Wa _ ?_;(repeat' first|exact tv|apply pr|intro hh))
 (refine ae.im 2 ?_;(conv=>whnf))
 (refine ae.w () [0,1] _ ?_;(repeat' first|exact tv|apply pr))
 simp
theorem nK (sd:Int) (b:Nat) (hb:1≤b∧b≤8):aa Tryz.prog 105 [.int .u64 fun _=>sd,.int .i64 fun _=>(b:Int)] [] (Y:=Rb) (fun r=>r.aq=sd∧oX (bH sd) r b (fun _=>none) 0)
  (fun _=>.bM [.ptr 0 0,.int .i64 fun _=>0]) u9:=by
 have h8:=zA hb.2
 have e:IntKind.i64.wrap (1*2 ^ min (b:Int).toNat IntKind.i64.bits)=((2 ^ b:Nat):Int):=by
  rw[abm,show min b IntKind.i64.bits=b from acq (by show b≤64;omega),ad2]
  have:(2:Int) ^ b=((2 ^ b:Nat):Int):=by norm_cast
  rw[this]
  exact(fun(n:Nat) (hn:n≤256)=>(wr (by omega):IntKind.i64.wrap (n:Int)=n)) _ h8
 have hk:2≤2 ^ b:=by
  obtain⟨d,rfl⟩:∃ d,b=d+1:=⟨b - 1,by omega⟩
  rw[adT];have:=acn (n:=d);omega
 obtain⟨h1,h2,h3⟩:=VH (2 ^ b) (bH sd b) hk (fun k=>qe sd hb k)
 (refine aa.q Tryz.func105 rfl fun S ao=>Wa _ ?_;(repeat' first|exact tv|apply pr|intro hh))
 all_goals first|(exfalso;omega)|skip
 all_goals try exact Ob.mk (by simp only[];omega)
 ·refine Ob.mk ?_
  have hb:(Tryz.t268.bytes:Int)≤1000:=by decide
  have:=abZ hb (show((2 ^ b:Nat):Int)≤256 by omega) (by omega) (by omega)
  have e2:IntKind.i64.wrap (1*2 ^ min (b:Int).toNat IntKind.i64.bits)=1*((2 ^ b:Nat):Int):=by rw[e];omega
  show(0:Int)≤IntKind.i64.wrap (1*2 ^ min (b:Int).toNat IntKind.i64.bits)∧IntKind.i64.wrap (1*2 ^ min (b:Int).toNat IntKind.i64.bits)≤IntKind.i64.wrap (1*2 ^ min (b:Int).toNat IntKind.i64.bits)∧IntKind.i64.wrap (1*2 ^ min (b:Int).toNat IntKind.i64.bits)≤281474976710656∧(Tryz.t268.bytes:Int)*IntKind.i64.wrap (1*2 ^ min (b:Int).toNat IntKind.i64.bits)≤281474976710656
  rw[e]
  exact⟨by omega,by omega,by omega,by omega⟩
 (refine ae.w (⟨sd,b,List.replicate (2 ^ b) z,0⟩:Rb) [1,0] _ ?_;(repeat' first|exact tv|apply pr))
 ·show(IntKind.i64.wrap (1*2 ^ min (b:Int).toNat IntKind.i64.bits)).toNat=_
  rw[e,abm,abM]
 ·show List.replicate (IntKind.i64.wrap (1*2 ^ min (b:Int).toNat IntKind.i64.bits)).toNat _=_
  rw[e,abm];rfl
 ·exact⟨rfl,hb,h1,h2,rfl,h3⟩
abbrev Df:TypeId:=178
abbrev KQ:Chunk:=.au kp um fun _=>[]
def Fb (r:Rb) (k:Nat):List AV:=[.int .u64 fun _=>r.aq,.int .i64 fun _=>r.bits,.vec k 4 (fun _=>0) (fun _=>r.L.length),.int .i64 fun _=>r.used]
def Dg (g:Gm):List Chunk:=match g.el with
 | none=>[.cells Df [.int .u64 fun _=>g.aq,.int .i64 fun _=>g.bits,.ptr 1 0,.bZ],.jy oY (Fb g.nw 2),.au kp um fun _=>g.nw.L,KQ,KQ]
 | some e=>[.cells Df [.int .u64 fun _=>g.aq,.int .i64 fun _=>g.bits,.ptr 1 0,.ptr 3 0],.jy oY (Fb g.nw 2),.au kp um fun _=>g.nw.L,.jy oY (Fb e 4),.au kp um fun _=>e.L]
def nN (g:Gm):List Chunk:=match g.el with
 | none=>[.cells Df [.int .u64 fun _=>g.aq,.int .i64 fun _=>g.bits,.ptr 1 0,.bZ],.cells oY (Fb g.nw 2),.au kp um fun _=>g.nw.L,KQ,KQ]
 | some e=>[.cells Df [.int .u64 fun _=>g.aq,.int .i64 fun _=>g.bits,.ptr 1 0,.ptr 3 0],.cells oY (Fb g.nw 2),.au kp um fun _=>g.nw.L,.cells oY (Fb e 4),.au kp um fun _=>e.L]
theorem OR (g:Gm):EE [1,3] (Dg g)=nN g:=by obtain⟨s,b,nw,el⟩:=g;cases el <;> rfl
theorem OS (g:Gm):Km [1,3] (nN g)=Dg g:=by obtain⟨s,b,nw,el⟩:=g;cases el <;> rfl
theorem Ig (g:Gm):tQ (bB (Dg g)) [1,3]=true:=by obtain⟨s,b,nw,el⟩:=g;cases el <;> rfl
theorem gm {f:FuncId} {args:List AV} {g:Gm} {Y:Type} {Q:Y→Prop} {res:Y→AV} {out:Y→Gm} (h:aa Tryz.prog f args (nN g) Q res fun y=>nN (out y)):aa Tryz.prog f args (Dg g) Q res fun y=>Dg (out y):=by
 have h1:=aa.jy [1,3] (Ig g) (by rw[OR];exact h)
 simp only[OS]at h1
 exact h1
def VM (x:Sl):AV:=.agg [.bool fun _=>x.1,.str fun _=>x.2.1,.int .i64 fun _=>x.2.2.1,.int .i64 fun _=>x.2.2.2]
theorem Sh (x:Sl):aa Tryz.prog 192 [VM x] [] (Y:=Unit) (fun _=>True) (fun _=>.bool fun _=>x.1) (fun _=>[]):=by
 (refine aa.q Tryz.func192 rfl fun S ao=>Wa _ ?_;(repeat' first|exact tv|apply pr|intro hh))
 exact ae.z () []
theorem OT (l:List Sl) (hl:l.length≤1000):aa Tryz.prog 191 [.aG um fun _=>l,.fn (.func 192) [] []] [] (Y:=Nat) (fun i=>i≤l.length∧(i<l.length→(sg l i).1=true)∧(i=l.length→∀ j,j<l.length→(sg l j).1=false))
  (fun i=>.int .i64 fun _=>if i=l.length then -1 else(i:Int)) (fun _=>[]):=by
 (refine aa.q Tryz.func191 rfl fun S ao=>Wa _ ?_;(repeat' first|exact tv|apply pr|intro hh))
 refine aH.intro hm (X:=Nat) (fun i=>i≤l.length∧∀ j,j<i→(sg l j).1=false) (fun i=>l.length - i)
  (fun i=>[(8,.int .i64 fun _=>(i:Int)),(7,.int .i64 fun _=>(l.length:Int)),(6,.aG um fun _=>l),(0,.aG um fun _=>l),(1,.fn (.func 192) [] [])])
  (fun i=>[]) 0 [] ⟨rfl,rfl,?_,?_⟩ ⟨abw _,fun j hj=>absurd hj (ac8 j)⟩ ?_
 ·exact Vc
 ·exact Vc
 rintro i ⟨hi,cu⟩
 have hg:l.getD ((i:Int)).toNat um.a8=sg l i:=by rw[abm];rfl
 (refine Wa _ ?_;(repeat' first|exact tv|apply pr|intro hh))
 all_goals try exact Ob.mk ⟨by simp only[];omega,by simp only[];omega⟩
 ·(refine ab.q (Sh (sg l i)) [] fun _ _=>Wp _ ?_;(repeat' first|exact tv|apply pr|intro hh))
  ·(refine ae.w i [] _ ?_;(repeat' first|exact tv|apply pr))
   ·rw[if_neg (by omega)]
   ·omega
   ·exact fun _=>hh
   ·intro e;omega
  ·refine⟨i+1,[],⟨rfl,rfl,?_,?_⟩,⟨by omega,fun j hj=>?_⟩,by omega⟩
   ·exact Vc
   ·(refine Vb _ ?_;(repeat' first|exact tv|apply pr))
    rw[wr (by omega)];omega
   ·by_cases e:j=i
    ·subst e;simpa using hh
    ·exact cu j (by omega)
 ·have e:i=l.length:=by omega
  (refine ae.w i [] _ ?_;(repeat' first|exact tv|apply pr))
  ·rw[if_pos e]
  ·omega
  ·intro h;omega
  ·intro _ j hj;exact cu j (by omega)
theorem anyM (e:Rb) {home:Nat→List UInt8→Nat} {b:Nat} {M:di} {c:Nat} (ok:oX home e b M c) (hc:0<c):aa Tryz.prog 136 [.agg [.ptr 0 0]] (u9 e) (Y:=Sl) (fun x=>M x.2.1=some x.2.2.1∧∃ i,i<2 ^ b∧(sg e.L i).1=true∧sg e.L i=x)
  (fun x=>.bM [.str fun _=>x.2.1,.tt]) (fun _=>u9 e):=by
 have hl:=ok.ok.len
 have h8:=zA ok.b1.2
 have key:∀ i:Nat,i≤e.L.length→(i=e.L.length→∀ j,j<e.L.length→(sg e.L j).1=false)→i<e.L.length:=fun i h1 h3=>by
  by_cases h4:i<e.L.length
  ·exact h4
  ·exfalso
   obtain⟨u,k1,k2⟩:=H4 (L:=e.L) (by rw[ok.bF];exact hc)
   rw[h3 (by omega) u k1]at k2;cases k2
 (refine aa.q Tryz.func136 rfl fun S ao=>Wa _ ?_;(repeat' first|exact tv|apply pr|intro hh))
 (refine ab.q (OP e (by omega)) [0,1] fun _ _=>Wp _ ?_;(repeat' first|exact tv|apply pr|intro hh))
 (refine ab.q (OT e.L (by omega)) [] ?_;rintro i ⟨h1,h2,h3⟩;refine Wp _ ?_;(repeat' first|exact tv|apply pr|intro hh))
 all_goals have bm:=key i h1 h3
 all_goals have bE:¬i=e.L.length:=by omega
 ·exfalso;rw[if_neg bE]at hh;omega
 ·exact Ob.mk (by simp only[if_neg bE];omega)
 have hg:e.L.getD ((if i=e.L.length then -1 else(i:Int))).toNat um.a8=sg e.L i:=by rw[if_neg bE,abm];rfl
 (refine ae.w (sg e.L i) [0,1] _ ?_;(repeat' first|exact tv|apply pr))
 ·exact congrArg (fun x:Sl=>x.2.1) hg
 ·exact nx ok.map (by omega) (h2 bm)
 ·exact⟨i,by omega,h2 bm,rfl⟩
theorem KR (sd:Int) (b:Nat) (hb:3≤b∧b≤7):aa Tryz.prog 57 [.int .u64 fun _=>sd,.int .i64 fun _=>(b:Int)] [] (Y:=Gm) (fun g=>uh (bH sd) g sd (fun _=>none) 0)
  (fun _=>.bM [.ptr 0 0,.int .i64 fun _=>0]) Dg:=by
 (refine aa.q Tryz.func57 rfl fun S ao=>Wa _ ?_;(repeat' first|exact tv|apply pr|intro hh))
 (refine ab.q (nK sd b (by omega)) [] ?_;rintro r ⟨hs,hr⟩;refine Wp _ ?_;(repeat' first|exact tv|apply pr|intro hh))
 refine ae.cls [0] rfl ?_
 (conv=>whnf)
 refine ae.nil kp um 9 ?_
 (conv=>whnf)
 refine ae.nil kp um 9 ?_
 (conv=>whnf)
 refine ae.q (⟨sd,b,r,none⟩:Gm) [2,0,1,3,4] ?_ ?_ ?_ <;> (refine Vb _ ?_;(repeat' first|exact tv|apply pr))
 exact⟨b,fun _=>none,fun _=>none,0,0,⟨rfl,rfl,hs,fun e h=>(by cases h),hr,⟨rfl,rfl⟩,fun k h=>rfl⟩,rfl,rfl,⟨hb,fun h=>absurd h (Nat.lt_irrefl 0),fun _=>by simp⟩⟩
theorem zB {A B:di} {k:List UInt8} (h:(A k).isSome=true):comb A B k=A k:=by
 unfold comb;cases hA:A k with
 | none=>rw[hA]at h;cases h
 | some v=>rfl
theorem Dh {A B:di} {k:List UInt8} (h:(A k).isSome=false):comb A B k=B k:=by
 unfold comb;cases hA:A k with
 | none=>rfl
 | some v=>rw[hA]at h;cases h
theorem Di (g:Gm) (sd:Int) {M:di} {b:Nat} {A B:di} {ca cb:Nat} (hP:AG (bH sd) g sd b A B ca cb) (hM:M=comb A B) (k:List UInt8) (hk:k.length≤1000):aa Tryz.prog 81 [.ptr 0 0,.str fun _=>k] (nN g) (Y:=Unit) (fun _=>True)
  (fun _=>.bM [.int .i64 fun _=>(M k).getD 0,.bool fun _=>(M k).isSome]) (fun _=>nN g):=by
 subst hM
 obtain⟨aq,bits,nw,el⟩:=g
 have qG:=hP.nw
 have uq:nw.aq=sd:=hP.sn
 simp only[]at qG
 rw[←uq]at qG
 cases el with
 | none =>
  have hB:B=fun _=>none:=hP.el.1
  subst hB
  (refine aa.q Tryz.func81 rfl fun S ao=>Wa _ ?_;(repeat' first|exact tv|apply pr|intro hh))
  (refine ab.q (getM nw k hk qG) [1,2] fun _ _=>Wp _ ?_;(repeat' first|exact tv|apply pr|intro hh))
  ·rw[zB hh]
   (refine ae.w () [0,1,2,3,4] _ ?_;(repeat' first|exact tv|apply pr))
   first|exact hh|exact hh.symm
  ·rw[Dh hh]
   (refine ab.q (OO k) [] fun _ _=>Wp _ ?_;(repeat' first|exact tv|apply pr|intro hh))
   exact ae.z () [0,1,2,3,4]
 | some e =>
  have rQ:e.aq=sd:=hP.se e rfl
  obtain⟨b2,he⟩:=hP.el
  rw[←rQ]at he
  (refine aa.q Tryz.func81 rfl fun S ao=>Wa _ ?_;(repeat' first|exact tv|apply pr|intro hh))
  (refine ab.q (getM nw k hk qG) [1,2] fun _ _=>Wp _ ?_;(repeat' first|exact tv|apply pr|intro hh))
  ·rw[zB hh]
   (refine ae.w () [0,1,2,3,4] _ ?_;(repeat' first|exact tv|apply pr))
   first|exact hh|exact hh.symm
  ·rw[Dh hh]
   (refine ab.q (getM e k hk he) [3,4] fun _ _=>Wp _ ?_;(repeat' first|exact tv|apply pr|intro hh))
   exact ae.z () [0,1,2,3,4]
theorem ur (g:Gm) (sd:Int) {b:Nat} {A B:di} {ca cb:Nat} (hP:AG (bH sd) g sd b A B ca cb):aa Tryz.prog 135 [.ptr 0 0] (nN g) (Y:=Unit) (fun _=>True)
  (fun _=>.int .i64 fun _=>(cb:Int)) (fun _=>nN g):=by
 obtain⟨aq,bits,nw,el⟩:=g
 cases el with
 | none =>
  have hB:cb=0:=hP.el.2
  subst hB
  (refine aa.q Tryz.func135 rfl fun S ao=>Wa _ ?_;(repeat' first|exact tv|apply pr|intro hh))
  (refine ab.q (Ie) [] fun _ _=>Wp _ ?_;(repeat' first|exact tv|apply pr|intro hh))
  exact ae.z () [0,1,2,3,4]
 | some e =>
  obtain⟨b2,he⟩:=hP.el
  have hu:=he.used
  (refine aa.q Tryz.func135 rfl fun S ao=>Wa _ ?_;(repeat' first|exact tv|apply pr|intro hh))
  (refine ab.q (KM e) [3,4] fun _ _=>Wp _ ?_;(repeat' first|exact tv|apply pr|intro hh))
  (refine ae.w () [0,1,2,3,4] _ ?_;(repeat' first|exact tv|apply pr))
  exact hu
theorem r0 {home:Nat→List UInt8→Nat} {r:Rb} {b:Nat} {M:di} {c:Nat} (h:oX home r b M c):c≤256:=by
 have h1:=BI r.L
 have h2:=h.ok.len
 have h3:=h.bF
 have h4:=zA h.b1.2
 omega
theorem KS (g:Gm) (sd:Int) {b:Nat} {A B:di} {ca cb:Nat} (hP:AG (bH sd) g sd b A B ca cb):aa Tryz.prog 170 [.ptr 0 0] (nN g) (Y:=Unit) (fun _=>True)
  (fun _=>.int .i64 fun _=>((ca+cb:Nat):Int)) (fun _=>nN g):=by
 have h1:=r0 hP.nw
 have sE:=hP.nw.used
 obtain⟨aq,bits,nw,el⟩:=g
 simp only[]at sE
 cases el with
 | none =>
  have hB:cb=0:=hP.el.2
  subst hB
  (refine aa.q Tryz.func170 rfl fun S ao=>Wa _ ?_;(repeat' first|exact tv|apply pr|intro hh))
  (refine ab.q (KM nw) [1,2] fun _ _=>Wp _ ?_;(repeat' first|exact tv|apply pr|intro hh))
  (refine ab.q (Ie) [] fun _ _=>Wp _ ?_;(repeat' first|exact tv|apply pr|intro hh))
  (refine ae.w () [0,1,2,3,4] _ ?_;(repeat' first|exact tv|apply pr))
  rw[sE,wr (by omega)];omega
 | some e =>
  obtain⟨b2,he⟩:=hP.el
  have h2:=r0 he
  have hu:=he.used
  (refine aa.q Tryz.func170 rfl fun S ao=>Wa _ ?_;(repeat' first|exact tv|apply pr|intro hh))
  (refine ab.q (KM nw) [1,2] fun _ _=>Wp _ ?_;(repeat' first|exact tv|apply pr|intro hh))
  (refine ab.q (KM e) [3,4] fun _ _=>Wp _ ?_;(repeat' first|exact tv|apply pr|intro hh))
  (refine ae.w () [0,1,2,3,4] _ ?_;(repeat' first|exact tv|apply pr))
  rw[sE,hu,wr (by omega)];omega
theorem wb (g:Gm) (sd:Int) {b:Nat} {A B:di} {ca:Nat} (hP:AG (bH sd) g sd b A B ca 0) (hb:b≤7):aa Tryz.prog 171 [.ptr 0 0] (Dg g) (Y:=Gm) (fun g'=>AG (bH sd) g' sd (b+1) (fun _=>none) A 0 ca)
  (fun _=>.bM []) Dg:=by
 obtain⟨aq,bits,nw,el⟩:=g
 have hs:aq=sd:=hP.aq
 have y9:bits=(b:Int):=hP.bits
 subst hs;subst y9
 have hw:IntKind.i64.wrap ((b:Int)+1)=((b+1:Nat):Int):=by rw[wr (by omega)];omega
 have hZ:=nK aq (b+1) (by omega)
 rw[←hw]at hZ
 cases el with
 | none =>
  (refine aa.q Tryz.func171 rfl fun S ao=>Wa _ ?_;(repeat' first|exact tv|apply pr|intro hh))
  (refine ab.q (hZ) [] ?_;rintro r ⟨hs,hr⟩;refine Wp _ ?_;(repeat' first|exact tv|apply pr|intro hh))
  have hrr:oX (bH aq) r (b+1) (fun _=>none) 0:=hr
  refine ae.cls [5] rfl ?_
  (conv=>whnf)
  (refine ae.w (⟨aq,((b+1:Nat):Int),r,some nw⟩:Gm) [0,5,6,1,2] _ ?_;(repeat' first|exact tv|apply pr))
  all_goals first|exact hw|exact⟨rfl,rfl,hs,fun e h=>(by cases h;exact hP.sn),hr,⟨b,hP.nw⟩,fun k h=>(h rfl).elim⟩
 | some e =>
  (refine aa.q Tryz.func171 rfl fun S ao=>Wa _ ?_;(repeat' first|exact tv|apply pr|intro hh))
  (refine ab.q (hZ) [] ?_;rintro r ⟨hs,hr⟩;refine Wp _ ?_;(repeat' first|exact tv|apply pr|intro hh))
  refine ae.cls [5] rfl ?_
  (conv=>whnf)
  (refine ae.w (⟨aq,((b+1:Nat):Int),r,some nw⟩:Gm) [0,5,6,1,2] _ ?_;(repeat' first|exact tv|apply pr))
  all_goals first|exact hw|exact⟨rfl,rfl,hs,fun e h=>(by cases h;exact hP.sn),hr,⟨b,hP.nw⟩,fun k h=>(h rfl).elim⟩
structure Si (sd:Int) (g:Gm) (b:Nat) (A B:di) (ca cb k:Nat) (aB:Int) (y:Gm×Nat):Prop where
 h:∃ A' B' rr,AG (bH sd) y.1 sd b A' B' (ca+y.2) rr∧comb A' B'=comb A B∧cb=rr+y.2∧gj b (ca+y.2) rr (k - 2*y.2)∧(y.2:Int)≤max aB 0∧((y.2:Int)<aB→rr=0)
structure ZQ (sd:Int) (b:Nat) (A B:di) (ca cb k:Nat) (aq bits aB:Int) (y:Rb×Rb×Nat):Prop where
 h:∃ A' B' rr,AG (bH sd) ⟨aq,bits,y.1,some y.2.1⟩ sd b A' B' (ca+y.2.2) rr∧comb A' B'=comb A B∧cb=rr+y.2.2∧gj b (ca+y.2.2) rr (k - 2*y.2.2)∧(y.2.2:Int)≤max aB 0∧∀ j,B' j≠none→1≤j.length∧j.length≤33
theorem mM (g:Gm) (sd:Int) {b:Nat} {A B:di} {ca cb k:Nat} (hP:AG (bH sd) g sd b A B ca cb) (hL:gj b ca cb k) (hk:k≤4) (wU:∀ j,B j≠none→1≤j.length∧j.length≤33) (aB:Int) :
  aa Tryz.prog 78 [.ptr 0 0,.int .i64 fun _=>aB] (nN g) (Y:=Gm×Nat) (Si sd g b A B ca cb k aB)
  (fun y=>.int .i64 fun _=>(y.2:Int)) (fun y=>nN y.1):=by
 obtain⟨aq,bits,nw,el⟩:=g
 cases el with
 | none =>
  have hB:cb=0:=hP.el.2
  subst hB
  (refine aa.q Tryz.func78 rfl fun S ao=>Wa _ ?_;(repeat' first|exact tv|apply pr|intro hh))
  refine aH.intro hm (X:=Unit) (fun _=>True) (fun _=>0) (fun _=>[(5,.int .i64 fun _=>0),(0,.ptr 0 0),(1,.int .i64 fun _=>aB)]) (fun _=>nN ⟨aq,bits,nw,none⟩) () [0,1,2,3,4] ⟨rfl,rfl,?_,?_⟩ trivial ?_
  ·exact Vc
  ·exact Vc
  intro _ _
  (refine Wa _ ?_;(repeat' first|exact tv|apply pr|intro hh))
  ·(refine ab.q (ur ⟨aq,bits,nw,none⟩ sd hP) [0,1,2,3,4] fun _ _=>Wp _ ?_;(repeat' first|exact tv|apply pr|intro hh))
   (refine ae.w ((⟨aq,bits,nw,none⟩,0):Gm×Nat) [0,1,2,3,4] _ ?_;(repeat' first|exact tv|apply pr))
   exact⟨A,B,0,hP,rfl,rfl,hL,by simp only[Int.natCast_zero];omega,fun _=>rfl⟩
  ·(refine ae.w ((⟨aq,bits,nw,none⟩,0):Gm×Nat) [0,1,2,3,4] _ ?_;(repeat' first|exact tv|apply pr))
   exact⟨A,B,0,hP,rfl,rfl,hL,by simp only[Int.natCast_zero];omega,fun _=>rfl⟩
 | some e =>
  have wc:=hP.bits
  (refine aa.q Tryz.func78 rfl fun S ao=>Wa _ ?_;(repeat' first|exact tv|apply pr|intro hh))
  refine aH.intro hm (X:=Rb×Rb×Nat) (ZQ sd b A B ca cb k aq bits aB) (fun x=>cb - x.2.2)
   (fun x=>[(5,.int .i64 fun _=>(x.2.2:Int)),(0,.ptr 0 0),(1,.int .i64 fun _=>aB)]) (fun x=>nN ⟨aq,bits,x.1,some x.2.1⟩) (nw,e,0) [0,1,2,3,4] ⟨rfl,rfl,?_,?_⟩
   ⟨A,B,cb,hP,rfl,rfl,hL,by simp only[Int.natCast_zero];omega,wU⟩ ?_
  ·exact Vc
  ·exact Vc
  rintro⟨nw,e,i⟩ ⟨A',B',rr,Fc,Ih,qP,Ec,hi,MB⟩
  simp only[]at Fc qP Ec hi
  obtain⟨b2,he⟩:=Fc.el
  have rQ:e.aq=sd:=Fc.se e rfl
  have uq:nw.aq=sd:=Fc.sn
  have qG:=Fc.nw
  have hr:=r0 he
  have tj:=r0 qG
  simp only[]at qG tj
  rw[←rQ]at he
  rw[←uq]at qG
  (refine Wa _ ?_;(repeat' first|exact tv|apply pr|intro hh))
  ·(refine ab.q (ur ⟨aq,bits,nw,some e⟩ sd Fc) [0,1,2,3,4] fun _ _=>Wp _ ?_;(repeat' first|exact tv|apply pr|intro hh))
   ·have hc:0<rr:=by omega
    (refine ab.q (anyM e he hc) [3,4] ?_;rintro x ⟨hx,_⟩;refine Wp _ ?_;(repeat' first|exact tv|apply pr|intro hh))
    have oS:=MB x.2.1 (by rw[hx];simp)
    (refine ab.q (getM e x.2.1 (by omega) he) [3,4] fun _ _=>Wp _ ?_;(repeat' first|exact tv|apply pr|intro hh))
    rw[show(B' x.2.1).getD 0=x.2.2.1 by rw[hx];rfl]
    (refine ab.q (Fa e x.2.1 (by omega) he) [3,4] ?_;rintro e2 ⟨pc,xM,h2⟩;refine Wp _ ?_;(repeat' first|exact tv|apply pr|intro hh))
    have VN:=(v8 Fc.apart hx).2
    (refine ab.q (wP nw x.2.1 x.2.2.1 oS qG (.inr (Ec.lt (by omega)))) [1,2] ?_;rintro ny ⟨AH,jm⟩;refine Wp _ ?_;(repeat' first|exact tv|apply pr|intro hh))
    rw[if_neg (by rw[hx];simp)]at xM
    rw[if_pos VN]at jm
    refine⟨(ny,e2,i+1),[0,1,2,3,4],⟨rfl,rfl,?_,?_⟩,⟨bP A' x.2.1 (some x.2.2.1),bP B' x.2.1 none,rr - 1,⟨Fc.aq,Fc.bits,by rw[AH];exact uq,fun e' h=>(by cases h;rw[pc];exact rQ),?_,⟨b2,?_⟩,rq Fc.apart _ _⟩,?_,?_,?_,?_,?_⟩,?_⟩
    ·exact Vc
    ·(refine Vb _ ?_;(repeat' first|exact tv|apply pr))
     rw[wr (by omega)];omega
    ·show oX (bH sd) ny b _ (ca+(i+1))
     rw[←uq];exact jm
    ·show oX (bH sd) e2 b2 _ (rr - 1)
     rw[←rQ];exact xM
    ·rw[(v8 Fc.apart hx).1];exact Ih
    ·show cb=rr - 1+(i+1);omega
    ·have hq:rr=rr - 1+1:=by omega
     rw[hq]at Ec
     have:=Ec.move (by omega)
     rw[show k - 2*i - 2=k - 2*(i+1) by omega]at this
     exact this
    ·show((i+1:Nat):Int)≤max aB 0;omega
    ·intro j hj
     refine MB j fun e=>hj ?_
     unfold bP;split
     ·rfl
     ·exact e
    ·show cb - (i+1)<cb - i;omega
   ·(refine ae.w ((⟨aq,bits,nw,some e⟩,i):Gm×Nat) [0,1,2,3,4] _ ?_;(repeat' first|exact tv|apply pr))
    exact⟨A',B',rr,Fc,Ih,qP,Ec,hi,fun _=>by omega⟩
  ·(refine ae.w ((⟨aq,bits,nw,some e⟩,i):Gm×Nat) [0,1,2,3,4] _ ?_;(repeat' first|exact tv|apply pr))
   exact⟨A',B',rr,Fc,Ih,qP,Ec,hi,fun h=>by simp only[]at h;omega⟩
structure Ii (sd:Int) (M:di) (n:Nat) (k:List UInt8) (g:Gm):Prop where
 h:∃ b A B ca cb,AG (bH sd) g sd b A B ca cb∧M=comb A B∧n=ca+cb∧gj b ca cb 0∧(M k=none→cb=0→4*(ca+1)≤3*2 ^ b)
theorem KT {b:Nat} (hb:b≤7):IntKind.i64.wrap (3*2 ^ (min ((b:Int)).toNat IntKind.i64.bits))=((3*2 ^ b:Nat):Int):=by
 rw[abm,show min b IntKind.i64.bits=b by simp[IntKind.bits];omega]
 have h8:=zA (show b≤8 by omega)
 have e:(2:Int) ^ b=((2 ^ b:Nat):Int):=by simp
 rw[e]
 generalize 2 ^ b=q at h8 ⊢
 rw[wr (by omega)];omega
theorem AG.none {home:Nat→List UInt8→Nat} {g:Gm} {sd:Int} {b:Nat} {A B:di} {ca cb:Nat} (h:AG home g sd b A B ca cb) (h0:cb=0):B=fun _=>none:=by
 have he:=h.el
 cases FJ:g.el with
 | none=>rw[FJ]at he;exact he.1
 | some e =>
  rw[FJ]at he
  obtain⟨b2,h2⟩:=he
  exact H5 h2.ok.len h2.map (by rw[h2.bF,h0])
theorem KU (g:Gm) (sd:Int) {M:di} {n:Nat} (hG:uh (bH sd) g sd M n) (wU:∀ j,M j≠none→1≤j.length∧j.length≤33) (k:List UInt8) (v:Int) (hk:1≤k.length∧k.length≤33) (hf:M k≠none∨n<64) (hn:n≤64) :
  aa Tryz.prog 118 [.ptr 0 0,.str fun _=>k,.int .i64 fun _=>v] (Dg g) (Y:=Gm) (fun g'=>uh (bH sd) g' sd (bP M k (some v)) (if M k=none then n+1 else n))
  (fun _=>.int .i64 fun _=>0) Dg:=by
 obtain⟨b,A,B,ca,cb,hP,hM,sj,hL⟩:=hG
 have cA:=gm (out:=fun _=>g) (Di g sd hP hM k (by omega))
 have hlen:=gm (out:=fun _=>g) (KS g sd hP)
 have MC:=gm (out:=fun _=>g) (ur g sd hP)
 have wc:=hP.bits
 have TV:=hL.b3
 have oD:k≠[]:=fun e=>by rw[e]at hk;simp at hk
 obtain⟨aq,bits,nw,el⟩:=g
 simp only[]at wc
 cases el with
 | none =>
  refine aa.q Tryz.func118 rfl fun S ao=>?_;(conv=>whnf)
  (refine aC.step hm rfl (Wc _ ?_);(repeat' first|exact tv|apply pr|intro hh))
  (refine aC.step hm rfl (Wc _ ?_);(repeat' first|exact tv|apply pr|intro hh))
  (refine aC.step hm rfl (Wc _ ?_);(repeat' first|exact tv|apply pr|intro hh))
  all_goals (refine aC.step hm rfl (Wc _ ?_);(repeat' first|exact tv|apply pr|intro hh))
  all_goals first|(exact absurd ‹_› oD)|(exfalso;omega)|skip
  refine aC.mid hm (X:=Gm) (Ii sd M n k) (fun _=>[(0,.ptr 0 0),(1,.str fun _=>k),(2,.int .i64 fun _=>v)]) (fun g=>Dg g) rfl ?_ ?_
  rotate_left
  ·rintro⟨aq,bits,nw,el⟩ ⟨b,A,B,ca,cb,hP,hM,sj,hL,rU⟩
   have uq:nw.aq=sd:=hP.sn
   have qG:=hP.nw
   simp only[]at qG
   rw[←uq]at qG
   have tj:=r0 hP.nw
   cases el with
   | none =>
    have hB:=hP.none (hP.el.2)
    have qP:cb=0:=hP.el.2
    subst qP
    subst hB
    (conv=>whnf)
    refine aC.Jy [1,3] ?_
    (conv=>whnf)
    (refine Wa _ ?_;(repeat' first|exact tv|apply pr|intro hh))
    (refine ab.q (Ic k) [] fun _ _=>Wp _ ?_;(repeat' first|exact tv|apply pr|intro hh))
    have Sj:M k=A k:=by rw[hM];unfold comb;simp
    (refine ab.q (wP nw k v hk qG (.inr (hL.lt (by omega)))) [1,2] ?_;rintro ny ⟨AH,jm⟩;refine Wp _ ?_;(repeat' first|exact tv|apply pr|intro hh))
    have OU:AG (bH sd) ⟨aq,bits,ny,none⟩ sd b (bP A k (some v)) (fun _=>none) (if A k=none then ca+1 else ca) 0:=⟨hP.aq,hP.bits,by rw[AH];exact uq,fun e h=>(by cases h),by rw[←uq];exact jm,⟨rfl,rfl⟩,fun _ _=>rfl⟩
    have KN:gj b (if A k=none then ca+1 else ca) 0 4:=by
     by_cases hA:A k=none
     ·rw[if_pos hA];exact hL.more fun _=>rU (by rw[Sj];exact hA) rfl
     ·rw[if_neg hA];exact⟨hL.b3,fun h=>absurd h (Nat.lt_irrefl 0),hL.no⟩
    (refine ab.q (mM ⟨aq,bits,ny,none⟩ sd OU KN (by omega) (fun j hj=>absurd rfl hj) 2) [0,1,2,3,4] ?_;rintro y ⟨A',B',rr,h1,h2,h3,h4,h5,h6⟩;refine Wp _ ?_;(repeat' first|exact tv|apply pr|intro hh))
    obtain⟨⟨s9,b9,n9,e9⟩,m⟩:=y
    simp only[]at h1 h3 h4 h6
    have uu:uh (bH sd) ⟨s9,b9,n9,e9⟩ sd (bP M k (some v)) (if M k=none then n+1 else n):=by
     refine⟨b,A',B',_,rr,h1,?_,?_,h4.done (.inr (by omega))⟩
     ·rw[h2,hM]
      have:=mL (A:=A) (B:=fun _=>none) k v
      rw[←this]
      congr 1
      funext j;unfold bP;split <;> rfl
     ·rw[Sj,sj];split <;> omega
    cases e9 with
    | none =>
     (refine Wb _ ?_;(repeat' first|exact tv|apply pr|intro hh))
     refine ae.cls [1,3] rfl ?_
     (conv=>whnf)
     (refine ae.w (⟨s9,b9,n9,none⟩:Gm) [0,1,2,3,4] _ ?_;(repeat' first|exact tv|apply pr))
     exact uu
    | some e9 =>
     (refine Wb _ ?_;(repeat' first|exact tv|apply pr|intro hh))
     refine ae.cls [1,3] rfl ?_
     (conv=>whnf)
     (refine ae.w (⟨s9,b9,n9,some e9⟩:Gm) [0,1,2,3,4] _ ?_;(repeat' first|exact tv|apply pr))
     exact uu
   | some e =>
    obtain⟨b2,he⟩:=hP.el
    have rQ:e.aq=sd:=hP.se e rfl
    rw[←rQ]at he
    have ZR:=r0 he
    (conv=>whnf)
    refine aC.Jy [1,3] ?_
    (conv=>whnf)
    (refine Wa _ ?_;(repeat' first|exact tv|apply pr|intro hh))
    (refine ab.q (Fa e k (by omega) he) [3,4] ?_;rintro e2 ⟨pc,xM,h2⟩;refine Wp _ ?_;(repeat' first|exact tv|apply pr|intro hh))
    have wM:A k≠none∨ca<2 ^ b:=.inr (hL.lt (by omega))
    (refine ab.q (wP nw k v hk qG wM) [1,2] ?_;rintro ny ⟨AH,jm⟩;refine Wp _ ?_;(repeat' first|exact tv|apply pr|intro hh))
    have OU:AG (bH sd) ⟨aq,bits,ny,some e2⟩ sd b (bP A k (some v)) (bP B k none) (if A k=none then ca+1 else ca) (if B k=none then cb else cb - 1) :=
     ⟨hP.aq,hP.bits,by rw[AH];exact uq,fun e' h=>(by cases h;rw[pc];exact rQ),by rw[←uq];exact jm,⟨b2,by rw[←rQ];exact xM⟩,rq hP.apart k v⟩
    have yZ:∃ kk,kk≤4∧gj b (if A k=none then ca+1 else ca) (if B k=none then cb else cb - 1) kk∧(if M k=none then n+1 else n)=(if A k=none then ca+1 else ca)+(if B k=none then cb else cb - 1):=by
     by_cases hA:A k=none
     ·by_cases zC:B k=none
      ·have Fe:M k=none:=by rw[hM];unfold comb;rw[hA,zC];rfl
       rw[if_pos hA,if_pos zC,if_pos Fe]
       exact⟨4,by omega,hL.more (fun h0=>rU Fe h0),by omega⟩
      ·have h1:=h2 zC
       have Fe:M k≠none:=by rw[hM];unfold comb;rw[hA];simpa using zC
       rw[if_pos hA,if_neg zC,if_neg Fe]
       have hq:cb=cb - 1+1:=by omega
       rw[hq]at hL
       exact⟨0,by omega,hL.move (by omega),by omega⟩
     ·have zC:B k=none:=hP.apart k hA
      have Fe:M k≠none:=by
       rw[hM];unfold comb
       cases OV:A k with
       | none=>exact(hA OV).elim
       | some u=>simp
      rw[if_neg hA,if_pos zC,if_neg Fe]
      exact⟨0,by omega,hL,by omega⟩
    obtain⟨kk,VO,KN,OW⟩:=yZ
    have Ij:∀ j,bP B k none j≠none→1≤j.length∧j.length≤33:=fun j hj=>by
     refine wU j fun e=>hj ?_
     unfold bP;split
     ·rfl
     ·rw[hM]at e;unfold comb at e
      cases MD:A j with
      | none=>rw[MD]at e;exact e
      | some u=>rw[MD]at e;cases e
    (refine ab.q (mM ⟨aq,bits,ny,some e2⟩ sd OU KN VO Ij 2) [0,1,2,3,4] ?_;rintro y ⟨A',B',rr,h1,G1,h3,h4,h5,h6⟩;refine Wp _ ?_;(repeat' first|exact tv|apply pr|intro hh))
    obtain⟨⟨s9,b9,n9,e9⟩,m⟩:=y
    simp only[]at h1 h3 h4 h5 h6
    have uu:uh (bH sd) ⟨s9,b9,n9,e9⟩ sd (bP M k (some v)) (if M k=none then n+1 else n):=by
     refine⟨b,A',B',_,rr,h1,?_,?_,h4.done ?_⟩
     ·rw[G1,hM,mL]
     ·rw[OW];omega
     ·by_cases dH:(m:Int)<2
      ·exact .inr (h6 dH)
      ·exact .inl (by omega)
    cases e9 with
    | none =>
     (refine Wb _ ?_;(repeat' first|exact tv|apply pr|intro hh))
     refine ae.cls [1,3] rfl ?_
     (conv=>whnf)
     (refine ae.w (⟨s9,b9,n9,none⟩:Gm) [0,1,2,3,4] _ ?_;(repeat' first|exact tv|apply pr))
     exact uu
    | some e9 =>
     (refine Wb _ ?_;(repeat' first|exact tv|apply pr|intro hh))
     refine ae.cls [1,3] rfl ?_
     (conv=>whnf)
     (refine ae.w (⟨s9,b9,n9,some e9⟩:Gm) [0,1,2,3,4] _ ?_;(repeat' first|exact tv|apply pr))
     exact uu
  (conv=>whnf)
  (refine Wa _ ?_;(repeat' first|exact tv|apply pr|intro hh))
  (refine ab.q cA [0,1,2,3,4] fun _ _=>Wp _ ?_;(repeat' first|exact tv|apply pr|intro hh))
  ·have cu:M k=none:=by cases AZ:M k with|none=>rfl|some u=>rw[AZ]at hh;cases hh
   have Ff:n<64:=hf.resolve_left fun h=>h cu
   (refine ab.q hlen [0,1,2,3,4] fun _ _=>Wp _ ?_;(repeat' first|exact tv|apply pr|intro hh))
   ·exfalso;omega
   (refine ab.q MC [0,1,2,3,4] fun _ _=>Wp _ ?_;(repeat' first|exact tv|apply pr|intro hh))
   all_goals try ((refine ab.q hlen [0,1,2,3,4] fun _ _=>Wp _ ?_;(repeat' first|exact tv|apply pr|intro hh)))
   ·exact Ob.mk (by simp only[];omega)
   ·exact Ob.mk (by simp only[];omega)
   ·have q7:cb=0:=by omega
    subst q7
    subst wc
    rw[KT (by omega),wr (x:=((ca+0:Nat):Int)+1) (by omega),wr (x:=4*(((ca+0:Nat):Int)+1)) (by omega)]at hh
    have lE:3*2 ^ b<4*(ca+1):=by omega
    have OX:=hP.none rfl
    (refine ab.q (wb ⟨aq,((b:Nat):Int),nw,none⟩ sd hP (by omega)) [0,1,2,3,4] ?_;rintro g2 Sk;refine Wp _ ?_;(repeat' first|exact tv|apply pr|intro hh))
    obtain⟨zD,zF,ny,KV⟩:=g2
    cases KV with
    | none =>
     refine⟨⟨zD,zF,ny,none⟩,[0,1,2,3,4],⟨rfl,rfl,?_,?_⟩,⟨b+1,fun _=>none,A,0,ca,Sk,?_,by omega,hL.begin (by omega) lE,fun _ e=>?_⟩⟩
     ·exact Vc
     ·exact Vc
     ·rw[hM,OX];funext j;unfold comb;simp
     ·have:=acn (n:=b+1);omega
    | some e2 =>
     refine⟨⟨zD,zF,ny,some e2⟩,[0,1,2,3,4],⟨rfl,rfl,?_,?_⟩,⟨b+1,fun _=>none,A,0,ca,Sk,?_,by omega,hL.begin (by omega) lE,fun _ e=>?_⟩⟩
     ·exact Vc
     ·exact Vc
     ·rw[hM,OX];funext j;unfold comb;simp
     ·have:=acn (n:=b+1);omega
   ·have q7:cb=0:=by omega
    subst q7
    subst wc
    rw[KT (by omega),wr (x:=((ca+0:Nat):Int)+1) (by omega),wr (x:=4*(((ca+0:Nat):Int)+1)) (by omega)]at hh
    refine⟨⟨aq,((b:Nat):Int),nw,none⟩,[0,1,2,3,4],⟨rfl,rfl,?_,?_⟩,⟨b,A,B,ca,0,hP,hM,sj,hL,fun _ _=>by omega⟩⟩
    ·exact Vc
    ·exact Vc
   ·exfalso;omega
   ·have q7:cb≠0:=by omega
    refine⟨⟨aq,bits,nw,none⟩,[0,1,2,3,4],⟨rfl,rfl,?_,?_⟩,⟨b,A,B,ca,cb,hP,hM,sj,hL,fun _ e=>(q7 e).elim⟩⟩
    ·exact Vc
    ·exact Vc
  ·have cu:M k≠none:=fun e=>by rw[e]at hh;cases hh
   refine⟨⟨aq,bits,nw,none⟩,[0,1,2,3,4],⟨rfl,rfl,?_,?_⟩,⟨b,A,B,ca,cb,hP,hM,sj,hL,fun e=>(cu e).elim⟩⟩
   ·exact Vc
   ·exact Vc
 | some e =>
  refine aa.q Tryz.func118 rfl fun S ao=>?_;(conv=>whnf)
  (refine aC.step hm rfl (Wc _ ?_);(repeat' first|exact tv|apply pr|intro hh))
  (refine aC.step hm rfl (Wc _ ?_);(repeat' first|exact tv|apply pr|intro hh))
  (refine aC.step hm rfl (Wc _ ?_);(repeat' first|exact tv|apply pr|intro hh))
  all_goals (refine aC.step hm rfl (Wc _ ?_);(repeat' first|exact tv|apply pr|intro hh))
  all_goals first|(exact absurd ‹_› oD)|(exfalso;omega)|skip
  refine aC.mid hm (X:=Gm) (Ii sd M n k) (fun _=>[(0,.ptr 0 0),(1,.str fun _=>k),(2,.int .i64 fun _=>v)]) (fun g=>Dg g) rfl ?_ ?_
  rotate_left
  ·rintro⟨aq,bits,nw,el⟩ ⟨b,A,B,ca,cb,hP,hM,sj,hL,rU⟩
   have uq:nw.aq=sd:=hP.sn
   have qG:=hP.nw
   simp only[]at qG
   rw[←uq]at qG
   have tj:=r0 hP.nw
   cases el with
   | none =>
    have hB:=hP.none (hP.el.2)
    have qP:cb=0:=hP.el.2
    subst qP
    subst hB
    (conv=>whnf)
    refine aC.Jy [1,3] ?_
    (conv=>whnf)
    (refine Wa _ ?_;(repeat' first|exact tv|apply pr|intro hh))
    (refine ab.q (Ic k) [] fun _ _=>Wp _ ?_;(repeat' first|exact tv|apply pr|intro hh))
    have Sj:M k=A k:=by rw[hM];unfold comb;simp
    (refine ab.q (wP nw k v hk qG (.inr (hL.lt (by omega)))) [1,2] ?_;rintro ny ⟨AH,jm⟩;refine Wp _ ?_;(repeat' first|exact tv|apply pr|intro hh))
    have OU:AG (bH sd) ⟨aq,bits,ny,none⟩ sd b (bP A k (some v)) (fun _=>none) (if A k=none then ca+1 else ca) 0:=⟨hP.aq,hP.bits,by rw[AH];exact uq,fun e h=>(by cases h),by rw[←uq];exact jm,⟨rfl,rfl⟩,fun _ _=>rfl⟩
    have KN:gj b (if A k=none then ca+1 else ca) 0 4:=by
     by_cases hA:A k=none
     ·rw[if_pos hA];exact hL.more fun _=>rU (by rw[Sj];exact hA) rfl
     ·rw[if_neg hA];exact⟨hL.b3,fun h=>absurd h (Nat.lt_irrefl 0),hL.no⟩
    (refine ab.q (mM ⟨aq,bits,ny,none⟩ sd OU KN (by omega) (fun j hj=>absurd rfl hj) 2) [0,1,2,3,4] ?_;rintro y ⟨A',B',rr,h1,h2,h3,h4,h5,h6⟩;refine Wp _ ?_;(repeat' first|exact tv|apply pr|intro hh))
    obtain⟨⟨s9,b9,n9,e9⟩,m⟩:=y
    simp only[]at h1 h3 h4 h6
    have uu:uh (bH sd) ⟨s9,b9,n9,e9⟩ sd (bP M k (some v)) (if M k=none then n+1 else n):=by
     refine⟨b,A',B',_,rr,h1,?_,?_,h4.done (.inr (by omega))⟩
     ·rw[h2,hM]
      have:=mL (A:=A) (B:=fun _=>none) k v
      rw[←this]
      congr 1
      funext j;unfold bP;split <;> rfl
     ·rw[Sj,sj];split <;> omega
    cases e9 with
    | none =>
     (refine Wb _ ?_;(repeat' first|exact tv|apply pr|intro hh))
     refine ae.cls [1,3] rfl ?_
     (conv=>whnf)
     (refine ae.w (⟨s9,b9,n9,none⟩:Gm) [0,1,2,3,4] _ ?_;(repeat' first|exact tv|apply pr))
     exact uu
    | some e9 =>
     (refine Wb _ ?_;(repeat' first|exact tv|apply pr|intro hh))
     refine ae.cls [1,3] rfl ?_
     (conv=>whnf)
     (refine ae.w (⟨s9,b9,n9,some e9⟩:Gm) [0,1,2,3,4] _ ?_;(repeat' first|exact tv|apply pr))
     exact uu
   | some e =>
    obtain⟨b2,he⟩:=hP.el
    have rQ:e.aq=sd:=hP.se e rfl
    rw[←rQ]at he
    have ZR:=r0 he
    (conv=>whnf)
    refine aC.Jy [1,3] ?_
    (conv=>whnf)
    (refine Wa _ ?_;(repeat' first|exact tv|apply pr|intro hh))
    (refine ab.q (Fa e k (by omega) he) [3,4] ?_;rintro e2 ⟨pc,xM,h2⟩;refine Wp _ ?_;(repeat' first|exact tv|apply pr|intro hh))
    have wM:A k≠none∨ca<2 ^ b:=.inr (hL.lt (by omega))
    (refine ab.q (wP nw k v hk qG wM) [1,2] ?_;rintro ny ⟨AH,jm⟩;refine Wp _ ?_;(repeat' first|exact tv|apply pr|intro hh))
    have OU:AG (bH sd) ⟨aq,bits,ny,some e2⟩ sd b (bP A k (some v)) (bP B k none) (if A k=none then ca+1 else ca) (if B k=none then cb else cb - 1) :=
     ⟨hP.aq,hP.bits,by rw[AH];exact uq,fun e' h=>(by cases h;rw[pc];exact rQ),by rw[←uq];exact jm,⟨b2,by rw[←rQ];exact xM⟩,rq hP.apart k v⟩
    have yZ:∃ kk,kk≤4∧gj b (if A k=none then ca+1 else ca) (if B k=none then cb else cb - 1) kk∧(if M k=none then n+1 else n)=(if A k=none then ca+1 else ca)+(if B k=none then cb else cb - 1):=by
     by_cases hA:A k=none
     ·by_cases zC:B k=none
      ·have Fe:M k=none:=by rw[hM];unfold comb;rw[hA,zC];rfl
       rw[if_pos hA,if_pos zC,if_pos Fe]
       exact⟨4,by omega,hL.more (fun h0=>rU Fe h0),by omega⟩
      ·have h1:=h2 zC
       have Fe:M k≠none:=by rw[hM];unfold comb;rw[hA];simpa using zC
       rw[if_pos hA,if_neg zC,if_neg Fe]
       have hq:cb=cb - 1+1:=by omega
       rw[hq]at hL
       exact⟨0,by omega,hL.move (by omega),by omega⟩
     ·have zC:B k=none:=hP.apart k hA
      have Fe:M k≠none:=by
       rw[hM];unfold comb
       cases OV:A k with
       | none=>exact(hA OV).elim
       | some u=>simp
      rw[if_neg hA,if_pos zC,if_neg Fe]
      exact⟨0,by omega,hL,by omega⟩
    obtain⟨kk,VO,KN,OW⟩:=yZ
    have Ij:∀ j,bP B k none j≠none→1≤j.length∧j.length≤33:=fun j hj=>by
     refine wU j fun e=>hj ?_
     unfold bP;split
     ·rfl
     ·rw[hM]at e;unfold comb at e
      cases MD:A j with
      | none=>rw[MD]at e;exact e
      | some u=>rw[MD]at e;cases e
    (refine ab.q (mM ⟨aq,bits,ny,some e2⟩ sd OU KN VO Ij 2) [0,1,2,3,4] ?_;rintro y ⟨A',B',rr,h1,G1,h3,h4,h5,h6⟩;refine Wp _ ?_;(repeat' first|exact tv|apply pr|intro hh))
    obtain⟨⟨s9,b9,n9,e9⟩,m⟩:=y
    simp only[]at h1 h3 h4 h5 h6
    have uu:uh (bH sd) ⟨s9,b9,n9,e9⟩ sd (bP M k (some v)) (if M k=none then n+1 else n):=by
     refine⟨b,A',B',_,rr,h1,?_,?_,h4.done ?_⟩
     ·rw[G1,hM,mL]
     ·rw[OW];omega
     ·by_cases dH:(m:Int)<2
      ·exact .inr (h6 dH)
      ·exact .inl (by omega)
    cases e9 with
    | none =>
     (refine Wb _ ?_;(repeat' first|exact tv|apply pr|intro hh))
     refine ae.cls [1,3] rfl ?_
     (conv=>whnf)
     (refine ae.w (⟨s9,b9,n9,none⟩:Gm) [0,1,2,3,4] _ ?_;(repeat' first|exact tv|apply pr))
     exact uu
    | some e9 =>
     (refine Wb _ ?_;(repeat' first|exact tv|apply pr|intro hh))
     refine ae.cls [1,3] rfl ?_
     (conv=>whnf)
     (refine ae.w (⟨s9,b9,n9,some e9⟩:Gm) [0,1,2,3,4] _ ?_;(repeat' first|exact tv|apply pr))
     exact uu
  (conv=>whnf)
  (refine Wa _ ?_;(repeat' first|exact tv|apply pr|intro hh))
  (refine ab.q cA [0,1,2,3,4] fun _ _=>Wp _ ?_;(repeat' first|exact tv|apply pr|intro hh))
  ·have cu:M k=none:=by cases AZ:M k with|none=>rfl|some u=>rw[AZ]at hh;cases hh
   have Ff:n<64:=hf.resolve_left fun h=>h cu
   (refine ab.q hlen [0,1,2,3,4] fun _ _=>Wp _ ?_;(repeat' first|exact tv|apply pr|intro hh))
   ·exfalso;omega
   (refine ab.q MC [0,1,2,3,4] fun _ _=>Wp _ ?_;(repeat' first|exact tv|apply pr|intro hh))
   all_goals try ((refine ab.q hlen [0,1,2,3,4] fun _ _=>Wp _ ?_;(repeat' first|exact tv|apply pr|intro hh)))
   ·exact Ob.mk (by simp only[];omega)
   ·exact Ob.mk (by simp only[];omega)
   ·have q7:cb=0:=by omega
    subst q7
    subst wc
    rw[KT (by omega),wr (x:=((ca+0:Nat):Int)+1) (by omega),wr (x:=4*(((ca+0:Nat):Int)+1)) (by omega)]at hh
    have lE:3*2 ^ b<4*(ca+1):=by omega
    have OX:=hP.none rfl
    (refine ab.q (wb ⟨aq,((b:Nat):Int),nw,some e⟩ sd hP (by omega)) [0,1,2,3,4] ?_;rintro g2 Sk;refine Wp _ ?_;(repeat' first|exact tv|apply pr|intro hh))
    obtain⟨zD,zF,ny,KV⟩:=g2
    cases KV with
    | none =>
     refine⟨⟨zD,zF,ny,none⟩,[0,1,2,3,4],⟨rfl,rfl,?_,?_⟩,⟨b+1,fun _=>none,A,0,ca,Sk,?_,by omega,hL.begin (by omega) lE,fun _ e=>?_⟩⟩
     ·exact Vc
     ·exact Vc
     ·rw[hM,OX];funext j;unfold comb;simp
     ·have:=acn (n:=b+1);omega
    | some e2 =>
     refine⟨⟨zD,zF,ny,some e2⟩,[0,1,2,3,4],⟨rfl,rfl,?_,?_⟩,⟨b+1,fun _=>none,A,0,ca,Sk,?_,by omega,hL.begin (by omega) lE,fun _ e=>?_⟩⟩
     ·exact Vc
     ·exact Vc
     ·rw[hM,OX];funext j;unfold comb;simp
     ·have:=acn (n:=b+1);omega
   ·have q7:cb=0:=by omega
    subst q7
    subst wc
    rw[KT (by omega),wr (x:=((ca+0:Nat):Int)+1) (by omega),wr (x:=4*(((ca+0:Nat):Int)+1)) (by omega)]at hh
    refine⟨⟨aq,((b:Nat):Int),nw,some e⟩,[0,1,2,3,4],⟨rfl,rfl,?_,?_⟩,⟨b,A,B,ca,0,hP,hM,sj,hL,fun _ _=>by omega⟩⟩
    ·exact Vc
    ·exact Vc
   ·exfalso;omega
   ·have q7:cb≠0:=by omega
    refine⟨⟨aq,bits,nw,some e⟩,[0,1,2,3,4],⟨rfl,rfl,?_,?_⟩,⟨b,A,B,ca,cb,hP,hM,sj,hL,fun _ e=>(q7 e).elim⟩⟩
    ·exact Vc
    ·exact Vc
  ·have cu:M k≠none:=fun e=>by rw[e]at hh;cases hh
   refine⟨⟨aq,bits,nw,some e⟩,[0,1,2,3,4],⟨rfl,rfl,?_,?_⟩,⟨b,A,B,ca,cb,hP,hM,sj,hL,fun e=>(cu e).elim⟩⟩
   ·exact Vc
   ·exact Vc
theorem KW (g:Gm) (sd:Int) {M:di} {n:Nat} (hG:uh (bH sd) g sd M n) (k:List UInt8) (hk:1≤k.length∧k.length≤33) (hf:M k≠none) :
  aa Tryz.prog 133 [.ptr 0 0,.str fun _=>k] (nN g) (Y:=Gm) (fun g'=>uh (bH sd) g' sd (bP M k none) (n - 1)∧1≤n)
  (fun _=>.tt) nN:=by
 obtain⟨b,A,B,ca,cb,hP,hM,sj,hL⟩:=hG
 obtain⟨aq,bits,nw,el⟩:=g
 have uq:nw.aq=sd:=hP.sn
 have qG:=hP.nw
 simp only[]at qG
 rw[←uq]at qG
 have KX:(A k).isSome=true→∀ ny:Rb,ny.aq=nw.aq→oX (bH nw.aq) ny b (bP A k none) (if A k=none then ca else ca - 1)→(A k≠none→1≤ca)→uh (bH sd) ⟨aq,bits,ny,el⟩ sd (bP M k none) (n - 1)∧1≤n:=fun hA ny h1 h2 h3=>by
  have bE:A k≠none:=fun e=>by rw[e]at hA;cases hA
  rw[if_neg bE]at h2
  have h4:=h3 bE
  have hq:ca=ca - 1+1:=by omega
  rw[hq]at hL
  refine⟨⟨b,bP A k none,B,ca - 1,cb,⟨hP.aq,hP.bits,by rw[h1];exact uq,hP.se,by rw[←uq];exact h2,hP.el,BJ hP.apart k⟩,by rw[hM,E8 hP.apart bE],by omega,hL.Sb⟩,by omega⟩
 cases el with
 | none =>
  have OX:=hP.none hP.el.2
  have hA:(A k).isSome=true:=by
   rw[hM]at hf;unfold comb at hf;rw[OX]at hf
   cases OV:A k with
   | none=>rw[OV]at hf;exact(hf rfl).elim
   | some u=>rfl
  (refine aa.q Tryz.func133 rfl fun S ao=>Wa _ ?_;(repeat' first|exact tv|apply pr|intro hh))
  (refine ab.q (Fa nw k (by omega) qG) [1,2] ?_;rintro ny ⟨AH,jm,h5⟩;refine Wp _ ?_;(repeat' first|exact tv|apply pr|intro hh))
  ·rw[hA]at hh;cases hh
  ·(refine ae.w (⟨aq,bits,ny,none⟩:Gm) [0,1,2,3,4] _ ?_;(repeat' first|exact tv|apply pr))
   all_goals first|exact hA|exact(KX hA ny AH jm h5).1|exact(KX hA ny AH jm h5).2
 | some e =>
  obtain⟨b2,he⟩:=hP.el
  have rQ:e.aq=sd:=hP.se e rfl
  rw[←rQ]at he
  (refine aa.q Tryz.func133 rfl fun S ao=>Wa _ ?_;(repeat' first|exact tv|apply pr|intro hh))
  (refine ab.q (Fa nw k (by omega) qG) [1,2] ?_;rintro ny ⟨AH,jm,h5⟩;refine Wp _ ?_;(repeat' first|exact tv|apply pr|intro hh))
  ·have hA:A k=none:=by cases OV:A k with|none=>rfl|some u=>rw[OV]at hh;cases hh
   have hB:B k≠none:=fun e=>hf (by rw[hM];unfold comb;rw[hA,e];rfl)
   rw[if_pos hA]at jm
   have ZS:bP A k none=A:=zw hA
   rw[ZS]at jm
   (refine ab.q (Fa e k (by omega) he) [3,4] ?_;rintro e2 ⟨pc,xM,h2⟩;refine Wp _ ?_;(repeat' first|exact tv|apply pr|intro hh))
   rw[if_neg hB]at xM
   have h4:1≤cb:=h2 hB
   have hq:cb=cb - 1+1:=by omega
   have Bf:1≤n:=by omega
   rw[hq]at hL
   (refine ae.w (⟨aq,bits,ny,some e2⟩:Gm) [0,1,2,3,4] _ ?_;(repeat' first|exact tv|apply pr))
   ·cases zC:B k with|none=>exact(hB zC).elim|some u=>rfl
   ·exact⟨b,A,bP B k none,ca,cb - 1,⟨hP.aq,hP.bits,by rw[AH];exact uq,fun e' h=>(by cases h;rw[pc];exact rQ),by rw[←uq];exact jm,⟨b2,by rw[←rQ];exact xM⟩,BK hP.apart k⟩,by rw[hM,E9 hA],by omega,hL.Sd⟩
   ·exact Bf
  ·(refine ae.w (⟨aq,bits,ny,some e⟩:Gm) [0,1,2,3,4] _ ?_;(repeat' first|exact tv|apply pr))
   all_goals first|exact hh|exact(KX hh ny AH jm h5).1|exact(KX hh ny AH jm h5).2
end Go.Proofs.YthnefnlhcijekaaGreat.Ro
set_option maxRecDepth 8000
namespace Go.Proofs.YthnefnlhcijekaaGreat.Eb
open Go Go.RowKit Fw Ro
structure ZT (sd:Int) (M:di) (c:Nat) (g:Gm):Prop where
 ok:uh (bH sd) g sd M c
 key:∀ j,M j≠none→1≤j.length∧j.length≤33
abbrev jL (sd:Int) (M:di) (c:Nat):OQ:=EH (ZT sd M c) fun g=>pk (Dg g)
theorem sH (g:Gm):dj (af (Dg g) 0)=true:=by obtain⟨s,b,nw,el⟩:=g;cases el <;> rfl
section
variable {sd:Int} {M:di} {c:Nat}
theorem Ik (k:List UInt8) (hk:k.length≤1000):aa Tryz.prog 81 [.ptr 0 0,.str fun _=>k] [.bg (jL sd M c)] (Y:=Unit) (fun _=>True)
  (fun _=>.bM [.int .i64 fun _=>(M k).getD 0,.bool fun _=>(M k).isSome]) (fun _=>[.bg (jL sd M c)]):=by
 refine aa.boxed ⟨_,Tryz.func81,rfl,by decide⟩ (fun g p=>?_) rfl (fun _ _=>rfl) (fun g _=>sH g)
 obtain⟨b,A,B,ca,cb,hP,hM,sj,hL⟩:=p.ok
 exact(gm (out:=fun _=>g) (Di g sd hP hM k hk)).as fun _ _=>⟨((),g),⟨trivial,p⟩,rfl,rfl⟩
theorem Dj {k:List UInt8} {v:Option Int} (h:∀ j,M j≠none→1≤j.length∧j.length≤33) (hk:1≤k.length∧k.length≤33):∀ j,bP M k v j≠none→1≤j.length∧j.length≤33:=by
 intro j hj
 unfold bP at hj
 by_cases e:j=k
 ·rw[e];exact hk
 ·rw[if_neg e]at hj;exact h j hj
theorem Sm (k:List UInt8) (v:Int) (hk:1≤k.length∧k.length≤33) (hf:M k≠none∨c<64) (hc:c≤64):aa Tryz.prog 118 [.ptr 0 0,.str fun _=>k,.int .i64 fun _=>v] [.bg (jL sd M c)] (Y:=Unit) (fun _=>True)
  (fun _=>.int .i64 fun _=>0) (fun _=>[.bg (jL sd (bP M k (some v)) (if M k=none then c+1 else c))]):=by
 refine aa.boxed ⟨_,Tryz.func118,rfl,by decide⟩ (fun g p=>?_) rfl (fun _ _=>rfl) (fun g _=>sH g)
 exact(KU g sd p.ok p.key k v hk hf hc).as fun g' h=>⟨((),g'),⟨trivial,h,Dj p.key hk⟩,rfl,rfl⟩
theorem Sn (k:List UInt8) (hk:1≤k.length∧k.length≤33) (hf:M k≠none):aa Tryz.prog 133 [.ptr 0 0,.str fun _=>k] [.bg (jL sd M c)] (Y:=Unit) (fun _=>True)
  (fun _=>.tt) (fun _=>[.bg (jL sd (bP M k none) (c - 1))]):=by
 refine aa.boxed ⟨_,Tryz.func133,rfl,by decide⟩ (fun g p=>?_) rfl (fun _ _=>rfl) (fun g _=>sH g)
 exact(gm (KW g sd p.ok k hk hf)).as fun g' h=>⟨((),g'),⟨trivial,h.1,Dj p.key hk⟩,rfl,rfl⟩
theorem Il (aB:Int):aa Tryz.prog 78 [.ptr 0 0,.int .i64 fun _=>aB] [.bg (jL sd M c)] (Y:=Nat) (fun m=>(m:Int)≤max aB 0)
  (fun m=>.int .i64 fun _=>(m:Int)) (fun _=>[.bg (jL sd M c)]):=by
 refine aa.boxed ⟨_,Tryz.func78,rfl,by decide⟩ (fun g p=>?_) rfl (fun _ _=>rfl) (fun g _=>sH g)
 obtain⟨b,A,B,ca,cb,hP,hM,sj,hL⟩:=p.ok
 have wU:∀ j,B j≠none→1≤j.length∧j.length≤33:=fun j hj=>by
  refine p.key j fun e=>hj ?_
  rw[hM]at e;unfold comb at e
  cases MD:A j with
  | none=>rw[MD]at e;exact e
  | some u=>rw[MD]at e;cases e
 refine(gm (mM g sd hP hL (by omega) wU aB)).as fun y h=>?_
 obtain⟨A',B',rr,h1,h2,h3,h4,h5,h6⟩:=h
 exact⟨(y.2,y.1),⟨h5,⟨b,A',B',_,rr,h1,by rw[h2,hM],by omega,h4.done (.inl (by omega))⟩,p.key⟩,rfl,rfl⟩
theorem Sp (sd:Int):aa Tryz.prog 57 [.int .u64 fun _=>sd,.int .i64 fun _=>3] [] (Y:=Unit) (fun _=>True)
  (fun _=>.bM [.ptr 0 0,.int .i64 fun _=>0]) (fun _=>[.bg (jL sd (fun _=>none) 0)]) :=
 aa.mr ((KR sd 3 (by omega)).as fun g h=>⟨((),g),⟨trivial,h,fun j hj=>absurd rfl hj⟩,rfl,rfl⟩) fun _ _=>rfl
end
end Go.Proofs.YthnefnlhcijekaaGreat.Eb
