/- What the laws of this chapter rest on, for every input; part 2. -/
import Derived.Test.YthnefnlhcijekaaGreatMC0
import Derived.Lib.AppendStr
import Derived.RangeFuncNested
import Derived.RangeFuncLeaves
import Derived.Laws.Externs
import Derived.OrdersIn
import Derived.Deep.LoopGhost
import Derived.RangeFuncRecord
set_option linter.unusedVariables false
set_option linter.unusedSimpArgs false
namespace Go.Proofs.YthnefnlhcijekaaGreat.Fw
open Go Go.RowKit
theorem rE {P:Program} {w:World} {a:Addr} {u:TypeId} {k:Addr} {v:Value} {b:Bool} {r:World×List Addr} (h:w.viewStore P a u k v b=.ok r):r.1.drawn=w.drawn:=by
 unfold World.viewStore at h;simp only[bind,Except.bind]at h;repeat' (split at h <;> try cases h)
 all_goals first|rfl|skip
theorem sB {P:Program} {w:World} {a:Addr} {v:Value} {b:Bool} {r:World×List Addr} (h:w.farStore P a v b=.ok r):r.1.drawn=w.drawn:=by
 unfold World.farStore at h;split at h
 .split at h
  .rename_i h1;cases h;exact rE h1
  .cases h
 .cases h
theorem Dy {α:Type}:∀ (k:Ask α) (w:World),w.drawn<=(w.ask k).2.drawn:=by
 intro k;induction k with
 | done a=>intro w;exact Z8 _
 | ask Xq range k ih =>
  intro w;simp only[World.ask];split
  .exact ih _ _
  .exact aaA (abQ _) (ih _ { w with drawn:=w.drawn+1 })
theorem Dz (w:World) (c:Sys):w.drawn<=(w.sys c).2.drawn:=by
 unfold World.sys;have:=Dy (Kernel.perform c w.os) w;split
 .exact Z8 _
 .rename_i h;rw[h]at this;exact this
theorem qn {α:Type} (P:Program):∀ (m:Sem α) (w:World) (v:α) (w':World),m.run P w=.ok v w'->w.drawn<=w'.drawn:=by
  intro m;induction m with
  | pure a=>intro w v w' h;simp only[Sem.run]at h;cases h;exact Z8 _
  | load m a k ih =>
    intro w v w' h;simp only[Sem.run]at h;split at h
    · exact ih _ _ _ _ h
    · split at h
      · exact ih _ _ _ _ h
      · cases h
  | store m a x k ih =>
    intro w v w' h;cases x <;> simp only[Sem.run]at h <;> first
      | (cases h;done)
      | (split at h
         · split at h
           · cases h
           · have:=ih _ _ _ h;exact this
         · split at h
           · rename_i hf
             have:=sB hf;have:=ih _ _ _ h;simp only[]at *;omega
           · cases h)
  | new o k ih=>intro w v w' h;simp only[Sem.run]at h;exact ih _ { w with heap:=w.heap.push o } _ _ h
  | shape o k ih=>intro w v w' h;simp only[Sem.run]at h;exact ih _ _ _ _ h
  | freeze a n k ih =>
    intro w v w' h;simp only[Sem.run]at h;have:=ih _ _ _ h;have e:(w.freeze a n).drawn=w.drawn:=by unfold World.freeze;split <;> rfl
    omega
  | frozen a k ih=>intro w v w' h;simp only[Sem.run]at h;exact ih _ _ _ _ h
  | getObj r k ih =>
    intro w v w' h;simp only[Sem.run]at h;split at h
    · cases h
    · exact ih _ _ _ _ h
    · cases h
  | setObj r o k ih =>
    intro w v w' h;simp only[Sem.run]at h;split at h
    · cases h
    · exact ih { w with heap:=w.heap.setIfInBounds r o } _ _ h
    · cases h
  | choose q k ih =>
    intro w v w' h;simp only[Sem.run]at h;split at h
    · exact ih _ _ _ _ h
    · exact aaA (abQ _) (ih _ { w with drawn:=w.drawn+1 } _ _ h)
  | sys c k ih =>
    intro w v w' h;simp only[Sem.run]at h;exact aaA (Dz w c) (ih _ _ _ _ h)
  | program k ih=>intro w v w' h;simp only[Sem.run]at h;exact ih _ _ _ _ h
  | mark m k ih=>intro w v w' h;simp only[Sem.run]at h;exact ih _ _ _ h
  | halt h=>intro w v w' h;simp only[Sem.run]at h;cases h
theorem xZ {g:Gh} {t:Ty} (xs:List t.den) (u:Nat->Nat->Value) (h:∀ (i:Nat) (x:t.den) (j:Nat) (y:AV),xs[i]?=some x->(enc t (fun _=>x) [])[j]?=some y->R g y (u i j)) :
  Data g t xs ((List.range (xs.length*t.size)).map fun k=>u (k / t.size) (k % t.size)):=by
 have hp:=Ty.size_pos t;refine⟨by simp,fun k x hk=>?_⟩;have bf:k<xs.length:=(Z2.1 hk).1;have hl:k*t.size+t.size<=xs.length*t.size:=by rw[<-acJ];exact aav _ bf
 refine RL.mk (by rw[bt];simp;omega) fun j y v h1 h2=>?_;have hj:j<t.size:=by rw[<-bt t (fun _=>x)];exact(Z2.1 h1).1
 rw[aap,Z0 hj,aam,aaS,acU (by omega)]at h2;simp only[aaO,aaJ]at h2;subst h2;have e1:(k*t.size+j) / t.size=k:=by rw[ac2,Nat.mul_add_div hp,Nat.div_eq_of_lt hj,aa6]
 have e2:(k*t.size+j) % t.size=j:=by rw[ac2,Nat.mul_add_mod,aa2 hj]
 rw[e1,e2];exact h k x j y hk h1
section
variable {P:Program} {B:bS} {g:Gh} {env:Env} {E:List Chunk} {tmps:Array Value} {w:World}
variable {a:Act} {o:Oper} {K:AV->Env->List Chunk->Prop}
theorem BI {t:Ty} {x:AV} {v:Value} {K:(Unit->List t.den)->Prop} (hS:eE g E w) (hr:R g x v) (h:I2 t E x K) :
  ∃ ys A m c news,v=.slice A m c/\(ys ()).length=m/\m<=9223372036854775807/\Data g t (ys ()) news/\(A=none->m=0)/\(∀ ad,A=some ad->∀ j u,news[j]?=some u->w.cell? (ad.add j)=some u)/\K ys:=by
 unfold I2 at h;split at h <;> try exact h.elim
 .cases hr
  exact⟨fun _=>[],none,0,0,[],rfl,rfl,by omega,Data.nil g t,fun _=>rfl,(fun ad (hA:none=some ad)=>by cases hA),h⟩
 .rename_i t' xs
  split at h <;> try exact h.elim
  rename_i ht _;subst ht;cases hr with|aL _ _ A c u hc hm ha hr =>
  refine⟨xs,A,_,c,_,rfl,rfl,hm,xZ (xs ()) u hr,fun hA=>?_,fun ad hA j v hv=>?_,h⟩
  .cases hx:xs ()with
   | nil=>rfl
   | cons y r =>
    have he:0<(enc t' (fun _=>y) []).length:=by rw[bt];exact Ty.size_pos t'
    obtain⟨b,off,cells,T,fr,h1,_⟩:=ha 0 y 0 _ (by rw[hx];rfl) (Z1 he);rw[hA]at h1;cases h1
  .have hj:j<(xs ()).length*t'.size:=by simpa using(Z2.1 hv).1
   have hp:=Ty.size_pos t';have hk:j / t'.size<(xs ()).length:=by rwa [acK hp]
   have zN:j % t'.size<(enc t' (fun _=>(xs ())[j / t'.size]'hk) []).length:=by rw[bt];exact abm _ hp
   have ql:=ha (j / t'.size) _ (j % t'.size) _ (Z1 hk) (Z1 zN);have Tv:=ql;obtain⟨b,off,cells,T,fr,h1,_⟩:=Tv;rw[hA]at h1;cases h1;rw[hA]at ql;have:=ql.cell hS;rw[bX rfl];rw[ac2,Nat.div_add_mod]at this;rw[this];rw[aaS,acU hj]at hv;simpa using hv
 .rename_i i s o n
  split at h <;> try exact h.elim
  rename_i T t' xs hE;split at h <;> try exact h.elim
  rename_i ht _;subst ht;split at h <;> try exact h.elim
  rename_i cu;have cu:=Z3 cu;subst cu;have hs:=hS.sat i;rw[hE]at hs;cases hr with|vec _ _ _ _ A c hi hL hn sm =>
  have hlen:(((xs ()).drop (o ())).take (n ())).length=n ():=by have:=hs.1;simp;omega
  cases hV:g.V i with
  | none =>
   obtain⟨h1,h2,h3,h4⟩:=hn hV;refine⟨fun u=>((xs u).drop (o u)).take (n u),A,_,c,[],rfl,hlen,by omega,⟨?_,fun k x hk=>?_⟩,fun _=>h2,(fun ad (hA:A=some ad)=>by rw[h1]at hA;cases hA),h⟩
   .show[].length=(((xs ()).drop (o ())).take (n ())).length*_
    rw[hlen,h2];simp
   .have hk:(((xs ()).drop (o ())).take (n ()))[k]?=some x:=hk
    rw[h2]at hk;simp at hk
  | some cap =>
   obtain⟨vs,hb,By,cS,Mn,hd⟩:=iF hs hV;obtain⟨h0,h1,h2,h3,h4⟩:=sm cap hV;have lF:=(hd.drop (o ())).take (n ());refine⟨fun u=>((xs u).drop (o u)).take (n u),A,_,c,_,rfl,hlen,by omega,lF,fun h=>(h4 h).elim,fun ad hA j u hu=>?_,h⟩;have hj:j<n ()*t'.size:=by
    have:=(Z2.1 hu).1;have e:=lF.1;rw[hlen]at e;omega
   have hp:=Ty.size_pos t';have qY:0<n ():=(acA (n ())).resolve_left fun h=>by rw[h]at hj;simp at hj
   have:=h3 (.inl (by omega));rw[this]at hA;cases hA;rw[bX rfl,cell_of_heap hb];rw[aap,Z0 hj,aam,aap]at hu;split at hu
   .simpa using hu
   .cases hu
theorem nu {t e sz ty:Nat} (ht:aS P t=some (.slice e)) (hs:bR P e=some sz) (A:Option Addr) (n c c':Nat) (Sw:n<=c) :
  (Builtin.append_ #[t,t] ty #[.slice A n c,.slice none 0 c']).run P w=.ok (.slice A n c) w:=by
 cases A <;> simp[Builtin.append_,ag ht,aT hs,Builtin.lenOf,Builtin.firstCells,Sw,storeCells]
theorem sC {t e sz uZ ty:Nat} {z:Value} {d:Ty} (ht:aS P t=some (.slice e)) (hs:bR P e=some sz) (rD:iB P e=some uZ) (hz:fQ P e=some z) (FI:z.cells.size=sz) (hd:sz=d.size)
  {v:Value} {n:Nat} {xs:List Value} (cO:w.ownsRow 0 e sz v n xs) {A:Option Addr} {m c:Nat} {ys:List d.den} {news:List Value} (mw:ys.length=m) (xC:Data g d ys news) (hA:A=none->m=0)
  (dh:∀ ad,A=some ad->∀ j u,news[j]?=some u->w.cell? (ad.add j)=some u) (hb:(n+m)*uZ<=140737488355328) (lG:n+m<=9223372036854775807) :
  ∃ v' w',(Builtin.append_ #[t,t] ty #[v,.slice A m c]).run P w=.ok v' w'/\w'.ownsRow 0 e sz v' (n+m) (xs++news)/\w.grownBy w' v.ownBlock/\(v'.ownBlock=v.ownBlock\/v'.ownBlock=some w.heap.size):=by
 obtain⟨i,hi,PD,PE,PF⟩:∃ i,gn P e=some i/\i.zero=some z/\i.size=sz/\i.bytes=uZ:=by
  unfold fQ at hz;unfold bR at hs;unfold iB at rD;cases hi:gn P e with
  | none=>simp[hi]at hz
  | some i=>simp[hi]at hz hs rD;exact⟨i,rfl,hz,hs,rD⟩
 have sq:=Ty.size_pos d;cases A with
 | none =>
  have hm:=hA rfl;subst hm;have qY:news=[]:=aaY (by rw[xC.1,mw];simp);subst qY;have K8:w.ownsRow 0 e sz v (n+0) (xs++[]):=by simpa using cO
  rcases cO.2 with⟨rfl,rfl⟩|⟨gb,cap,cur,rfl,_,_,Sw,_⟩
  .exact⟨_,_,nu ht hs _ _ _ _ (Z8 _),K8,World.grownBy.refl w _,.inl rfl⟩
  .exact⟨_,_,nu ht hs _ _ _ _ Sw,K8,World.grownBy.refl w _,.inl rfl⟩
 | some ad =>
  obtain⟨v',w',h1,h2,h3,_,h5⟩:=run_append_own_at (P:=P) w 0 t ty e i z sz uZ (au ht) (bu hi) PD PE PF FI (by omega) v n xs cO ad m c news (by rw[xC.1,mw,hd]) (dh ad rfl) xC.BE (by simp only[maxLen];omega) hb (aae _);exact⟨v',w',h1,h2,h3,h5⟩
theorem lH {t t2 e ty:Nat} (ht:aS P t=some (.slice e)) (qW:aS P t2=some .string) (hs:bR P e=some 1) (rD:iB P e=some 1) (hz:fQ P e=some (.int .u8 0))
  {v:Value} {n:Nat} {xs:List Value} (cO:w.ownsRow 0 e 1 v n xs) (s:ByteArray) (hb:n+s.size<=140737488355328) :
  ∃ v' w',(Builtin.append_ #[t,t2] ty #[v,.string s]).run P w=.ok v' w'/\w'.ownsRow 0 e 1 v' (n+s.size) (xs++Lib.strCells s)/\w.grownBy w' v.ownBlock/\(v'.ownBlock=v.ownBlock\/v'.ownBlock=some w.heap.size):=by
 obtain⟨i,hi,PD,PE,PF⟩:∃ i,gn P e=some i/\i.zero=some (.int .u8 0)/\i.size=1/\i.bytes=1:=by
  unfold fQ at hz;unfold bR at hs;unfold iB at rD;cases hi:gn P e with
  | none=>simp[hi]at hz
  | some i=>simp[hi]at hz hs rD;exact⟨i,rfl,hz,hs,rD⟩
 have PG:n+s.size<=maxLen:=by simp only[maxLen];omega
 obtain⟨v',w',h1,h2,h3,h4⟩:=Lib.run_append_own_string (P:=P) w 0 t t2 ty e i (au ht) (au qW) (bu hi) PD PE PF v n xs cO s PG hb (aae _);refine⟨v',w',h1,h2,h3,?_⟩;rcases cO.2 with⟨rfl,rfl⟩|⟨gb,cap,cur,rfl,_,hg,Sw,IB,uW,VP⟩
 .by_cases hm:s.size=0
  .rw[h4.2 ⟨rfl,hm⟩];exact .inl rfl
  .have hr:=run_append_nil_string (P:=P) w t t2 ty e i (.int .u8 0) (au ht) (au qW) (bu hi) PD s (by omega) (by simp only[aaf]at hb;omega) (by rw[PF];omega)
   rw[hr]at h1;injection h1 with h1 _;subst h1;exact .inr rfl
 .by_cases FK:n+s.size<=cap
  .have Xr:cur.size=cap:=by simpa using uW
   have hr:=Lib.run_append_room_string (P:=P) w t t2 ty e i (au ht) (au qW) (bu hi) PE gb n cap cur hg s FK (by omega);rw[hr]at h1;injection h1 with h1 _;subst h1;exact .inl rfl
  .have hr:=Lib.run_append_grow_string (P:=P) w t t2 ty e i (.int .u8 0) (au ht) (au qW) (bu hi) PD ⟨gb,0,none⟩ n cap xs (by rw[PE];simpa using cO.1) (cO.cells (g:=gb) rfl) s (by omega) (by simp only[maxLen]at PG;omega) (by rw[PF];exact growslice_fits (by omega) (by omega))
   rw[hr]at h1;injection h1 with h1 _;subst h1;exact .inr rfl
theorem fk {ts:Array Nat} {s x:Operand} {v:Value} {w':World} (ho:o.op=.call { callee:=.builtin .append,args:=#[s,x],argTypes:=ts }) (h:(Builtin.append_ ts o.type #[a.eval s,a.eval x]).run P w=.ok v w') :
  (execOp a.eval o).run P w=.ok (.value v) w':=by
 simp[execOp,ho,resolve,invoke,builtin,h]
end
theorem BJ {g g':Gh} {i:Nat} (hn:g'.n=g.n) (h:∀ j,j≠i->g'.B j=g.B j/\g'.V j=g.V j/\g'.L j=g.L j) (hW:g'.W=g.W) (hM:g'.M=g.M) (v:AV) (u:Value) (hv:isRef v=true) (hr:R g v u):R g' (ku i v) u:=by
 have bC:∀ j,Nat.beq j i=false->j≠i:=fun j hj e=>by subst e;simp at hj
 cases hr <;> first|(cases hv;done)|skip
 .rename_i j off hj
  simp only[ku];split
  .exact .undef _
  .rename_i hb
   rw[<-(h j (bC j hb)).1];exact .ptr j off (by rw[hn];exact hj)
 .rename_i j sz idx off hj hL
  simp only[ku];split
  .exact .undef _
  .rename_i hb
   have:=h j (bC j hb);rw[<-this.1];exact .bg j sz idx off (by rw[hn];exact hj) (by rw[this.2.2];exact hL)
 .rename_i j s o n A c hj hL qT hs
  simp only[ku];split
  .exact .undef _
  .rename_i hb
   have:=h j (bC j hb);exact .vec j s o n A c (by rw[hn];exact hj) (by rw[this.2.2];exact hL) (by rw[this.2.1];exact qT) (by rw[this.2.1,this.1];exact hs)
 .rename_i j hj
  simp only[ku];split
  .exact .undef _
  .rename_i hb
   rw[<-(h j (bC j hb)).1];exact .mp j (by rw[hn];exact hj)
 .rename_i j f hj hf
  simp only[ku];split
  .exact .undef _
  .rw[<-hW];exact .hp j f (by rw[hn];exact hj) (by rw[hM];exact hf)
 .rename_i j f hj hf
  simp only[ku];split
  .exact .undef _
  .rw[<-hW];exact .hm j f (by rw[hn];exact hj) (by rw[hM];exact hf)
theorem u5 {g:Gh} {i s k c:Nat} {o n:Unit->Nat} {A:Option Addr} (h:n ()=k) (hr:R g (.vec i s o n) (.slice A (n ()) c)):R g (.vec i s o n) (.slice A k c):=h▸hr
def Gh.at_ (g:Gh) (i nb:Nat) (nv:Option Nat) (l:Nat):Gh :=
 { g with B:=fun j=>if j=i then nb else g.B j,V:=fun j=>if j=i then nv else g.V j,L:=fun j=>if j=i then l else g.L j }
theorem Gh.FL (g:Gh) (i nb:Nat) (nv:Option Nat) (l:Nat) (j:Nat) (hj:j≠i):(g.at_ i nb nv l).B j=g.B j/\(g.at_ i nb nv l).V j=g.V j/\(g.at_ i nb nv l).L j=g.L j:=by simp[Gh.at_,hj]
theorem Gh.Mq (g:Gh) (i nb:Nat) (nv:Option Nat) (l:Nat):(g.at_ i nb nv l).B i=nb:=by simp[Gh.at_]
theorem Gh.Ah (g:Gh) (i nb:Nat) (nv:Option Nat) (l:Nat):(g.at_ i nb nv l).V i=nv:=by simp[Gh.at_]
theorem Gh.Mr (g:Gh) (i nb:Nat) (nv:Option Nat) (l:Nat):(g.at_ i nb nv l).L i=l:=by simp[Gh.at_]
section
variable {P:Program} {B:bS} {g:Gh} {env:Env} {E:List Chunk} {tmps:Array Value} {w:World}
variable {a:Act} {o:Oper} {K:AV->Env->List Chunk->Prop}
theorem x5 (hS:eE g E w) {i T:Nat} {ty:Ty} {xs:Unit->List ty.den} {s:Nat} {of n:Unit->Nat} {A:Option Addr} {m c:Nat} (hE:af E i=.aq T ty xs) (hr:R g (.vec i s of n) (.slice A m c)) (ho:of ()=0) (hs:s=ty.size) :
  ∃ us,w.ownsRow 0 T s (.slice A m c) m us/\Data g ty ((xs ()).take m) us/\(∀ b,(af E i).own g i b↔(Value.slice A m c).ownBlock=some b)/\m=n ():=by
 subst hs;have fU:=hS.sat i;rw[hE]at fU;cases hr with|vec _ _ _ _ A c hi hL hn sm =>
 cases hV:g.V i with
 | none =>
  obtain⟨h1,h2,h3,h4⟩:=hn hV;subst h1 h3;rw[h2];exact⟨[],⟨by simp,.inl ⟨rfl,rfl⟩⟩,by simpa using Data.nil g ty,by rw[hE];simp[Value.ownBlock,Chunk.own,hV],rfl⟩
 | some cap =>
  obtain⟨vs,hb,By,cS,Mn,hd⟩:=iF fU hV;obtain⟨h0,h1,h2,h3,h4⟩:=sm cap hV;have hA:=h3 (.inr ho);rw[ho]at hA;simp only[Nat.zero_mul]at hA;subst hA;have hle:n ()<=(xs ()).length:=by omega
  have hmul:n ()*ty.size<=(xs ()).length*ty.size:=aav _ hle;have PH:(xs ()).length*ty.size<=cap*ty.size:=aav _ cS;have lF:=hd.take (n ());rw[acr,aa0 hmul]at lF;exact⟨_,⟨by rw[aak];simp;omega,.inr ⟨g.B i,c,vs,rfl,aae _,hb,by omega,by simp only[maxLen];omega,by rw[By];congr 1;omega,rfl⟩⟩,lF,by rw[hE];simp[Value.ownBlock,Chunk.own,hV],rfl⟩
theorem sD {g':Gh} {i T:Nat} {ty:Ty} {xs:Unit->List ty.den} {v:Value} {m:Nat} {us:List Value} {w':World} (cO:w'.ownsRow 0 T ty.size v m us) (hd:Data g' ty (xs ()) us) (hm:(xs ()).length=m)
  (hL:g'.L i=m) (hV:(v=.slice none 0 0/\g'.V i=none)\/∃ gb cap,v=.slice (some ⟨gb,0,none⟩) m cap/\g'.V i=some cap/\g'.B i=gb) :
  (Chunk.aq T ty xs).sat g' i w':=by
 rcases hV with⟨rfl,hV⟩|⟨gb,cap,rfl,hV,hB⟩
 .rcases cO.2 with⟨_,h2⟩|⟨gb,cap,cur,h2,_⟩
  .show _/\_/\_
   refine⟨by rw[hm,hL],fun _=>aaY (by omega),fun cap hc=>by rw[hV]at hc;cases hc⟩
  .cases h2
 .rcases cO.2 with⟨h2,_⟩|⟨Zu,Mk,cur,h2,_,h3,h4,h5,h6,h7⟩
  .cases h2
  .cases h2
   refine gu (cap:=cap) (vs:=cur) hV (by rw[hm,hL]) (by rw[hB];exact h3) h6 (by omega) ?_;rw[hm,h7];exact hd
theorem qo {T:Nat} {sz:Nat} {v:Value} {m:Nat} {us:List Value} {w':World} (cO:w'.ownsRow 0 T sz v m us) :
  (v=.slice none 0 0/\m=0)\/∃ gb cap,v=.slice (some ⟨gb,0,none⟩) m cap/\m<=cap/\cap<=9223372036854775807:=by
 rcases cO.2 with h|⟨gb,cap,cur,h2,_,_,h4,h5,_⟩
 .exact .inl h
 .exact .inr ⟨gb,cap,h2,h4,by simpa [maxLen]using h5⟩
theorem Ai (z:Array Value) (n m:Nat):(Builtin.zeroCells z n++Builtin.zeroCells z m).toList=(List.replicate (n+m) z.toList).flatten:=by
 have h1:(Builtin.zeroCells z n).toList=(List.replicate n z.toList).flatten:=jQ z n;have h2:(Builtin.zeroCells z m).toList=(List.replicate m z.toList).flatten:=jQ z m;rw[Array.toList_append,h1,h2,<-List.flatten_append,List.replicate_append_replicate]
theorem Ja {t t2 e:Nat} {s x:Operand} {n:Unit->Int} (h:Inv B g env E a.tmps w) (ho:o.op=.call { callee:=.builtin .append,args:=#[s,x],argTypes:=#[t,t2] }) (ht:aS P t=some (.slice e)) (qW:aS P t2=some (.int .i64))
  (es:ev env s=.aZ) (ex:ev env x=.int .i64 n) (hk:Mj P e n env E K):gV P o a w B K:=by
 have hs:=h.er.ev s;have hx:=h.er.ev x;rw[es]at hs;rw[ex]at hx;have uy:a.eval s=.slice none 0 0:=by generalize a.eval s=u at hs;cases hs;rfl
 have EP:=hx.bY;unfold Mj at hk;split at hk <;> try exact hk.elim
 rename_i ty sz uZ z zM cu rD hz;split at hk <;> try exact hk.elim
 rename_i cs gC uW;have gC:ty.size=sz:=Z3 gC;have Dp:=(nr g z).cells uW;obtain⟨d,hd,hk⟩:=ko hk Dp;rw[fe,a7]at hk;obtain⟨dM,nY,xD⟩:=hk;obtain⟨h0,h1,h2⟩:=dM.h;obtain⟨m,hm⟩:∃ m:Nat,n ()=m:=⟨(n ()).toNat,by omega⟩
 have I9:IntKind.i64.wrap (m:Int)=m:=IntWalk.i64_in _ (by omega);obtain⟨ti,vW,ux,Ps,FJ⟩:∃ i,P.info? e=some i/\i.bytes=uZ/\i.zero=some z/\i.size=sz:=by
  unfold iB at rD;split at rD
  .rename_i i hi
   simp only[aaJ]at rD;unfold fQ at hz;rw[hi]at hz;unfold bR at cu;rw[hi]at cu;exact⟨i,bu hi,rD,hz,by simpa using cu⟩
  .cases rD
 have Dx:z.cells.size=sz:=by have:=hd.length;rw[bt]at this;simp at this;omega
 have Tw:¬((m:Int)*(ti.bytes:Int)>2 ^ 48):=by rw[ux,<-hm,show(2:Int) ^ 48=281474976710656 from rfl];omega
 by_cases u6:m=0
 .subst u6
  have h0:(Builtin.append_ #[t,t2] o.type #[.slice none 0 0,.int .i64 ((0:Nat):Int)]).run P w=.ok (.slice none 0 0) w:=by
   simp[Builtin.append_,ag ht,ag qW,sizeOf,typeInfo,zeroValue,vW,Ps,asInt,asIntOf,IntWalk.i64_in (0:Int) (by omega)]
  have bh:=fk (P:=P) (w:=w) (a:=a) ho (by rw[uy,EP,hm];exact h0);exact⟨_,_,_,_,_,_,_,bh,.inl rfl,h,.aZ,nY hm⟩
 .have sq:0<m:=by omega
  let cap:=grownCap w m 0 e
  have cS:m<=cap:=grownCap_ge w m 0 e;have PI:cap<=maxLen:=grownCap_le_maxLen w m 0 e (by simp only[maxLen];omega)
  let vs:=Builtin.zeroCells z.cells m++Builtin.zeroCells z.cells (cap - m)
  have BK:(Builtin.append_ #[t,t2] o.type #[.slice none 0 0,.int .i64 (m:Int)]).run P w=.ok (.slice (some ⟨w.heap.size,0,none⟩) m cap) (w.drew.alloc (.cells vs e)):=by
   have Tx:¬(281474976710656<Builtin.nextslicecap m 0*ti.bytes):=by
    rw[nextslicecap_zero sq,ux];have:((m*uZ:Nat):Int)<=140737488355328:=by rw[acW,<-hm];exact h2
    omega
   have Xs:¬(9223372036854775807<(m:Int)):=by omega
   have bf:¬((m:Int)<0):=by omega
   have PJ:¬(281474976710656<(m:Int)*(ti.bytes:Int)):=by simpa using Tw
   by_cases VQ:m*ti.size=0
   .have:ti.size=0:=by
     rcases Nat.mul_eq_zero.1 VQ with h|h
     .omega
     .exact h
    have:=Ty.size_pos ty;omega
   .simp[Builtin.append_,ag ht,ag qW,sizeOf,typeInfo,zeroValue,vW,Ps,asInt,asIntOf,I9,bf,PJ,u6,Tx,Xs,VQ,Question.forced,run_firstCells_none,newRow,grownCap,vs,cap]
  have bh:=fk (P:=P) (w:=w) (a:=a) ho (by rw[uy,EP,hm];exact BK);have IZ:vs.toList=(List.replicate cap z.cells.toList).flatten:=by
   have:=Ai z.cells m (cap - m);rw[show m+(cap - m)=cap by omega]at this;exact this
  have K7:Data g ty (List.replicate cap (d ())) vs.toList:=by rw[IZ];exact Data.replicate (by rw[ik];exact hd) _
  have EO:=K7.take m;rw[List.take_replicate,aa0 cS]at EO;have By:vs.size=cap*ty.size:=by
   have:=K7.1;simpa using this
  have rZ:sw w (w.drew.alloc (.cells vs e)) (.cells vs e):=⟨rfl,rfl,⟨rfl,abQ _⟩,by show(w.heap.push _).size=_;simp,by show(w.heap.push _)[w.heap.size]?=_;simp,fun k hk=>by show(w.heap.push _)[k]?=_;rw[Array.getElem?_push,ZY (by omega)]⟩
  have gH:=h.v7 e (t:=ty) (xs:=fun u=>List.replicate (n u).toNat (d u)) (cap:=cap) (vs:=vs) By (by simp[hm];exact cS) (by simpa [hm]using EO) rZ;refine⟨_,_,_,_,_,_,_,bh,.inl rfl,gH,?_,xD (by omega)⟩;have:=lE g E h.aW.len w.heap.size cap m sz (fun u=>(n u).toNat) (by simp[hm]) cS (by simpa [maxLen]using PI);simpa [hm]using this
theorem rb {e sz m:Nat} {ty:Ty} {ys:Unit->List ty.den} {news:List Value} {v':Value} {w':World} (h:Inv B g env E a.tmps w) (uH:sz=ty.size) (mw:(ys ()).length=m) (xC:Data g ty (ys ()) news)
  (bh:(execOp a.eval o).run P w=.ok (.value v') w') (h2:w'.ownsRow 0 e sz v' m news) (h3:w.grownBy w' (Value.ownBlock (.slice none 0 0))) (h4:v'.ownBlock=Value.ownBlock (.slice none 0 0)\/v'.ownBlock=some w.heap.size)
  (hk:K (.vec (ah E) sz (fun _=>0) fun u=>(ys u).length) env (dm E (.aq e ty ys))):gV P o a w B K:=by
 rcases qo h2 with⟨rfl,u6⟩|⟨gb,cap,rfl,Tz,IB⟩
 .have hinv:=h.new (c:=.aq e ty ys) (b:=0) (v:=Option.none) (l:=m) h3.os h3.tape ⟨h3.output,qn P _ _ _ _ bh⟩ h3.size (fun k hk=>h3.block k hk (by simp[Value.ownBlock]))
   (sD (m:=m) (by rw[<-uH];exact h2) (xC.mono (g.jE _ _ _)) mw (by simp[Gh.add]) (.inl ⟨rfl,by simp[Gh.add]⟩)) (fun b' dw=>by simp[Chunk.own,Gh.add]at dw)
  refine⟨_,_,_,_,_,_,_,bh,.inl rfl,hinv,?_,hk⟩;have:=R.vec (g:=g.add 0 Option.none m) (ah E) sz (fun _=>0) (fun u=>(ys u).length) none 0 (by simp[Gh.add,h.aW.len]) (by simp[Gh.add,h.aW.len,mw]) (fun _=>⟨rfl,by omega,rfl,rfl⟩) (fun cap hc=>by simp[Gh.add,h.aW.len]at hc);rw[mw]at this;rw[u6]at this ⊢;exact this
 .have TA:gb=w.heap.size:=by
   rcases h4 with h4|h4 <;> simp[Value.ownBlock]at h4
   exact h4
  subst TA;have hinv:=h.new (c:=.aq e ty ys) (b:=w.heap.size) (v:=some cap) (l:=m) h3.os h3.tape ⟨h3.output,qn P _ _ _ _ bh⟩ h3.size (fun k hk=>h3.block k hk (by simp[Value.ownBlock]))
   (sD (m:=m) (by rw[<-uH];exact h2) (xC.mono (g.jE _ _ _)) mw (by simp[Gh.add]) (.inr ⟨_,cap,rfl,by simp[Gh.add],by simp[Gh.add]⟩)) (fun b' dw=>by simp[Chunk.own,Gh.add]at dw;omega)
  refine⟨_,_,_,_,_,_,_,bh,.inl rfl,hinv,?_,hk⟩;have:=lE g E h.aW.len w.heap.size cap m sz (fun u=>(ys u).length) (by omega) Tz IB;rw[mw]at this;exact this
theorem re {i T sz m s' c0:Nat} {t':Ty} {xs ys:Unit->List t'.den} {of n:Unit->Nat} {A0:Option Addr} {us news:List Value} {v':Value} {w':World} (h:Inv B g env E a.tmps w) (hE:af E i=.aq T t' xs)
  (hs:R g (.vec i s' of n) (.slice A0 (n ()) c0)) (DA:s'=sz) (uH:sz=t'.size) (OT:Data g t' ((xs ()).take (n ())) us) (hblk:∀ b,(af E i).own g i b↔(Value.slice A0 (n ()) c0).ownBlock=some b) (mw:(ys ()).length=m) (xC:Data g t' (ys ()) news)
  (bh:(execOp a.eval o).run P w=.ok (.value v') w') (h2:w'.ownsRow 0 T sz v' (n ()+m) (us++news)) (h3:w.grownBy w' (Value.slice A0 (n ()) c0).ownBlock) (h4:v'.ownBlock=(Value.slice A0 (n ()) c0).ownBlock\/v'.ownBlock=some w.heap.size)
  (hk:K (.vec i sz (fun _=>0) fun u=>n u+(ys u).length) (ba (ku i) env) (cT (ku i) (a8 E i (.aq T t' fun u=>(xs u).take (n u)++ys u)))):gV P o a w B K:=by
 have hi:i<ah E:=dI (by rw[hE];simp);have BL:Data g t' ((xs ()).take (n ())++ys ()) (us++news):=OT.append xC;have hlen:((xs ()).take (n ())++ys ()).length=n ()+m:=by
  have hle:n ()<=(xs ()).length:=by
   have fU:=h.aW.sat i;rw[hE]at fU;cases hs with|vec _ _ _ _ _ _ hi hL hn sm=>have:=fU.1;omega
  rw[aab,aak,mw];omega
 have go:∀ (nb:Nat) (nv:Option Nat),(∀ b,(Chunk.aq T t' fun u=>(xs u).take (n u)++ys u).own (g.at_ i nb nv (n ()+m)) i b->w.heap.size<=b\/(af E i).own g i b) ->
   ((v'=.slice none 0 0/\nv=none)\/∃ gb cap,v'=.slice (some ⟨gb,0,none⟩) (n ()+m) cap/\nv=some cap/\nb=gb/\cap<=9223372036854775807/\n ()+m<=cap)->gV P o a w B K:=by
  intro nb nv hb K9;have iE:=g.FL i nb nv (n ()+m);have hinv:=h.Dr (w':=w') (g':=g.at_ i nb nv (n ()+m)) (ku i) (c:=.aq T t' fun u=>(xs u).take (n u)++ys u) ⟨T,t',xs,hE⟩ rfl rfl rfl rfl (fun b o' hb=>hb)
   (fun v u hv hr=>BJ (g:=g) (g':=g.at_ i nb nv (n ()+m)) (i:=i) rfl iE rfl rfl v u hv hr) hi iE h3.os h3.tape ⟨h3.output,qn P _ _ _ _ bh⟩ h3.size
   (fun k hk bC=>h3.block k hk (fun e=>bC k ((hblk k).2 e.symm) rfl))
   (sD (g':=g.at_ i nb nv (n ()+m)) (m:=n ()+m) (by rw[<-uH];exact h2) ⟨BL.1,fun k x hx=>RL.im (g:=g) (g':=g.at_ i nb nv (n ()+m)) (fun b o' hb=>hb) (BL.2 k x hx)⟩ hlen (g.Mr _ _ _ _) (by
    rcases K9 with⟨e1,e2⟩|⟨gb,cap,e1,e2,e3,_⟩
    .exact .inl ⟨e1,by rw[g.Ah,e2]⟩
    .exact .inr ⟨gb,cap,e1,by rw[g.Ah,e2],by rw[g.Mq,e3]⟩)) hb (fun b o' hb=>.inl hb)
  refine⟨_,_,_,_,_,_,_,bh,.inl rfl,hinv,?_,hk⟩;have bf:i<(g.at_ i nb nv (n ()+m)).n:=by show i<g.n;rw[<-h.aW.len];exact hi
  rcases K9 with⟨e1,e2⟩|⟨gb,cap,e1,e2,e3,e4,e5⟩
  .subst e1 e2
   have h0:n ()+m=0:=by
    rcases qo h2 with⟨_,h5⟩|⟨_,_,h5,_⟩
    .exact h5
    .cases h5
   have:=R.vec (g:=g.at_ i nb none (n ()+m)) i sz (fun _=>0) (fun u=>n u+(ys u).length) none 0 bf (by rw[g.Mr];simp[mw]) (fun _=>⟨rfl,by simp[mw,h0],rfl,rfl⟩) (fun cap hc=>by rw[g.Ah]at hc;cases hc);have e:n ()+(ys ()).length=0:=by rw[mw];exact h0
   exact u5 e this
  .subst e1 e2 e3
   have:=R.vec (g:=g.at_ i nb (some cap) (n ()+m)) i sz (fun _=>0) (fun u=>n u+(ys u).length) (some ⟨nb,0,none⟩) cap bf (by rw[g.Mr];simp[mw]) (fun hc=>by rw[g.Ah]at hc;cases hc)
    (fun Mk hc=>by rw[g.Ah]at hc;cases hc;exact⟨e4,by simp[mw];exact e5,by simp,by rw[g.Mq];simp,by simp⟩)
   have e:n ()+(ys ()).length=n ()+m:=by rw[mw]
   exact u5 e this
 rcases qo h2 with⟨hv,u6⟩|⟨gb,cap,hv,Tz,IB⟩
 .exact go 0 none (fun b hb=>by simp[Chunk.own,g.Ah]at hb) (.inl ⟨hv,rfl⟩)
 .refine go gb (some cap) (fun b hb=>?_) (.inr ⟨gb,cap,hv,rfl,rfl,IB,Tz⟩)
  simp[Chunk.own,g.Ah,g.Mq]at hb;subst hb;rw[hv]at h4;rcases h4 with h4|h4
  .right;exact(hblk _).2 (by rw[<-h4];rfl)
  .left;simp[Value.ownBlock]at h4;omega
theorem x6 (g:Gh) (y:List UInt8):Data g (.int .u8) (y.map fun b=>(b.toNat:Int)) (Lib.strCells ⟨y.toArray⟩):=by
 refine⟨by simp[Lib.strCells,Ty.size],fun k x hk=>?_⟩;have bf:k<y.length:=by simpa using(Z2.1 hk).1
 have e:x=(((y[k]'bf).toNat:Nat):Int):=by
  rw[aaS,Z1 bf]at hk;simpa using hk.symm
 subst e;have e2:((Lib.strCells ⟨y.toArray⟩).drop (k*Ty.size (.int .u8))).take (Ty.size (.int .u8))=[Value.int .u8 (y[k]'bf).toNat]:=by
  have zZ:k<(Lib.strCells ⟨y.toArray⟩).length:=by simp[Lib.strCells];exact bf
  show((Lib.strCells ⟨y.toArray⟩).drop (k*1)).take 1=_;rw[ac8,aaU zZ];simp[Lib.strCells]
 rw[e2];exact⟨.int .u8 fun _=>_,trivial⟩
theorem uI {t t2 e:Nat} {s x:Operand} {y:Unit->List UInt8} (h:Inv B g env E a.tmps w) (ho:o.op=.call { callee:=.builtin .append,args:=#[s,x],argTypes:=#[t,t2] }) (ht:aS P t=some (.slice e)) (ex:ev env x=.str y)
  (hk:match aS P t2,gp P 6 e,bR P e,iB P e,fQ P e with
     | some .string,some (.int .u8),some 1,some 1,some (.int .u8 0)=>(match ev env s with
      | .aZ=>Ob (fun u=>(y u).length<=140737488355328)/\fN (ah E) fun n=>iq (dm E (.aq e (.int .u8) fun u=>(y u).map fun b=>(b.toNat:Int))) fun E=>K (.vec n 1 (fun _=>0) (fun u=>(y u).length)) env E
      | .vec i 1 o n=>(match af E i with
       | .aq T (.int .u8) xs=>(match Nat.beq T e with
        | true=>Ob (fun u=>o u=0/\n u+(y u).length<=140737488355328) /\
         jC (ba (ku i) env) fun env=>iq (cT (ku i) (a8 E i (.aq e (.int .u8) fun u=>(xs u).take (n u)++(y u).map fun b=>(b.toNat:Int)))) fun E=>K (.vec i 1 (fun _=>0) (fun u=>n u+(y u).length)) env E
        | false=>False)
       | _=>False)
      | _=>False)
     | _,_,_,_,_=>False):gV P o a w B K:=by
 have hs:=h.er.ev s;have hx:=h.er.ev x;rw[ex]at hx;have EP:=hx.gS;have cu:(ByteArray.mk (y ()).toArray).size=(y ()).length:=by simp[ByteArray.size]
 split at hk <;> try exact hk.elim
 rename_i qW zM rf rD hz;split at hk <;> try exact hk.elim
 .rename_i es
  rw[es]at hs;have uy:a.eval s=.slice none 0 0:=by generalize a.eval s=u at hs;cases hs;rfl
  rw[fe,a7]at hk;obtain⟨dM,hk⟩:=hk;have dM:=dM.h;obtain⟨v',w',h1,h2,h3,h4⟩:=lH (P:=P) (w:=w) (ty:=o.type) ht qW rf rD hz (v:=.slice none 0 0) (n:=0) (xs:=[]) ⟨by simp,.inl ⟨rfl,rfl⟩⟩ ⟨(y ()).toArray⟩ (by rw[cu];omega);have bh:=fk (P:=P) (w:=w) (a:=a) ho (by rw[uy,EP];exact h1);simp only[aaf,ab3]at h2;exact rb (sz:=1) (ty:=.int .u8) (ys:=fun u=>(y u).map fun b=>(b.toNat:Int)) h rfl (by simp[cu]) (x6 g (y ())) bh h2 h3 h4 (by simpa using hk)
 .rename_i i of n es
  rw[es]at hs;split at hk <;> try exact hk.elim
  rename_i T xs hE;split at hk <;> try exact hk.elim
  rename_i FM;have FM:T=e:=Z3 FM;subst FM;rw[c9,a7]at hk;obtain⟨dM,hk⟩:=hk;obtain⟨PK,FN⟩:=dM.h;obtain⟨A0,c0,uy⟩:∃ A0 c0,a.eval s=.slice A0 (n ()) c0:=by generalize a.eval s=u at hs;cases hs with|vec _ _ _ _ A c=>exact⟨A,c,rfl⟩
  rw[uy]at hs;obtain⟨us,cO,OT,hblk,_⟩:=x5 h.aW hE hs PK rfl;obtain⟨v',w',h1,h2,h3,h4⟩:=lH (P:=P) (w:=w) (ty:=o.type) ht qW rf rD hz cO ⟨(y ()).toArray⟩ (by rw[cu];exact FN);have bh:=fk (P:=P) (w:=w) (a:=a) ho (by rw[uy,EP];exact h1);exact re (sz:=1) (t':=.int .u8) (ys:=fun u=>(y u).map fun b=>(b.toNat:Int)) h hE hs rfl rfl OT hblk (by simp[cu]) (x6 g (y ())) bh h2 h3 h4 (by simpa using hk)
theorem DB {t t2:Nat} {s x:Operand} (h:Inv B g env E a.tmps w) (ho:o.op=.call { callee:=.builtin .append,args:=#[s,x],argTypes:=#[t,t2] })
  (hk:cr P .append [t,t2] [ev env s,ev env x] env E K):gV P o a w B K:=by
 have hs:=h.er.ev s;have hx:=h.er.ev x;simp only[cr]at hk;split at hk;rotate_left
 .rename_i e Sx ht
  split at hk <;> try exact hk.elim
  .rename_i n es ex
   split at hk <;> try exact hk.elim
   rename_i qW;exact Ja h ho ht qW es ex hk
  .rename_i y ex
   exact uI h ho ht ex hk
 .exact hk.elim
 rename_i e Sx ht;have Sx:=Z3 Sx;subst Sx;split at hk <;> try exact hk.elim
 rename_i ty uZ z zM rD hz;split at hk <;> try exact hk.elim
 rename_i sz cu;split at hk <;> try exact hk.elim
 rename_i uH;have uH:sz=ty.size:=Z3 uH;split at hk <;> try exact hk.elim
 rename_i FI;have FI:z.cells.size=sz:=Z3 FI;obtain⟨ys,A,m,c,news,EP,mw,jR,xC,hA,dh,hk⟩:=BI h.aW hx hk;split at hk <;> try exact hk.elim
 ·
  rename_i es;rw[es]at hs;have uy:a.eval s=.slice none 0 0:=by generalize a.eval s=u at hs;cases hs;rfl
  rw[fe,a7]at hk;obtain⟨dM,hk⟩:=hk;have dM:=dM.h;obtain⟨v',w',h1,h2,h3,h4⟩:=sC (P:=P) (w:=w) (t:=t) (ty:=o.type) ht cu rD hz FI uH (v:=.slice none 0 0) (n:=0) (xs:=[]) ⟨by simp,.inl ⟨rfl,rfl⟩⟩ mw xC hA dh (by rw[<-mw];simpa using dM) (by omega);have bh:=fk (P:=P) (w:=w) (a:=a) ho (by rw[uy,EP];exact h1);simp only[aaf,ab3]at h2;exact rb h uH mw xC bh h2 h3 h4 hk
 ·
  rename_i i s' of n es;rw[es]at hs;split at hk <;> try exact hk.elim
  rename_i T t' xs hE;split at hk <;> try exact hk.elim
  rename_i TB _;subst TB;split at hk <;> try exact hk.elim
  rename_i DA FM;have DA:s'=sz:=Z3 DA;have FM:T=e:=Z3 FM;subst FM;rw[E7,c9,a7]at hk;obtain⟨dM,hk⟩:=hk;obtain⟨PK,FN,Ms⟩:=dM.h;obtain⟨A0,c0,uy⟩:∃ A0 c0,a.eval s=.slice A0 (n ()) c0:=by generalize a.eval s=u at hs;cases hs with|vec _ _ _ _ A c=>exact⟨A,c,rfl⟩
  rw[uy]at hs;obtain⟨us,cO,OT,hblk,_⟩:=x5 h.aW hE hs PK (by omega);rw[DA]at cO;have lG:n ()+m<=9223372036854775807:=by rw[<-mw];omega
  obtain⟨v',w',h1,h2,h3,h4⟩:=sC (P:=P) (w:=w) (t:=t) (ty:=o.type) ht cu rD hz FI uH cO mw xC hA dh (by rw[<-mw];exact Ms) lG;have bh:=fk (P:=P) (w:=w) (a:=a) ho (by rw[uy,EP];exact h1);exact re h hE hs DA uH OT hblk mw xC bh h2 h3 h4 hk
end
theorem Jb {α:Type} (V c:List α) (N p:Nat) (hN:N<=V.length) (hp:p+c.length<=N):(V.take p++c++V.drop (p+c.length)).take N=(V.take N).take p++c++(V.take N).drop (p+c.length):=by
 apply abG;intro k;simp only[aau,aap,aam,aab,aak,aar]
 grind
section
variable {P:Program} {B:bS} {g:Gh} {env:Env} {E:List Chunk} {tmps:Array Value} {w:World}
variable {a:Act} {o:Oper} {K:AV->Env->List Chunk->Prop}
theorem FO (h:Inv B g env E tmps w) {i T:Nat} {ty:Ty} {xs:Unit->List ty.den} {s:Nat} {of n:Unit->Nat} {A:Option Addr} {m c:Nat} (hE:af E i=.aq T ty xs) (hr:R g (.vec i s of n) (.slice A m c)) (hs:s=ty.size)
  {ys:Unit->List ty.den} {k:Unit->Nat} {news:List Value} (mw:(ys ()).length=k ()) (hk:k ()<=m) (hd:Data g ty (ys ()) news) :
  ∃ w',(match A with|some ad=>storeCells ad news|none=>pure ()).run P w=.ok () w'/\Inv B g env (a8 E i (.aq T ty (lh xs of k ys))) tmps w':=by
 subst hs;have fU:=h.aW.sat i;rw[hE]at fU;have hlen:((lh xs of k ys) ()).length=(xs ()).length:=by
  have hL:of ()+n ()<=g.L i:=by cases hr with|vec _ _ _ _ _ _ hi hL=>exact hL
  have hm:m=n ():=by cases hr;rfl
  have:=fU.1;simp only[lh,aab,aak,aar,mw];omega
 cases hr with|vec _ _ _ _ A c hi hL hn sm =>
 cases hV:g.V i with
 | none =>
  obtain⟨h1,h2,h3,h4⟩:=hn hV;subst h1;have hx:xs ()=[]:=fU.2.1 hV;refine⟨w,rfl,?_⟩;have e:(lh xs of k ys) ()=[]:=aaY (by rw[hlen,hx];rfl);have:lh xs of k ys=xs:=by funext u;cases u;rw[e,hx]
  rw[this,<-hE];have dZ:∀ (E:List Chunk) (i:Nat),a8 E i (af E i)=E:=by
   intro E;induction E with
   | nil=>intro i;rfl
   | cons c r ih=>intro i;cases i <;> simp[a8,af,ih]
  rw[dZ];exact h
 | some cap =>
  obtain⟨vs,hb,By,cS,Mn,Ss⟩:=iF fU hV;obtain⟨h0,h1,h2,h3,h4⟩:=sm cap hV;have PH:(xs ()).length*ty.size<=cap*ty.size:=aav _ cS;have u7:news.length=k ()*ty.size:=by rw[hd.1,mw]
  have nT:of ()*ty.size+news.length<=(xs ()).length*ty.size:=by rw[u7,<-aaQ];exact aav _ (by omega)
  have BL:Data g ty ((lh xs of k ys) ()) ((vs.toList.take ((xs ()).length*ty.size)).take (of ()*ty.size)++news++(vs.toList.take ((xs ()).length*ty.size)).drop (of ()*ty.size+news.length)):=by
   have d1:=Ss.take (of ());have d3:=Ss.drop (of ()+k ());rw[aaQ,<-u7]at d3;exact(d1.append hd).append d3
  have lj:=Jb vs.toList news ((xs ()).length*ty.size) (of ()*ty.size) (by simp;omega) nT;have fin:∀ arr:List Value,arr.length=vs.size->arr.take ((xs ()).length*ty.size)=(vs.toList.take ((xs ()).length*ty.size)).take (of ()*ty.size)++news++(vs.toList.take ((xs ()).length*ty.size)).drop (of ()*ty.size+news.length) ->
    Inv B g env (a8 E i (.aq T ty (lh xs of k ys))) tmps (w.setRow (g.B i) arr.toArray):=by
   intro arr Aj sA;have dZ:=fX hb arr.toArray;exact h.set (c:=.aq T ty (lh xs of k ys)) (by rw[hE];simp[Chunk.own,hV]) dZ (gu (cap:=cap) (vs:=arr.toArray) hV (by rw[hlen,Mn]) dZ.at_ (by simpa [By]using Aj) (by rw[hlen];exact cS) (by rw[hlen];simpa [sA]using BL)) (by simp[Chunk.own,hV]) (fun _ _ _ _=>⟨_,_,_,hE⟩)
  cases A with
  | none=>exact(h4 rfl).elim
  | some ad =>
   rcases acA (k ())with nY|nY
   ·
    have qY:news=[]:=aaY (by rw[u7,nY];simp);subst qY;refine⟨w,by simp[storeCells],?_⟩;have:=fin vs.toList (by simp) (by simp);rw[Array.toArray_toList]at this;have e:w.setRow (g.B i) vs=w:=setRow_self w (g.B i) vs T (0,0) hb;rwa [e]at this
   .have hA:=h3 (.inl (by omega))
    simp only[aaJ]at hA;subst hA;have bh:=run_storeCells_at P (g.B i) (of ()*ty.size) T news 0 vs w hb (by simp;omega) hd.BE;simp only[aa6]at bh;exact⟨_,bh,fin _ (by simp;omega) lj⟩
theorem sE {d:Ty} {sz:Nat} (hd:sz=d.size) {A:Option Addr} {m c k:Nat} {ys:List d.den} {news:List Value} (mw:ys.length=m) (xC:Data g d ys news) (hA:A=none->m=0)
  (dh:∀ ad,A=some ad->∀ j u,news[j]?=some u->w.cell? (ad.add j)=some u) (hk:k<=m) :
  (Builtin.firstCells sz k (.slice A m c)).run P w=.ok (news.take (k*sz)).toArray w:=by
 cases A with
 | none =>
  have:=hA rfl;have nY:k=0:=by omega
  subst nY;simp[Builtin.firstCells]
 | some ad =>
  have hl:(news.take (k*sz)).length=k*sz:=by
   rw[aak,xC.1,mw,hd];exact aa0 (aav _ hk)
  have:=run_loadCells_list (P:=P) w ad (news.take (k*sz)) (fun j v hv=>dh ad rfl j v (by
   rw[aap]at hv;split at hv
   .exact hv
   .cases hv))
  rw[hl]at this;simp[Builtin.firstCells,this]
theorem Jc {ts:List Nat} {s x:Operand} (h:Inv B g env E a.tmps w) (ho:o.op=.call { callee:=.builtin .copy,args:=#[s,x],argTypes:=ts.toArray })
  (hk:cr P .copy ts [ev env s,ev env x] env E K):gV P o a w B K:=by
 have hs:=h.er.ev s;have hx:=h.er.ev x;simp only[cr]at hk;split at hk <;> try exact hk.elim
 rename_i t r i s' of n x' es;simp only[List.cons.injEq,and_true]at es;obtain⟨es,ex⟩:=es;subst ex;rw[es]at hs;split at hk <;> try exact hk.elim
 rename_i e ht;split at hk <;> try exact hk.elim
 rename_i sz cu;split at hk <;> try exact hk.elim
 rename_i T ty xs hE;split at hk <;> try exact hk.elim
 rename_i uH;have uH:sz=ty.size:=Z3 uH;split at hk <;> try exact hk.elim
 rename_i DA;have DA:s'=sz:=Z3 DA;obtain⟨ys,A,m,c,news,EP,mw,jR,xC,hA,dh,hk⟩:=BI h.aW hx hk;rw[a7]at hk;obtain⟨A0,c0,uy⟩:∃ A0 c0,a.eval s=.slice A0 (n ()) c0:=by generalize a.eval s=u at hs;cases hs with|vec _ _ _ _ A c=>exact⟨A,c,rfl⟩
 rw[uy]at hs;have ES:(((ys ()).take (n ()))).length=min (ys ()).length (n ()):=by simp[Nat.min_comm]
 have Xt:Data g ty ((ys ()).take (n ())) (news.take (Nat.min m (n ())*sz)):=by
  have:=xC.take (Nat.min m (n ()));rw[uH];have e:(ys ()).take (Nat.min m (n ()))=(ys ()).take (n ()):=by
   rw[<-mw];show(ys ()).take (min (ys ()).length (n ()))=_;rw[List.take_eq_take_iff];(try omega)
  rwa [e]at this
 obtain⟨w',bh,hinv⟩:=FO (P:=P) h hE hs (by omega) (ys:=fun u=>(ys u).take (n u)) (k:=fun u=>min (ys u).length (n u)) ES (Nat.min_le_right _ _) Xt;have Xu:=sE (P:=P) (w:=w) (k:=Nat.min m (n ())) (c:=c) uH mw xC hA dh (Nat.min_le_left _ _);refine⟨_,.int .i64 (Nat.min m (n ()):Nat),_,w',_,_,_,?_,.inl rfl,hinv,R.uD (by rw[mw]),hk⟩;have PL:(Builtin.copy_ (t::r).toArray o.type #[a.eval s,a.eval x]).run P w=.ok (.int .i64 (Nat.min m (n ()):Nat)) w':=by
  rw[uy,EP];unfold Builtin.copy_;simp only[acL,List.getElem?_cons_zero,List.getElem?_cons_succ,Sem.run_bind,ag ht,Result.andThen_ok,Builtin.lenOf,Sem.run_pure,aT cu,Xu];cases A0 with
  | none=>simp at bh;simp[goInt,bh]
  | some ad=>simp at bh;simp[goInt,bh]
 simp[execOp,ho,resolve,invoke,builtin,PL]
theorem FP {ts:List Nat} {s:Operand} (h:Inv B g env E a.tmps w) (ho:o.op=.call { callee:=.builtin .clear,args:=#[s],argTypes:=ts.toArray })
  (hk:cr P .clear ts [ev env s] env E K):gV P o a w B K:=by
 have hs:=h.er.ev s;simp only[cr]at hk;split at hk <;> try exact hk.elim
 rename_i t r i s' of n es;simp only[List.cons.injEq,and_true]at es;rw[es]at hs;split at hk <;> try exact hk.elim
 rename_i e ht;split at hk <;> try exact hk.elim
 rename_i sz z cu hz;split at hk <;> try exact hk.elim
 rename_i T ty xs hE;split at hk <;> try exact hk.elim
 rename_i uH;have uH:sz=ty.size:=Z3 uH;split at hk <;> try exact hk.elim
 rename_i DA;have DA:s'=sz:=Z3 DA;split at hk <;> try exact hk.elim
 rename_i FI;have FI:z.cells.size=sz:=Z3 FI;split at hk <;> try exact hk.elim
 rename_i cs uW;obtain⟨d,hd,hk⟩:=ko hk ((nr g z).cells uW);rw[a7]at hk;obtain⟨A0,c0,uy⟩:∃ A0 c0,a.eval s=.slice A0 (n ()) c0:=by generalize a.eval s=u at hs;cases hs with|vec _ _ _ _ A c=>exact⟨A,c,rfl⟩
 rw[uy]at hs;have K7:Data g ty (List.replicate (n ()) (d ())) (List.replicate (n ()) z.cells.toList).flatten:=Data.replicate (by rw[ik];exact hd) _;obtain⟨w',bh,hinv⟩:=FO (P:=P) h hE hs (by omega) (ys:=fun u=>List.replicate (n u) (d u)) (k:=n) (by simp) (Z8 _) K7;refine⟨_,.tuple #[],_,w',_,_,_,?_,.inl rfl,hinv,R.gP (cs:=[]) (vs:=[]) trivial,hk⟩;have PB:(Builtin.zeroCells z.cells (n ())).toList=(List.replicate (n ()) z.cells.toList).flatten:=by
  unfold Builtin.zeroCells;exact jQ z.cells (n ())
 have Mt:(Builtin.clear_ (t::r).toArray o.type #[a.eval s]).run P w=.ok (.tuple #[]) w':=by
  rw[uy];unfold Builtin.clear_;simp only[acL,List.getElem?_cons_zero,Sem.run_bind,ag ht,Result.andThen_ok];cases A0 with
  | none=>simp at bh;simp[bh]
  | some ad =>
   cases hn:n ()with
   | zero =>
    rw[hn]at bh;simp[storeCells]at bh;simp[bh]
   | succ k =>
    rw[hn]at bh PB;simp only[]at bh;simp[dO hz,PB,bh]
 simp[execOp,ho,resolve,invoke,builtin,Mt]
theorem DC (q:Int) (h:0<=q/\q<256):((UInt8.ofNat q.toNat).toNat:Int)=q:=by
 rw[UInt8.toNat_ofNat'];omega
theorem rF {pt it:Nat} {x y:Operand} (h:Inv B g env E a.tmps w) (ho:o.op=.call { callee:=.builtin .unsafeString,args:=#[x,y],argTypes:=#[pt,it] })
  (hk:cr P .unsafeString [pt,it] [ev env x,ev env y] env E K):gV P o a w B K:=by
 have hx:=h.er.ev x;have hy:=h.er.ev y;simp only[cr]at hk;split at hk <;> try exact hk.elim
 rename_i ts az Zv Zw i idx m Xv Tq;injection Xv with e1 e2;injection e2 with e2 _;subst e1 e2;injection Tq with ex e3;injection e3 with ey _;rw[ex]at hx;rw[ey]at hy;split at hk <;> try exact hk.elim
 rename_i e TC;split at hk <;> try exact hk.elim
 rename_i T xs rf hE;split at hk <;> try exact hk.elim
 rename_i FM;have FM:T=e:=Z3 FM;subst FM;rw[c9,a7]at hk;obtain⟨dM,hk⟩:=hk;obtain⟨h0,h1,h2,TD,h3⟩:=dM.h;have hi:i<ah E:=dI (by rw[hE];simp);have fU:=h.aW.sat i;rw[hE]at fU;obtain⟨s1,s2,s3⟩:=fU;obtain⟨mm,hm⟩:∃ mm:Nat,m ()=mm:=⟨(m ()).toNat,by omega⟩
 cases hV:g.V i with
 | none=>have:=s2 hV;rw[this]at h2;simp at h2;omega
 | some cap =>
  obtain⟨vs,hb,By,cS,hd⟩:=s3 cap hV;have Xw:=hy.bY;have EP:a.eval x=.pointer (some ⟨g.B i,0,none⟩):=by
   generalize a.eval x=u at hx;cases hx;simp[h0]
  let l:List UInt8:=((xs ()).take mm).map fun z=>UInt8.ofNat z.toNat
  have La:l.length=mm:=by simp[l];omega
  have dh:∀ j z,l[j]?=some z->w.cell? ((⟨g.B i,0,none⟩:Addr).add j)=some (.int .u8 z.toNat):=by
   intro j z hz;have hj:j<mm:=by rw[<-La];exact(Z2.1 hz).1
   have OU:j<(xs ()).length:=by omega
   have PM:z=UInt8.ofNat ((xs ())[j]'OU).toNat:=by
    simp only[l,aaS,aap,Z0 hj,Z1 OU]at hz;simpa using hz.symm
   have hr:=hd j _ (Z1 OU);have cu:(Ty.int IntKind.u8).size=1:=rfl;rw[cu]at hr;cases lF:(vs.toList.drop (j*1)).take 1 with
   | nil=>rw[lF]at hr;exact hr.elim
   | cons u r =>
    rw[lF]at hr;have Th:=hr.1.bY;have:((vs.toList.drop (j*1)).take 1)[0]?=some u:=by rw[lF];rfl
    rw[bX rfl,cell_of_heap hb];simp at this;rw[aaf,this,Th,PM];have Dp:=h3 _ (aax OU);have e:((UInt8.ofNat (Int.toNat ((xs ())[j]'OU))).toNat:Int)=(xs ())[j]'OU:=DC _ Dp;rw[e]
  have cu:P.cellsOf T=1:=by
   unfold bR at rf;split at rf
   .rename_i ti vW
    simp only[aaJ]at rf;simp[Program.cellsOf,bu vW,rf]
   .cases rf
  have bC:l≠[]:=by
   intro e;have e2:l.length=0:=by rw[e];rfl
   omega
  have TE:vs.size=cap:=by rw[By];exact ac8 _
  have BK:=Lib.run_unsafeString_row (P:=P) w pt it o.type T (au TC) cu (g.B i) vs.size (by simp[World.shape?,hb]) l bC (by rw[La,TE];omega) (by rw[La];omega) dh;rw[La]at BK;have bh:(execOp a.eval o).run P w=.ok (.value (.string ⟨l.toArray⟩)) (w.freeze ⟨g.B i,0,none⟩ mm):=by
   simp[execOp,ho,resolve,invoke,builtin,EP,Xw,hm,BK]
  have VR:∀ k,k≠g.B i->(w.freeze ⟨g.B i,0,none⟩ mm).heap[k]?=w.heap[k]?:=fun k hk=>by
   unfold World.freeze;split
   .rfl
   .simp only[Array.getElem?_modify];rw[ZY (fun e=>hk e.symm)]
  have hblk:(af E i).own g i (g.B i):=by rw[hE];simp[Chunk.own,hV]
  have hinv:=h.Dr (w':=w.freeze ⟨g.B i,0,none⟩ mm) (g':=g) (ku i) (c:=.none) ⟨T,_,xs,hE⟩ rfl rfl rfl rfl (fun b o' hb=>hb) (fun v u hv hr=>BJ rfl (fun j _=>⟨rfl,rfl,rfl⟩) rfl rfl v u hv hr) hi (fun j _=>⟨rfl,rfl,rfl⟩)
   (by unfold World.freeze;split <;> rfl) (by unfold World.freeze;split <;> rfl) (by unfold World.freeze;split <;> exact⟨rfl,Z8 _⟩) (by unfold World.freeze;split <;> simp) (fun k _ hk=>VR k (hk _ hblk)) trivial (fun b hb=>by cases hb) (fun b o' hb=>.inl hb)
  refine⟨_,_,_,_,_,_,_,bh,.inl rfl,hinv,?_,hk⟩;exact R.zY (by simp[l,hm])
theorem gv {op:Op} (h:Inv B g env E a.tmps w) (ho:o.op=op) (hk:eV P op env E K) (PN:∀ s d x,op=.convert s d x->∃ u,aS P s=some u):gV P o a w B K:=by
 cases op <;> try (simp only[eV]at hk;done)
 case alloc e=>exact FD h ho hk
 case box e x=>exact Ml h ho hk
 case store t x v=>exact FE h ho hk
 case buildSlice t l p=>exact uG h ho hk
 case makeSlice t l c=>exact we h ho hk
 case makeMap t r =>
  cases r with
  | none=>exact Ae h ho hk
  | some _=>simp only[eV]at hk
 case insert t m k x =>
  cases k <;> try (simp only[eV]at hk;done)
  rename_i v;cases v <;> try (simp only[eV]at hk;done)
  exact I5 h ho hk
 case mapUpdate t m k x=>exact wb h ho hk
 case range t x=>exact FG h ho hk
 case entry x=>exact FH h ho hk
 case next x b =>
  cases b with
  | true=>simp only[eV]at hk
  | false=>exact I8 h ho hk
 case convert s d x=>obtain⟨u,hu⟩:=PN s d x rfl;exact Ag hu h ho hk
 case call c =>
  obtain⟨callee,args,argTypes⟩:=c;cases callee <;> try (simp only[eV]at hk;done)
  rename_i b;simp only[eV]at hk;obtain⟨args⟩:=args;obtain⟨ts⟩:=argTypes;cases b <;> try (simp only[cr]at hk;done)
  case delete=>exact Dv h ho hk
  case append =>
   have nY:=hk;simp only[cr]at nY;obtain _|⟨t,_|⟨t2,_|⟨_,_⟩⟩⟩:=ts <;> try (simp at nY;done)
   obtain _|⟨s,_|⟨x,_|⟨_,_⟩⟩⟩:=args <;> try (simp[p9]at nY;done)
   exact DB h ho hk
  case copy =>
   have nY:=hk;simp only[cr]at nY;obtain _|⟨s,_|⟨x,_|⟨_,_⟩⟩⟩:=args
   .cases ts <;> simp[p9]at nY
   .cases ts <;> simp[p9]at nY
    all_goals (cases hh:ev env s <;> simp[hh]at nY)
   .exact Jc h ho hk
   .cases ts <;> simp[p9]at nY
    all_goals (cases hh:ev env s <;> simp[hh]at nY)
  case unsafeString =>
   have nY:=hk;simp only[cr]at nY;obtain _|⟨t,_|⟨t2,_|⟨_,_⟩⟩⟩:=ts <;> try (simp at nY;done)
   obtain _|⟨s,_|⟨x,_|⟨_,_⟩⟩⟩:=args <;> try (simp[p9]at nY;done)
   exact rF h ho hk
  case clear =>
   have nY:=hk;simp only[cr]at nY;obtain _|⟨s,_|⟨x,_⟩⟩:=args
   .cases ts <;> simp[p9]at nY
   .exact FP h ho hk
   .cases ts <;> simp[p9]at nY
    all_goals (cases hh:ev env s <;> simp[hh]at nY)
end
def fE (P:Program) (f:FuncId):Prop:=∃ fn,P.funcs[f]?=some fn/\fn.body.isSome=true/\fn.name ≠ "runtime.NumGoroutine"
def Fr (r:Option Nat):Fence:={ Fence.wide with round:=r }
theorem iG {P:Program} {r:Option Nat} {n:Nat} {f:FuncId} {args:Array Value} {w:World} {R:Ending->World->Prop}:CallsIn (Fr r) n P f args w R↔Calls P f args w R:=callsIn_wide (n:=n)
def bS.mark (B:bS) (D:Nat):bS:=⟨{ B.g with Φ:=fun b=>if b=D then some (.deferred (some []))else B.g.Φ b },B.E,B.w⟩
structure Sc where
 at_:bS->Prop
 b0:Nat
 ok:Bool
 hb:ok=true->∀ B,at_ B->b0<=B.w.heap.size
 cl:ok=true->∀ B D,at_ B->b0<=D->at_ (B.mark D)
def Dm (S:Sc) (B:bS) (ds:List Deferred):Prop:=(S.ok=false->ds=[])/\∃ Ds:List Nat,ds=Ds.map (fun D=>{ target:=.collected D,args:=#[] })/\Ds.Nodup/\∀ D∈Ds,S.b0<=D/\B.g.Φ D=some (.deferred (some []))
def Iv (S:Sc) (g:Gh) (env:Env) (E:List Chunk) (a:Act) (w:World):Prop:=∃ B,S.at_ B/\Inv B g env E a.tmps w/\Dm S B a.defers
theorem Iv.aW {S:Sc} {g:Gh} {env:Env} {E:List Chunk} {a:Act} {w:World} (h:Iv S g env E a w):eE g E w:=by obtain⟨B,_,h,_⟩:=h;exact h.aW
theorem Iv.er {S:Sc} {g:Gh} {env:Env} {E:List Chunk} {a:Act} {w:World} (h:Iv S g env E a w):ER g env a.tmps:=by obtain⟨B,_,h,_⟩:=h;exact h.er
def Step (y:Bool) (P:Program) (o:Oper) (a:Act) (w:World) (next:Act->World->Prop):Prop :=
 (∀ c,o.op≠.defer c)/\∃ n w1,(execOp a.eval o).run P w=.ok n w1/\(match n with
  | .value v=>next (a.put o.dst v) w1
  | .skip=>next (a.put o.dst Go.undef) w1
  | .enter f args=>Calls P f args w1 fun e w'=>∃ c,e=.returned c/\next (a.put o.dst c) w'
  | .round l f tmps assign body=>y=true/\RoundIn Fence.wide 0 P l f tmps assign body w1 fun e w'=>∃ c,e=.returned c/\next (a.put o.dst c) w'
  | _=>False)
theorem Step.wpIn {y:Bool} {r:Option Nat} {P:Program} {o:Oper} {a:Act} {w:World} {next:Act->World->Prop} {Q:Exit->Act->World->Prop} (h:Step y P o a w next):o.wpIn (Fr r) 0 P a w next Q:=by
 obtain⟨hd,n,w1,hr,h⟩:=h;refine⟨fun _ _=>trivial,?_⟩;rw[Oper.semAt_eq _ _ _ hd,hr];cases n with
 | value v=>exact h
 | skip=>exact h
 | enter f args=>exact⟨fun h=>by simp[Fr,Fence.wide]at h,iG.2 (Calls.mono h (by rintro e w' ⟨c,rfl,hc⟩;exact hc))⟩
 | round l f tmps assign body=>exact⟨fun h=>by simp[Fr,Fence.wide]at h,RoundIn.mono (F:=Fr r) h.2 (by rintro e w' ⟨c,rfl,hc⟩;exact hc)⟩
 | _=>exact h.elim
structure ab (P:Program) (f:FuncId) (args:List AV) (env:Env) (E:List Chunk) (K:AV->Env->List Chunk->Prop):Prop where
 aA:fE P f
 h:∀ (B:bS) (g:Gh) (tmps:Array Value) (w:World) (aC:List Value),Inv B g env E tmps w->RL g args aC ->
  Calls P f aC.toArray w (fun e w'=>∃ c r g' aj E',e=.returned c/\Inv B g' aj E' tmps w'/\R g' r c/\K r aj E')
def FQ (P:Program) (t:Nat) (name:String) (f:FuncId):Bool:=match gn P t with
 | some i=>(match i.methods.find? (·.name == name)with
  | some m=>(match m.path.toList,m.func,P.underlying t with
   | [],some (f',true),some (.pointer _)=>Nat.beq f' f
   | [],some (f',false),some d=>Nat.beq f' f && (match d with|.pointer _=>false|_=>true)
   | _,_,_=>false)
  | none=>false)
 | none=>false
structure FR (P:Program) (t:Nat) (name:String) (f:FuncId):Prop where
 h:∀ (u:Value) (w:World),(method (P.types.size+Made.depth) t u name).run P w=.ok (f,u) w
theorem FR.of {P:Program} {t:Nat} {name:String} {f:FuncId} (h:FQ P t name f=true):FR P t name f where
 h:=by
  intro u w;obtain⟨n,hn⟩:∃ n,P.types.size+Made.depth=n+1:=⟨P.types.size+Made.depth - 1,(by have:0<Made.depth:=(by decide);omega)⟩
  unfold FQ at h;split at h
  .rename_i i hi
   split at h
   .rename_i m hm
    split at h
    .rename_i f' te hp hf hu
     have Me:=Z3 h;subst Me;rw[hn];simp[method,typeInfo,bu hi,hm,hp,follow,hf,receiverAt,run_underlying hu,Place.get]
    .rename_i f' d hp hf hu
     rw[aai]at h;have Me:=Z3 h.1;subst Me;rw[hn];have hd:=h.2;cases d <;> first|(cases hd;done)|simp[method,typeInfo,bu hi,hm,hp,follow,hf,receiverAt,run_underlying hu,Place.get]
    .cases h
   .cases h
  .cases h
structure lp (P:Program) (t:Nat) (name:String) (v:AV) (az:List AV) (env:Env) (E:List Chunk) (K:AV->Env->List Chunk->Prop):Prop where
 h:∃ f,FR P t name f/\ab P f (v::az) env E K
theorem lp.intro {P:Program} {t:Nat} {name:String} {v:AV} {az:List AV} {env:Env} {E:List Chunk} {K:AV->Env->List Chunk->Prop} (f:FuncId) (h:FQ P t name f=true) (hc:ab P f (v::az) env E K):lp P t name v az env E K:=⟨f,.of h,hc⟩
structure sF (P:Program) (S:Sc) (l:Nat) (args:List AV) (env:Env) (E:List Chunk) (K:AV->Env->List Chunk->Prop):Prop where
 h:∀ (g:Gh) (a:Act) (w:World) (aC:List Value),Iv S g env E a w->RL g args aC ->
  YieldAt Fence.wide 0 P l aC.toArray w (fun e w'=>∃ c r g' aj E',e=.returned c/\Iv S g' aj E' a w'/\R g' r c/\K r aj E')
def FT (P:Program) (f:FuncId):Bool:=match nth P.funcs.toList f with
 | some fn=>(match fn.body with|none=>true|some _=>false)|none=>false
structure PO (P:Program) (f:FuncId):Prop where
 h:∃ fn,P.funcs[f]?=some fn/\(fn.name == "runtime.NumGoroutine")=false/\fn.body.isNone=true/\Extern.findNext fn=none/\Extern.find fn=some Extern.AbiNoEscape.same
def bw:List Chunk->List Bool
 | []=>[]|c::r=>c8 c::bw r
def OV (l:List Bool) (K:List Bool->Prop):Prop:=match l with
 | []=>K []|true::r=>OV r fun r=>K (true::r)|false::r=>OV r fun r=>K (false::r)
theorem Mu (l:List Bool) (K:List Bool->Prop):OV l K=K l:=by
 induction l generalizing K with
 | nil=>rfl
 | cons c r ih=>cases c <;> simp only[OV,ih]
inductive Ex|normal|ret|exit (n:Nat)
def Ex.out:Ex->Exit
 | .normal=>.normal|.ret=>.ret|.exit n=>.exit n
def Ak (S:Sc) (N:Nat) (K:Ex->Env->List Chunk->Prop):Exit->Act->World->Prop :=
 fun x a w=>∃ e g env E,x=e.out/\Iv S g env E a w/\a.tmps.size=N/\K e env E
def eR:Code->Bool
 | .region _ _ _=>true|.seq a b=>eR a && eR b|.cond _ a b=>eR a && eR b|.block _ b=>eR b|.loop b=>eR b|.rangeFunc _ _ a b=>false|.scope b=>eR b
 | .skip=>true|.label _=>true|.exit _=>true|.ret=>true|_=>false
structure aM (P:Program) (N:Nat) (S:Sc) (M:List Bool) (body:Code) (env:Env) (E:List Chunk) (K:Ex->Env->List Chunk->Prop):Prop where
 h:∀ (r:Option Nat) (g:Gh) (a:Act) (w:World),(r=none\/eR body=true)->(∀ B,S.at_ B->bw B.E=M)->Iv S g env E a w->a.tmps.size=N->(Code.loop body).wpIn (Fr r) 0 P (Ak S N K) a w
structure aB (P:Program) (N:Nat) (S:Sc) (M:List Bool) (c:Code) (env:Env) (E:List Chunk) (K:Ex->Env->List Chunk->Prop):Prop where
 h:∀ (r:Option Nat) (g:Gh) (a:Act) (w:World),(r=none\/eR c=true)->(∀ B,S.at_ B->bw B.E=M)->Iv S g env E a w->a.tmps.size=N->c.wpIn (Fr r) 0 P (Ak S N K) a w
structure Cl (p:Unit->Prop):Prop where h:p ()
def PQ:List AV->List AV->List AV
 | [],l=>l|c::r,l=>c::PQ r l
theorem FU (l r:List AV):PQ l r=l++r:=by induction l <;> simp[PQ, *]
section
variable (P:Program) (N:Nat) (S:Sc)
def c4 (d:Option Nat) (v:AV) (env:Env) (K:Env->Prop):Prop :=
 match d with
 | none=>K env
 | some d=>(match Nat.blt d N with|true=>fV v fun v=>K ((d,v)::env)|false=>False)
def wg (y:Bool) (o:Oper) (env:Env) (E:List Chunk) (K:Env->List Chunk->Prop):Prop :=
 match o.op with
 | .call { callee:=.value f,args,.. }=>(match ev env f with
  | .fn (.func i) first captured=>fL (PQ first (PQ (p9 env args.toList) captured)) fun az=>(match FT P i with
   | true=>(match az with|[v]=>PO P i/\fV v fun r=>c4 N o.dst r env fun env=>K env E|_=>False)
   | false=>ab P i az env E fun r env E=>fV r fun r=>c4 N o.dst r env fun env=>K env E)
  | .fn (.yield l) [] []=>(match y with
   | true=>fL (p9 env args.toList) fun az=>sF P S l az env E fun r env E=>fV r fun r=>c4 N o.dst r env fun env=>K env E
   | false=>False)
  | _=>False)
 | .call { callee:=.invoke recv name,args,.. }=>(match ev env recv with
  | .nO t v=>fL (p9 env args.toList) fun az=>lp P t name v az env E fun r env E=>fV r fun r=>c4 N o.dst r env fun env=>K env E
  | _=>False)
 | .alloc e=>eV P (.alloc e) env E fun r env E=>c4 N o.dst r env fun env=>K env E
 | .box e x=>eV P (.box e x) env E fun r env E=>c4 N o.dst r env fun env=>K env E
 | .store t x v=>eV P (.store t x v) env E fun r env E=>c4 N o.dst r env fun env=>K env E
 | .buildSlice t l p=>eV P (.buildSlice t l p) env E fun r env E=>c4 N o.dst r env fun env=>K env E
 | .makeSlice t l c=>eV P (.makeSlice t l c) env E fun r env E=>c4 N o.dst r env fun env=>K env E
 | .makeMap t r=>eV P (.makeMap t r) env E fun r env E=>c4 N o.dst r env fun env=>K env E
 | .insert t m k x=>eV P (.insert t m k x) env E fun r env E=>c4 N o.dst r env fun env=>K env E
 | .mapUpdate t m k x=>eV P (.mapUpdate t m k x) env E fun r env E=>c4 N o.dst r env fun env=>K env E
 | .range t x=>eV P (.range t x) env E fun r env E=>c4 N o.dst r env fun env=>K env E
 | .next x b=>eV P (.next x b) env E fun r env E=>c4 N o.dst r env fun env=>K env E
 | .entry x=>eV P (.entry x) env E fun r env E=>c4 N o.dst r env fun env=>K env E
 | .convert s d x=>(match aS P s,aS P d with
  | some .string,some (.slice _)=>eV P (.convert s d x) env E fun r env E=>c4 N o.dst r env fun env=>K env E
  | _,_=>qV P (.convert s d x) env E fun r=>c4 N o.dst r env fun env=>K env E)
 | .call { callee:=.builtin b,args,argTypes }=>(match b with
  | .append|.copy|.clear|.unsafeString|.delete=>cr P b argTypes.toList (p9 env args.toList) env E fun r env E=>c4 N o.dst r env fun env=>K env E
  | _=>qV P (.call { callee:=.builtin b,args,argTypes }) env E fun r=>c4 N o.dst r env fun env=>K env E)
 | op=>qV P op env E fun r=>c4 N o.dst r env fun env=>K env E
def Mv (o:Oper):Bool :=
 match o.op with
 | .call { callee:=.value _,.. }|.call { callee:=.invoke _ _,.. }|.alloc _|.box _ _|.store _ _ _|.buildSlice _ _ _|.makeSlice _ _ _|.makeMap _ _|.insert _ _ _ _|.mapUpdate _ _ _ _|.range _ _|.next _ _|.entry _=>false
 | .convert s d _=>(match aS P s,aS P d with|some .string,some (.slice _)=>false|_,_=>true)
 | .call { callee:=.builtin b,.. }=>(match b with|.append|.copy|.clear|.unsafeString|.delete=>false|_=>true)
 | _=>true
def sG (ops:List Oper) (j:Nat):Option Nat:=match nth ops j with|some o=>o.dst|none=>none
def jF (y:Bool) (ops:List Oper):List Oper->Env->List Chunk->(Env->List Chunk->Prop)->Prop
 | [],env,E,K=>K env E
 | o::r,env,E,K=>match o.guard with
  | none=>wg P N S y o env E fun env E=>jF y ops r env E K
  | some (j,want)=>(match sG ops j with
   | none=>False
   | some d=>(match look env d with
    | .bool b=>(b ()=want->wg P N S y o ((d,cond want .tt .ff)::env) E fun env E=>jF y ops r env E K) /\
      (b ()=!want->c4 N o.dst .skip ((d,cond want .ff .tt)::env) fun env=>jF y ops r env E K)
    | .tt=>(match want with|true=>wg P N S y o env E fun env E=>jF y ops r env E K|false=>c4 N o.dst .skip env fun env=>jF y ops r env E K)
    | .ff=>(match want with|false=>wg P N S y o env E fun env E=>jF y ops r env E K|true=>c4 N o.dst .skip env fun env=>jF y ops r env E K)
    | .skip=>c4 N o.dst .skip env fun env=>jF y ops r env E K
    | _=>False))
end
section
variable {P:Program} {N M:Nat} {S:Sc} {y:Bool}
theorem sH {B:bS} {g:Gh} {env:Env} {E:List Chunk} {a:Act} {w:World} {d:Option Nat} {v:AV} {u:Value} {K:Env->Prop} (h:Inv B g env E a.tmps w) (hr:R g v u) (hN:a.tmps.size=N) (hk:c4 N d v env K) :
  ∃ aj,Inv B g aj E (a.put d u).tmps w/\(a.put d u).tmps.size=N/\(a.put d u).defers=a.defers/\K aj:=by
 unfold c4 at hk;split at hk
 .exact⟨env,h,hN,rfl,hk⟩
 .rename_i d
  split at hk <;> try exact hk.elim
  rename_i hd;rw[fP]at hk;have lF:d<a.tmps.size:=by rw[hN];exact aaM hd
  exact⟨_,h.put hr lF,by simp[Act.put,hN],rfl,hk⟩
theorem Iv.put {g:Gh} {env:Env} {E:List Chunk} {a:Act} {w:World} {d:Option Nat} {v:AV} {u:Value} {K:Env->Prop} (h:Iv S g env E a w) (hr:R g v u) (hN:a.tmps.size=N) (hk:c4 N d v env K) :
  ∃ aj,Iv S g aj E (a.put d u) w/\(a.put d u).tmps.size=N/\K aj:=by
 obtain⟨B,hB,h,hd⟩:=h;obtain⟨aj,h1,h2,h3,h4⟩:=sH h hr hN hk;exact⟨aj,⟨B,hB,h1,by rw[h3];exact hd⟩,h2,h4⟩
theorem FV {g:Gh} {env:Env} {E:List Chunk} {a:Act} {w:World} {o:Oper} {K:Env->List Chunk->Prop} {next:Act->World->Prop}
  (h:Iv S g env E a w) (hN:a.tmps.size=N) (hk:wg P N S y o env E K)
  (qY:∀ g' aj E' a' w',Iv S g' aj E' a' w'->a'.tmps.size=N->K aj E'->next a' w'):Step y P o a w next:=by
 obtain⟨B,hB,h,IC⟩:=h;have hn:∀ g' aj E' a' w',a'.defers=a.defers->Inv B g' aj E' a'.tmps w'->a'.tmps.size=N->K aj E'->next a' w':=fun g' aj E' a' w' lF h1=>qY g' aj E' a' w' ⟨B,hB,h1,by rw[lF];exact IC⟩;have done:∀ (Kr:AV->Env->List Chunk->Prop),(∀ r env E,Kr r env E->c4 N o.dst r env fun env=>K env E)->(∀ c,o.op≠.defer c)->gV P o a w B Kr->Step y P o a w next:=by
  intro Kr Xx eA ⟨n,c,r,w',g',aj,E',h1,h2,h3,h4,h5⟩;refine⟨eA,_,_,h1,?_⟩;obtain⟨jS,h6,h7,h8,h9⟩:=sH h3 h4 hN (Xx r aj E' h5);rcases h2 with rfl|⟨rfl,rfl⟩
  .exact hn _ _ _ _ _ h8 h6 h7 h9
  .exact hn _ _ _ _ _ h8 h6 h7 h9
 have quiet:∀ op,o.op=op->qV P op env E (fun r=>c4 N o.dst r env fun env=>K env E)->Step y P o a w next:=by
  intro op ho hq;obtain⟨r,c,h1,h2,h3⟩:=K2 h.aW h.er hq o ho;refine⟨fun c e=>?_,_,_,h1,?_⟩
  .rw[<-ho,e]at hq;exact hq
  obtain⟨jS,h6,h7,h8,h9⟩:=sH h h2 hN h3;exact hn _ _ _ _ _ h8 h6 h7 h9
 unfold wg at hk;split at hk
 .rename_i f args ts ho
  split at hk <;> try exact hk.elim
  case h_2 =>
   rename_i l ef;split at hk <;> try exact hk.elim
   rw[fg]at hk;have hf:=h.er.ev f;rw[ef]at hf;have hv:a.eval f=.func (.yield l) #[] #[]:=by
    generalize a.eval f=u at hf;cases hf with|fn _ _ _ vs ws hl k9 hr qS =>
    have e1:vs=#[]:=aa8 (by simpa using hl.symm);have e2:ws=#[]:=aa8 (by simpa using k9.symm);subst e1 e2;rfl
   obtain⟨fn,tm,az,body,h1,h2⟩:=hk.h g a w _ ⟨B,hB,h,IC⟩ (h.er.p9 args.toList);have bh:(execOp a.eval o).run P w=.ok (.round l fn tm az body) w:=by
    have e:(args.map a.eval)=(args.toList.map a.eval).toArray:=by apply abq;simp
    simp[execOp,ho,resolve,hv,Deferred.ofValue,invoke,e,h1]
   refine⟨fun c e=>(by rw[ho]at e;cases e),_,_,bh,?_⟩;refine⟨rfl,h2.mono ?_⟩;rintro e w' ⟨c,r,g',aj,E',rfl,h3,h4,h5⟩;rw[fP]at h5;obtain⟨jS,h6,h7,h9⟩:=h3.put h4 hN h5;exact⟨c,rfl,qY _ _ _ _ _ h6 h7 h9⟩
  rename_i i first captured ef
  rw[fg]at hk;have hf:=h.er.ev f;rw[ef]at hf;obtain⟨vs,ws,hv,nX,sI⟩:∃ vs ws,a.eval f=.func (.func i) vs ws/\RL g first vs.toList/\RL g captured ws.toList:=by
   generalize a.eval f=u at hf;cases hf with|fn _ _ _ vs ws hl k9 hr qS =>
   exact⟨vs,ws,rfl,RL.mk (by simpa using hl) fun i y u h1 h2=>hr i y u h1 (by simpa using h2),RL.mk (by simpa using k9) fun i y u h1 h2=>qS i y u h1 (by simpa using h2)⟩
  have dR:=nX.append ((h.er.p9 args.toList).append sI);rw[FU,FU]at hk;split at hk
  .split at hk <;> try exact hk.elim
   rename_i v e1;rw[e1]at dR;obtain⟨bC,hk⟩:=hk;obtain⟨fn,f1,f2,f3,f4,f5⟩:=bC.h;rw[fP]at hk;obtain⟨u,hu⟩:∃ u,vs.toList++(args.toList.map a.eval++ws.toList)=[u]:=by
    have:=dR.length;match hl:vs.toList++(args.toList.map a.eval++ws.toList),this with
    | [u],_=>exact⟨u,rfl⟩
   have e:(vs++Array.map a.eval args++ws)=#[u]:=by
    apply abq;rw[<-hu];simp
   rw[hu]at dR;have bh:(execOp a.eval o).run P w=.ok (.value u) w:=by
    have:=run_callFunc_extern f1 f2 f3 f4 f5 #[u] w;rw[Lib.run_noEscape]at this;simp[execOp,ho,resolve,hv,Deferred.ofValue,invoke,e,this,Result.andThen]
   exact done (fun r aj E'=>c4 N o.dst r aj fun env=>K env E') (fun _ _ _ h=>h) (fun c e=>by rw[ho]at e;cases e) ⟨_,_,_,_,_,_,_,bh,.inl rfl,h,dR.1,hk⟩
  have sJ:=hk.h B g a.tmps w _ h dR;obtain⟨fn,IA,x7,oR⟩:=hk.aA;have bh:(execOp a.eval o).run P w=.ok (.enter i (vs.toList++(args.toList.map a.eval++ws.toList)).toArray) w:=by
   have hb:fn.body≠none:=by intro e;rw[e]at x7;simp at x7
   have e:(vs++Array.map a.eval args++ws)=(vs.toList++(args.toList.map a.eval++ws.toList)).toArray:=by apply abq;simp
   simp[execOp,ho,resolve,hv,Deferred.ofValue,invoke,callFunc,IA,oR,hb,<-e]
  refine⟨fun c e=>(by rw[ho]at e;cases e),_,_,bh,?_⟩;refine Calls.mono sJ ?_;rintro e w' ⟨c,r,g',aj,E',rfl,h3,h4,h5⟩;rw[fP]at h5;obtain⟨jS,h6,h7,h8,h9⟩:=sH h3 h4 hN h5;exact⟨c,rfl,hn _ _ _ _ _ h8 h6 h7 h9⟩
 .rename_i recv name args ts ho
  split at hk <;> try exact hk.elim
  rename_i t v er;rw[fg]at hk;have hf:=h.er.ev recv;rw[er]at hf;obtain⟨u,hv,hu⟩:∃ u,a.eval recv=.iface t u/\R g v u:=by
   generalize a.eval recv=x at hf;cases hf with|nO _ _ u hu=>exact⟨u,rfl,hu⟩
  obtain⟨i,Sy,hk⟩:=hk.h;have dR:RL g (v::p9 env args.toList) (u::args.toList.map a.eval):=⟨hu,h.er.p9 args.toList⟩
  have sJ:=hk.h B g a.tmps w _ h dR;obtain⟨fn,IA,x7,oR⟩:=hk.aA;have bh:(execOp a.eval o).run P w=.ok (.enter i (u::args.toList.map a.eval).toArray) w:=by
   have hb:fn.body≠none:=by intro e;rw[e]at x7;simp at x7
   have e:(#[u]++(args.map a.eval))=(u::args.toList.map a.eval).toArray:=by apply abq;simp
   have e1:(#[Value.iface t u]++args.map a.eval)[0]?=some (.iface t u):=by rw[Array.getElem?_append];rfl
   have e2:(#[Value.iface t u]++args.map a.eval).extract 1 (#[Value.iface t u]++args.map a.eval).size=args.map a.eval:=by
    apply abq;simp[Array.toList_extract,List.extract];rw[Z6 (by simp)]
   have e3:(callMethod (.iface t u) name (args.map a.eval)).run P w=.ok (.enter i (#[u]++args.map a.eval)) w:=by
    simp[callMethod,Sy.h,callFunc,IA,oR,hb,Result.andThen]
   simp[execOp,ho,resolve,hv];rw[<-e,<-e3];unfold invoke;rw[e1];simp only[e2]
  refine⟨fun c e=>(by rw[ho]at e;cases e),_,_,bh,?_⟩;refine Calls.mono sJ ?_;rintro e w' ⟨c,r,g',aj,E',rfl,h3,h4,h5⟩;rw[fP]at h5;obtain⟨jS,h6,h7,h8,h9⟩:=sH h3 h4 hN h5;exact⟨c,rfl,hn _ _ _ _ _ h8 h6 h7 h9⟩
 .rename_i ho;exact done _ (fun _ _ _ h=>h) (fun c e=>by rw[ho]at e;cases e) (gv h ho hk (fun _ _ _ e=>by cases e))
 .rename_i ho;exact done _ (fun _ _ _ h=>h) (fun c e=>by rw[ho]at e;cases e) (gv h ho hk (fun _ _ _ e=>by cases e))
 .rename_i ho;exact done _ (fun _ _ _ h=>h) (fun c e=>by rw[ho]at e;cases e) (gv h ho hk (fun _ _ _ e=>by cases e))
 .rename_i ho;exact done _ (fun _ _ _ h=>h) (fun c e=>by rw[ho]at e;cases e) (gv h ho hk (fun _ _ _ e=>by cases e))
 .rename_i ho;exact done _ (fun _ _ _ h=>h) (fun c e=>by rw[ho]at e;cases e) (gv h ho hk (fun _ _ _ e=>by cases e))
 .rename_i ho;exact done _ (fun _ _ _ h=>h) (fun c e=>by rw[ho]at e;cases e) (gv h ho hk (fun _ _ _ e=>by cases e))
 .rename_i ho;exact done _ (fun _ _ _ h=>h) (fun c e=>by rw[ho]at e;cases e) (gv h ho hk (fun _ _ _ e=>by cases e))
 .rename_i ho;exact done _ (fun _ _ _ h=>h) (fun c e=>by rw[ho]at e;cases e) (gv h ho hk (fun _ _ _ e=>by cases e))
 .rename_i ho;exact done _ (fun _ _ _ h=>h) (fun c e=>by rw[ho]at e;cases e) (gv h ho hk (fun _ _ _ e=>by cases e))
 .rename_i ho;exact done _ (fun _ _ _ h=>h) (fun c e=>by rw[ho]at e;cases e) (gv h ho hk (fun _ _ _ e=>by cases e))
 .rename_i ho;exact done _ (fun _ _ _ h=>h) (fun c e=>by rw[ho]at e;cases e) (gv h ho hk (fun _ _ _ e=>by cases e))
 .rename_i s d x ho
  split at hk
  .rename_i hs hd;exact done _ (fun _ _ _ h=>h) (fun c e=>by rw[ho]at e;cases e) (gv h ho hk (fun s' d' x' e=>by cases e;exact⟨_,hs⟩))
  .exact quiet _ ho hk
 .rename_i b args ts ho
  split at hk
  .exact done _ (fun _ _ _ h=>h) (fun c e=>by rw[ho]at e;cases e) (gv (op:=.call { callee:=.builtin .append,args:=args,argTypes:=ts }) h ho hk (fun _ _ _ e=>by cases e))
  .exact done _ (fun _ _ _ h=>h) (fun c e=>by rw[ho]at e;cases e) (gv (op:=.call { callee:=.builtin .copy,args:=args,argTypes:=ts }) h ho hk (fun _ _ _ e=>by cases e))
  .exact done _ (fun _ _ _ h=>h) (fun c e=>by rw[ho]at e;cases e) (gv (op:=.call { callee:=.builtin .clear,args:=args,argTypes:=ts }) h ho hk (fun _ _ _ e=>by cases e))
  .exact done _ (fun _ _ _ h=>h) (fun c e=>by rw[ho]at e;cases e) (gv (op:=.call { callee:=.builtin .unsafeString,args:=args,argTypes:=ts }) h ho hk (fun _ _ _ e=>by cases e))
  .exact done _ (fun _ _ _ h=>h) (fun c e=>by rw[ho]at e;cases e) (gv (op:=.call { callee:=.builtin .delete,args:=args,argTypes:=ts }) h ho hk (fun _ _ _ e=>by cases e))
  .exact quiet _ ho hk
 .exact quiet _ rfl hk
theorem oS {g:Gh} {env:Env} {a:Act} {ops:List Oper} {j d:Nat} (hE:ER g env a.tmps) (hd:sG ops j=some d) :
  (∀ b,look env d=.bool b->yielded ⟨ops⟩ a.tmps j=some (b ()))/\(look env d=.tt->yielded ⟨ops⟩ a.tmps j=some true)/\(look env d=.ff->yielded ⟨ops⟩ a.tmps j=some false)/\(look env d=.skip->yielded ⟨ops⟩ a.tmps j=none):=by
 have Al:((⟨ops⟩:Array Oper)[j]?).bind (·.dst)=some d:=by
  unfold sG at hd;rw[gE]at hd;cases ho:ops[j]? with
  | none=>rw[ho]at hd;cases hd
  | some o=>rw[ho]at hd;simp[ho,hd]
 have hr:=hE d;rw[aan]at hr;unfold yielded;rw[Al];simp only[Option.bind_some];refine⟨fun b hb=>?_,fun hb=>?_,fun hb=>?_,fun hb=>?_⟩ <;> rw[hb]at hr <;> cases hx:a.tmps[d]? <;> rw[hx]at hr <;> simp only[Option.getD_none,aby]at hr
 .have:=hr.da;cases this
 .rw[hr.da]
 .have:=hr.km;cases this
 .rw[hr.km]
 .have:=hr.lx;cases this
 .rw[hr.lx]
 .rename_i v
  cases hr;rfl
end
section
variable {P:Program} {N M:Nat} {S:Sc} {y:Bool}
theorem wh {g:Gh} {b:Unit->Bool} {u:Value} {want:Bool} (h:R g (.bool b) u) (hb:b ()=want):R g (cond want .tt .ff) u:=by
 have:=h.da;subst this;rw[hb];cases want
 .exact .ff
 .exact .tt
theorem ER.wi {g:Gh} {env:Env} {tmps:Array Value} (h:ER g env tmps) {d:Nat} {v:AV} (hr:R g v (tmps.getD d Go.undef)):ER g ((d,v)::env) tmps:=by
 intro t;simp only[look];split
 .rename_i hb
  have:d=t:=Z3 hb;subst this;exact hr
 .exact h t
theorem Inv.wi {B:bS} {g:Gh} {env:Env} {E:List Chunk} {tmps:Array Value} {w:World} (h:Inv B g env E tmps w) {d:Nat} {v:AV} (hr:R g v (tmps.getD d Go.undef)):Inv B g ((d,v)::env) E tmps w:=⟨h.er.wi hr,h.aW,h.ext⟩
theorem Iv.wi {g:Gh} {env:Env} {E:List Chunk} {a:Act} {w:World} (h:Iv S g env E a w) {d:Nat} {v:AV} (hr:R g v (a.tmps.getD d Go.undef)):Iv S g ((d,v)::env) E a w:=by
 obtain⟨B,hB,h,hd⟩:=h;exact⟨B,hB,h.wi hr,hd⟩
theorem Iv.same {g:Gh} {env:Env} {E:List Chunk} {a:Act} {w w':World} (h:Iv S g env E a w) (hw:xR w w'):Iv S g env E a w':=by
 obtain⟨B,hB,h,hd⟩:=h;exact⟨B,hB,h.same hw,hd⟩
theorem x8 {ops:List Oper} {o:Oper} {g:Gh} {env:Env} {E:List Chunk} {a:Act} {w:World} {next:Env->List Chunk->Prop} {G:Prop}
  (h:Iv S g env E a w)
  (hk:match o.guard with
   | none=>wg P N S y o env E next
   | some (j,want)=>(match sG ops j with
    | none=>False
    | some d=>(match look env d with
     | .bool b=>(b ()=want->wg P N S y o ((d,cond want .tt .ff)::env) E next)/\(b ()=!want->c4 N o.dst .skip ((d,cond want .ff .tt)::env) fun env=>next env E)
     | .tt=>(match want with|true=>wg P N S y o env E next|false=>c4 N o.dst .skip env fun env=>next env E)
     | .ff=>(match want with|false=>wg P N S y o env E next|true=>c4 N o.dst .skip env fun env=>next env E)
     | .skip=>c4 N o.dst .skip env fun env=>next env E
     | _=>False)))
  (yes:∀ aj,Iv S g aj E a w->Region.wanted o (yielded ⟨ops⟩ a.tmps)=true->wg P N S y o aj E next->G)
  (no:∀ aj,Iv S g aj E a w->Region.wanted o (yielded ⟨ops⟩ a.tmps)=false->c4 N o.dst .skip aj (fun env=>next env E)->G):G:=by
 split at hk
 .rename_i hg
  exact yes env h (by simp[Region.wanted,hg]) hk
 .rename_i j want hg
  split at hk <;> try exact hk.elim
  rename_i d hd;obtain⟨y1,y2,y3,y4⟩:=oS h.er hd;have hr:=h.er d;split at hk <;> try exact hk.elim
  .rename_i b hb
   rw[hb]at hr;have hy:=y1 b hb;by_cases hw:b ()=want
   .exact yes _ (h.wi (wh hr hw)) (by simp[Region.wanted,hg,hy,hw]) (hk.1 hw)
   .have rZ:b ()=!want:=by cases Pz:b () <;> cases want <;> simp_all
    refine no _ (h.wi (v:=cond want .ff .tt) ?_) (by simp[Region.wanted,hg,hy,rZ]) (hk.2 rZ);have:=wh hr rZ;cases want <;> exact this
  .rename_i hb
   have hy:=y2 hb;cases want
   .exact no _ h (by simp[Region.wanted,hg,hy]) hk
   .exact yes _ h (by simp[Region.wanted,hg,hy]) hk
  .rename_i hb
   have hy:=y3 hb;cases want
   .exact yes _ h (by simp[Region.wanted,hg,hy]) hk
   .exact no _ h (by simp[Region.wanted,hg,hy]) hk
  .rename_i hb
   have hy:=y4 hb;exact no _ h (by simp[Region.wanted,hg,hy]) hk
theorem DD {ops r:List Oper} {o:Oper} {env:Env} {E:List Chunk} {K:Env->List Chunk->Prop} (hk:jF P N S y ops (o::r) env E K) :
  match o.guard with
   | none=>wg P N S y o env E fun env E=>jF P N S y ops r env E K
   | some (j,want)=>(match sG ops j with
    | none=>False
    | some d=>(match look env d with
     | .bool b=>(b ()=want->wg P N S y o ((d,cond want .tt .ff)::env) E fun env E=>jF P N S y ops r env E K)/\(b ()=!want->c4 N o.dst .skip ((d,cond want .ff .tt)::env) fun env=>jF P N S y ops r env E K)
     | .tt=>(match want with|true=>wg P N S y o env E fun env E=>jF P N S y ops r env E K|false=>c4 N o.dst .skip env fun env=>jF P N S y ops r env E K)
     | .ff=>(match want with|false=>wg P N S y o env E fun env E=>jF P N S y ops r env E K|true=>c4 N o.dst .skip env fun env=>jF P N S y ops r env E K)
     | .skip=>c4 N o.dst .skip env fun env=>jF P N S y ops r env E K
     | _=>False)):=by
 unfold jF at hk;exact hk
theorem qp {r:Option Nat} {ops:List Oper} {Q:Exit->Act->World->Prop} {K:Env->List Chunk->Prop} (hQ:∀ g env E a w,Iv S g env E a w->a.tmps.size=N->K env E->Q .normal a w) :
  ∀ (l:List Oper) {g:Gh} {env:Env} {E:List Chunk} {a:Act} {w:World},Iv S g env E a w->a.tmps.size=N->jF P N S y ops l env E K->wpListIn (Fr r) 0 P ⟨ops⟩ Q l a w
 | [],g,env,E,a,w,h,hN,hk=>hQ g env E a w h hN hk
 | o::l,g,env,E,a,w,h,hN,hk=>by
  refine x8 (next:=fun env E=>jF P N S y ops l env E K) h (DD hk) (fun aj h' hw hs=>?_) (fun aj h' hw hs=>?_)
  .unfold wpListIn
   rw[Z0 hw];exact(FV h' hN hs fun g' aj E' a' w' h1 h2 h4=>qp hQ l h1 h2 h4).wpIn
  .unfold wpListIn
   rw[ZY (by rw[hw];simp)];obtain⟨jS,h1,h2,h4⟩:=h'.put (R.skip) hN hs;exact⟨fun _ _=>trivial,qp hQ l h1 h2 h4⟩
theorem x9 (w:World):xR w { w with drawn:=w.drawn+1 }:=⟨rfl,rfl,⟨rfl,abQ _⟩,rfl⟩
end
def fB (n:Nat) (K:Nat->Prop):Prop:=match n with|0=>K 0|m+1=>K (m+1)
theorem FW (n:Nat) (K:Nat->Prop):fB n K=K n:=by cases n <;> rfl
mutual
def sV:AV->AV->Prop
 | _,.undef=>True
 | .skip,.skip=>True
 | .int k n,.int k' m=>(match decEq k k' with|isTrue _=>n ()=m ()|isFalse _=>False)
 | .bool b,.bool c=>b ()=c ()
 | .tt,.bool c=>c ()=true
 | .ff,.bool c=>c ()=false
 | .bool b,.tt=>b ()=true
 | .bool b,.ff=>b ()=false
 | .tt,.tt=>True
 | .ff,.ff=>True
 | .str s,.str t=>s ()=t ()
 | .aL t xs,.aL t' ys=>(match decEq t t' with|isTrue h=>np h xs fun xs=>xs ()=ys ()|isFalse _=>False)
 | .aZ,.aZ=>True
 | .agg cs,.agg ds=>Lb cs ds
 | .bQ cs,.bQ ds=>Lb cs ds
 | .bW,.bW=>True
 | .ptr i o,.ptr j p=>(match Nat.beq i j,Nat.beq o p with|true,true=>True|_,_=>False)
 | .bg i s x o,.bg j s' y p=>(match Nat.beq i j,Nat.beq s s',Nat.beq o p with|true,true,true=>x ()=y ()|_,_,_=>False)
 | .dv t x o,.dv t' y p=>(match decEq t t',Nat.beq o p with|isTrue h,true=>KX h x fun x=>x ()=y ()|_,_=>False)
 | .vec i s o n,.vec j s' p m=>(match Nat.beq i j,Nat.beq s s' with|true,true=>o ()=p ()/\n ()=m ()|_,_=>False)
 | .fn f a b,.fn f' a' b'=>(match decEq f f' with|isTrue _=>Lb a a'/\Lb b b'|isFalse _=>False)
 | .gD,.gD=>True
 | .jO,.jO=>True
 | .mp i,.mp j=>(match Nat.beq i j with|true=>True|false=>False)
 | .jP,.jP=>True
 | .hp i f,.hp j h=>(match Nat.beq i j with|true=>f ()=h ()|false=>False)
 | .hm i f,.hm j h=>(match Nat.beq i j with|true=>f ()=h ()|false=>False)
 | _,_=>False
def Lb:List AV->List AV->Prop
 | [],[]=>True
 | a::r,e::s=>sV a e/\Lb r s
 | _,_=>False
end
mutual
theorem Lc {g:Gh}:∀ (a e:AV) (u:Value),sV a e->R g a u->R g e u
 | .agg cs,e,u,h,hr=>by
  cases e <;> simp only[sV]at h <;> try exact h.elim
  .exact .undef _
  .obtain⟨vs,rfl,hl⟩:=hr.gR
   simpa using R.jf (sK cs _ vs.toList h hl)
 | .bQ cs,e,u,h,hr=>by
  cases e <;> simp only[sV]at h <;> try exact h.elim
  .exact .undef _
  .obtain⟨vs,rfl,hl⟩:=hr.rV
   simpa using R.gP (sK cs _ vs.toList h hl)
 | .fn f az bs,e,u,h,hr=>by
  cases e <;> simp only[sV]at h <;> try exact h.elim
  .exact .undef _
  .split at h
   .rename_i hf _
    subst hf;cases hr with|fn _ _ _ vs ws hl k9 hr qS =>
    simpa using R.Dc (f:=f) (sK az _ vs.toList h.1 (RL.mk (by simpa using hl) fun i y u h1 h2=>hr i y u h1 (by simpa using h2))) (sK bs _ ws.toList h.2 (RL.mk (by simpa using k9) fun i y u h1 h2=>qS i y u h1 (by simpa using h2)))
   .exact h.elim
 | .undef,e,u,h,hr=>by cases e <;> simp only[sV]at h <;> first|exact h.elim|exact .undef _
 | .nO _ _,e,u,h,hr=>by cases e <;> simp only[sV]at h <;> first|exact h.elim|exact .undef _
 | .cM _ _,e,u,h,hr=>by cases e <;> simp only[sV]at h <;> first|exact h.elim|exact .undef _
 | .skip,e,u,h,hr=>by cases e <;> simp only[sV]at h <;> first|exact h.elim|exact .undef _|exact hr
 | .int k n,e,u,h,hr=>by
  cases e <;> simp only[sV]at h <;> first|exact h.elim|exact .undef _|skip
  split at h
  .rename_i hk _
   subst hk;rw[hr.bY];exact R.uD h.symm
  .exact h.elim
 | .bool b,e,u,h,hr=>by
  cases e <;> simp only[sV]at h <;> first|exact h.elim|exact .undef _|skip
  .rw[hr.da];exact R.oN h.symm
  .rw[hr.da,h];exact .tt
  .rw[hr.da,h];exact .ff
 | .tt,e,u,h,hr=>by
  cases e <;> simp only[sV]at h <;> first|exact h.elim|exact .undef _|skip
  .rw[hr.km];exact R.oN h
  .exact hr
 | .ff,e,u,h,hr=>by
  cases e <;> simp only[sV]at h <;> first|exact h.elim|exact .undef _|skip
  .rw[hr.lx];exact R.oN h
  .exact hr
 | .str s,e,u,h,hr=>by
  cases e <;> simp only[sV]at h <;> first|exact h.elim|exact .undef _|skip
  rw[hr.gS];exact R.zY (by rw[h])
 | .aL t xs,e,u,h,hr=>by
  cases e <;> simp only[sV]at h <;> first|exact h.elim|exact .undef _|skip
  rename_i t' ys;split at h
  .rename_i ht _
   subst ht;have e:ys=xs:=by funext u;cases u;exact h.symm
   subst e;exact hr
  .exact h.elim
 | .aZ,e,u,h,hr=>by cases e <;> simp only[sV]at h <;> first|exact h.elim|exact .undef _|exact hr
 | .bW,e,u,h,hr=>by cases e <;> simp only[sV]at h <;> first|exact h.elim|exact .undef _|exact hr
 | .gD,e,u,h,hr=>by cases e <;> simp only[sV]at h <;> first|exact h.elim|exact .undef _|exact hr
 | .jO,e,u,h,hr=>by cases e <;> simp only[sV]at h <;> first|exact h.elim|exact .undef _|exact hr
 | .jP,e,u,h,hr=>by cases e <;> simp only[sV]at h <;> first|exact h.elim|exact .undef _|exact hr
 | .mp i,e,u,h,hr=>by
  cases e <;> simp only[sV]at h <;> first|exact h.elim|exact .undef _|skip
  split at h <;> try exact h.elim
  rename_i hb;rw[<-Z3 hb];exact hr
 | .hp i f,e,u,h,hr=>by
  cases e <;> simp only[sV]at h <;> first|exact h.elim|exact .undef _|skip
  rename_i j f';split at h <;> try exact h.elim
  rename_i hb;have e:f'=f:=by funext u;cases u;exact h.symm
  rw[<-Z3 hb,e];exact hr
 | .hm i f,e,u,h,hr=>by
  cases e <;> simp only[sV]at h <;> first|exact h.elim|exact .undef _|skip
  rename_i j f';split at h <;> try exact h.elim
  rename_i hb;have e:f'=f:=by funext u;cases u;exact h.symm
  rw[<-Z3 hb,e];exact hr
 | .ptr i o,e,u,h,hr=>by
  cases e <;> simp only[sV]at h <;> first|exact h.elim|exact .undef _|skip
  split at h <;> try exact h.elim
  rename_i hb ho;rw[<-Z3 hb,<-Z3 ho];exact hr
 | .bg i s x o,e,u,h,hr=>by
  cases e <;> simp only[sV]at h <;> first|exact h.elim|exact .undef _|skip
  rename_i j s' y p;split at h <;> try exact h.elim
  rename_i hb hs ho;have e:y=x:=by funext u;cases u;exact h.symm
  rw[<-Z3 hb,<-Z3 hs,<-Z3 ho,e];exact hr
 | .dv t x o,e,u,h,hr=>by
  cases e <;> simp only[sV]at h <;> first|exact h.elim|exact .undef _|skip
  rename_i t' y p;split at h <;> try exact h.elim
  rename_i ht _ ho;subst ht;have e:y=x:=by funext u;cases u;exact h.symm
  rw[<-Z3 ho,e];exact hr
 | .vec i s o n,e,u,h,hr=>by
  cases e <;> simp only[sV]at h <;> first|exact h.elim|exact .undef _|skip
  rename_i j s' p m;split at h <;> try exact h.elim
  rename_i hb hs;have e1:p=o:=by funext u;cases u;exact h.1.symm
  have e2:m=n:=by funext u;cases u;exact h.2.symm
  rw[<-Z3 hb,<-Z3 hs,e1,e2];exact hr
theorem sK {g:Gh}:∀ (az es:List AV) (us:List Value),Lb az es->RL g az us->RL g es us
 | [],es,us,h,hr=>by
  cases es <;> simp only[Lb]at h
  cases us
  .exact trivial
  .exact hr.elim
 | a::r,es,us,h,hr=>by
  cases es <;> simp only[Lb]at h
  cases us
  .exact hr.elim
  .exact⟨Lc a _ _ h.1 hr.1,sK r _ _ h.2 hr.2⟩
end
def jh (o:Oper):List Nat:=(o.after.toList.filter (fun e=>Region.binds .any e)).map (·.on)
def Mw (cg:List Nat):List Nat->Nat
 | []=>0|d::r=>Nat.lor (Nat.lor (2 ^ d) (cg.getD d 0)) (Mw cg r)
def Mx:List Oper->List Nat->List Nat
 | [],acc=>acc|o::r,acc=>Mx r (acc++[Mw acc (jh o)])
def ya (P:Program) (o:Oper):Bool:=match o.op with|.assign _=>true|_=>!Mv P o
def jT (P:Program):Nat->List Oper->List (Nat×Oper)
 | _,[]=>[]|i,o::r=>match ya P o with|true=>(i,o)::jT P (i+1) r|false=>jT P (i+1) r
def nZ (cg:List Nat) (i:Nat) (D:Nat):List (Nat×Oper)->Bool
 | []=>true
 | p::r=>(match Nat.testBit D p.1 with
  | true=>(match Nat.testBit (cg.getD p.1 0) i with|true=>false|false=>nZ cg i D r)
  | false=>(match Nat.testBit (cg.getD i 0) p.1 with|true=>false|false=>nZ cg i D r))
def sL (cg:List Nat) (i:Nat) (D:Nat):List (Nat×Oper)->Bool
 | []=>true
 | p::r=>(match Nat.testBit D p.1 with
  | true=>sL cg i D r
  | false=>(match Nat.testBit (cg.getD i 0) p.1 with|true=>false|false=>sL cg i D r))
def Am (D:Nat):List (Nat×Oper)->Bool
 | []=>true|p::r=>(match Nat.testBit D p.1 with|true=>Am D r|false=>false)
section
variable (P:Program) (N:Nat) (S:Sc)
def TF (ops:List Oper) (o:Oper) (env:Env) (E:List Chunk) (K:AV->Env->Prop):Prop :=
 match o.guard with
 | none=>qV P o.op env E fun v=>fV v fun v=>K v env
 | some (j,want)=>(match sG ops j with
  | none=>False
  | some d=>(match look env d with
   | .bool b=>(b ()=want->qV P o.op ((d,cond want .tt .ff)::env) E fun v=>fV v fun v=>K v ((d,cond want .tt .ff)::env))/\(b ()=!want->K .skip ((d,cond want .ff .tt)::env))
   | .tt=>(match want with|true=>qV P o.op env E fun v=>fV v fun v=>K v env|false=>K .skip env)
   | .ff=>(match want with|false=>qV P o.op env E fun v=>fV v fun v=>K v env|true=>K .skip env)
   | .skip=>K .skip env
   | _=>False))
def FX (ops:List Oper) (cg:List Nat) (ws:List (Nat×Oper)) (D:Nat) (D0:Option Nat) (E:List Chunk):Nat->List Oper->Env->(Env->Prop)->Prop
 | _,[],env,K=>K env
 | i,o::r,env,K=>match ya P o,nZ cg i D ws with
  | false,true=>(match o.dst with
   | some d=>TF P ops o env E fun v env=>(match D0 with
    | none=>FX ops cg ws D D0 E (i+1) r ((d,v)::env) K
    | some D1=>(match nZ cg i D1 ws with
     | true=>sV (look env d) v/\FX ops cg ws D D0 E (i+1) r ((d,v)::env) K
     | false=>FX ops cg ws D D0 E (i+1) r ((d,v)::env) K))
   | none=>False)
  | _,_=>FX ops cg ws D D0 E (i+1) r env K
def sW (ops:List Oper) (o:Oper) (env:Env) (E:List Chunk) (K:Env->List Chunk->Prop):Prop :=
 match o.guard with
  | none=>wg P N S false o env E K
  | some (j,want)=>(match sG ops j with
   | none=>False
   | some d=>(match look env d with
    | .bool b=>(b ()=want->wg P N S false o ((d,cond want .tt .ff)::env) E K)/\(b ()=!want->c4 N o.dst .skip ((d,cond want .ff .tt)::env) fun env=>K env E)
    | .tt=>(match want with|true=>wg P N S false o env E K|false=>c4 N o.dst .skip env fun env=>K env E)
    | .ff=>(match want with|false=>wg P N S false o env E K|true=>c4 N o.dst .skip env fun env=>K env E)
    | .skip=>c4 N o.dst .skip env fun env=>K env E
    | _=>False))
def u9 (cg:List Nat) (ws:List (Nat×Oper)) (D:Nat) (go:Nat×Oper->Prop):List (Nat×Oper)->Prop
 | []=>True
 | p::r=>match Nat.testBit D p.1 with
  | true=>u9 cg ws D go r
  | false=>(match sL cg p.1 D ws with|true=>go p/\u9 cg ws D go r|false=>u9 cg ws D go r)
def after (ops:List Oper) (cg:List Nat) (ws:List (Nat×Oper)) (D:Nat) (env:Env) (E:List Chunk) (K:Env->List Chunk->Prop) (st:Nat->Env->List Chunk->Prop):Prop :=
 match Am D ws with
 | true=>K env E
 | false=>u9 cg ws D (fun p=>fB (Nat.lor D (2 ^ p.1)) fun D'=>sW P N S ops p.2 env E fun env E=>st D' env E) ws
def lI (ops:List Oper) (cg:List Nat) (ws:List (Nat×Oper)):Nat->Nat->Option Nat->Env->List Chunk->(Env->List Chunk->Prop)->Prop
 | 0,D,D0,env,E,K=>FX P ops cg ws D D0 E 0 ops env fun env=>after P N S ops cg ws D env E K fun _ _ _=>False
 | f+1,D,D0,env,E,K=>FX P ops cg ws D D0 E 0 ops env fun env=>after P N S ops cg ws D env E K fun D' env E=>lI ops cg ws f D' (some D) env E K
end
def lJ (cg:List Nat):Nat->List Oper->Bool
 | _,[]=>true|i,o::r=>Nat.beq (cg.getD i 0) (Mw cg (jh o)) && (jh o).all (fun d=>Nat.blt d i) && lJ cg (i+1) r
def oT (d:Nat) (i:Nat):Nat->List Oper->Bool
 | _,[]=>true|j,o::r=>(Nat.beq i j || !(o.dst == some d)) && oT d i (j+1) r
def lK (P:Program) (cg:List Nat) (i:Nat) (t:Nat):Nat->List Oper->Bool
 | _,[]=>true|j,o::r=>(ya P o || !(o.dst == some t) || Nat.testBit (cg.getD i 0) j) && lK P cg i t (j+1) r
def An (o:Oper):Bool:=match o.op with|.select _ _=>false|.defer _=>false|_=>true
def rh (P:Program) (N:Nat) (ops:List Oper) (cg:List Nat):Nat->List Oper->Bool
 | _,[]=>true
 | i,o::r=>An o && (o.looksAt ⟨ops⟩).all (fun t=>lK P cg i t 0 ops) && (ya P o || (match o.dst with|some d=>Nat.blt d N && oT d i 0 ops|none=>false)) && rh P N ops cg (i+1) r
def sM (P:Program) (N:Nat) (ops:List Oper) (cg:List Nat) (ws:List (Nat×Oper)):Bool:=lJ cg 0 ops && rh P N ops cg 0 ops
theorem wj {cg:List Nat} {j:Nat}:∀ {ds:List Nat},Nat.testBit (Mw cg ds) j=true->∃ d∈ds,j=d\/Nat.testBit (cg.getD d 0) j=true
 | [],h=>by simp[Mw]at h
 | d::r,h=>by
  have h:Nat.testBit ((2 ^ d ||| cg.getD d 0) ||| Mw cg r) j=true:=h;rw[abC,abC,abV,abV]at h;rcases h with(h|h)|h
  .refine⟨d,Z7 ..,.inl ?_⟩
   rw[Nat.testBit_two_pow]at h;simp only[decide_eq_true_eq]at h;omega
  .exact⟨d,Z7 ..,.inr h⟩
  .obtain⟨d',hd,h'⟩:=wj h
   exact⟨d',Z5 _ hd,h'⟩
theorem my {cg:List Nat}:∀ {l:List Oper} {k:Nat},lJ cg k l=true->∀ j o,l[j]?=some o->cg.getD (k+j) 0=Mw cg (jh o)/\∀ d∈jh o,d<k+j
 | [],_,_,j,o,h=>by simp at h
 | c::r,k,h,j,o,hj=>by
  simp only[lJ,aai,abb]at h;cases j with
  | zero=>simp at hj;subst hj;exact⟨Z3 h.1.1,fun d hd=>aaM (h.1.2 d hd)⟩
  | succ j =>
   have:=my h.2 j o (by simpa using hj);rw[show k+(j+1)=k+1+j by omega];exact this
section
variable {ops:List Oper} {cg:List Nat} {ws:List (Nat×Oper)}
def oU (an:Array Bool) (i:Nat):Prop:=an.getD i false=true
theorem n0 (hA:lJ cg 0 ops=true) {an:Array Bool} (hd:∀ i o,ops[i]?=some o->oU an i->∀ d∈jh o,oU an d) :
  ∀ (i:Nat) (o:Oper),ops[i]?=some o->(∀ d∈jh o,oU an d)->∀ j,Nat.testBit (cg.getD i 0) j=true->oU an j:=by
 intro i;induction i using Nat.strongRecOn with
 | _ i ih =>
  intro o ho hl j hj;obtain⟨h1,h2⟩:=my hA i o ho;rw[aaf]at h1 h2;rw[h1]at hj;obtain⟨d,IC,rfl|hb⟩:=wj hj
  .exact hl _ IC
  .have Sz:=h2 d IC
   have dp:=(Z2.1 ho).1;have SA:ops[d]?=some (ops[d]'(by omega)):=Z1 (by omega);exact ih d Sz _ SA (hd d _ SA (hl d IC)) j hb
theorem My (hA:lJ cg 0 ops=true):∀ (i:Nat) (o:Oper),ops[i]?=some o->∀ j,Nat.testBit (cg.getD i 0) j=true->j<i:=by
 intro i;induction i using Nat.strongRecOn with
 | _ i ih =>
  intro o ho j hj;obtain⟨h1,h2⟩:=my hA i o ho;rw[aaf]at h1 h2;rw[h1]at hj;obtain⟨d,IC,rfl|hb⟩:=wj hj
  .exact h2 _ IC
  .have Sz:=h2 d IC
   have dp:=(Z2.1 ho).1;have SA:ops[d]?=some (ops[d]'(by omega)):=Z1 (by omega);exact Nat.lt_trans (ih d Sz _ SA j hb) Sz
theorem lL {i D:Nat}:∀ {ws:List (Nat×Oper)},nZ cg i D ws=true↔∀ p∈ws,(Nat.testBit D p.1=true->Nat.testBit (cg.getD p.1 0) i=false)/\(Nat.testBit D p.1=false->Nat.testBit (cg.getD i 0) p.1=false)
 | []=>by simp[nZ]
 | p::r=>by
  simp only[nZ,List.forall_mem_cons];cases hD:Nat.testBit D p.1 with
  | true =>
   cases hb:Nat.testBit (cg.getD p.1 0) i with
   | true=>simp
   | false=>simp only[lL (ws:=r)];simp
  | false =>
   cases hb:Nat.testBit (cg.getD i 0) p.1 with
   | true=>simp
   | false=>simp only[lL (ws:=r)];simp
theorem yb {i D:Nat}:∀ {ws:List (Nat×Oper)},(∀ p∈ws,Nat.testBit (cg.getD i 0) p.1=true->Nat.testBit D p.1=true)->sL cg i D ws=true
 | [],_=>rfl
 | p::r,h=>by
  have hr:=yb (ws:=r) fun q hq=>h q (Z5 _ hq);simp only[sL];cases hD:Nat.testBit D p.1 with
  | true=>exact hr
  | false =>
   cases hb:Nat.testBit (cg.getD i 0) p.1 with
   | true=>rw[h p (Z7 ..) hb]at hD;cases hD
   | false=>exact hr
theorem BM {D:Nat}:∀ {ws:List (Nat×Oper)},(∀ p∈ws,Nat.testBit D p.1=true)->Am D ws=true
 | [],_=>rfl
 | p::r,h=>by simp only[Am,h p (Z7 ..)];exact BM fun q hq=>h q (Z5 _ hq)
theorem yc {D:Nat} {p:Nat×Oper}:∀ {ws:List (Nat×Oper)},p∈ws->Nat.testBit D p.1=false->Am D ws=false
 | [],h,_=>by simp at h
 | q::r,h,hp=>by
  simp only[Am];cases hD:Nat.testBit D q.1 with
  | false=>rfl
  | true =>
   rcases aaj.1 h with rfl|h
   .rw[hp]at hD;cases hD
   .exact yc h hp
theorem oX {D:Nat} {go:Nat×Oper->Prop} {VS:List (Nat×Oper)}:∀ {ws:List (Nat×Oper)},u9 cg VS D go ws->∀ p∈ws,Nat.testBit D p.1=false->sL cg p.1 D VS=true->go p
 | [],_,p,h,_,_=>by simp at h
 | q::r,hn,p,h,hp,hb=>by
  simp only[u9]at hn;rcases aaj.1 h with rfl|h
  .rw[hp,hb]at hn;exact hn.1
  .split at hn
   .exact oX hn p h hp hb
   .split at hn
    .exact oX hn.2 p h hp hb
    .exact oX hn p h hp hb
theorem sN {d i:Nat}:∀ {l:List Oper} {k:Nat},oT d i k l=true->∀ j o,l[j]?=some o->i=k+j\/o.dst≠some d
 | [],_,_,j,o,h=>by simp at h
 | c::r,k,h,j,o,hj=>by
  simp only[oT,aai,abV,aa4]at h;cases j with
  | zero =>
   simp at hj;subst hj;rcases h.1 with h1|h1
   .exact .inl (Z3 h1)
   .exact .inr (fun e=>by rw[e]at h1;simp at h1)
  | succ j =>
   have:=sN h.2 j o (by simpa using hj);rw[show k+(j+1)=k+1+j by omega];exact this
theorem lM {P:Program} {i t:Nat}:∀ {l:List Oper} {k:Nat},lK P cg i t k l=true->∀ j o,l[j]?=some o->ya P o=false->o.dst=some t->Nat.testBit (cg.getD i 0) (k+j)=true
 | [],_,_,j,o,h,_,_=>by simp at h
 | c::r,k,h,j,o,hj,hw,hd=>by
  simp only[lK,aai,abV,aa4]at h;cases j with
  | zero =>
   simp at hj;subst hj;rcases h.1 with(h1|h1)|h1
   .rw[hw]at h1;cases h1
   .rw[hd]at h1;simp at h1
   .exact h1
  | succ j =>
   have:=lM h.2 j o (by simpa using hj) hw hd;rw[show k+(j+1)=k+1+j by omega];exact this
theorem oY {P:Program} {N:Nat}:∀ {l:List Oper} {k:Nat},rh P N ops cg k l=true->∀ j o,l[j]?=some o ->
  (∀ cs b,o.op≠.select cs b)/\(∀ t∈o.looksAt ⟨ops⟩,lK P cg (k+j) t 0 ops=true)/\(ya P o=false->∃ d,o.dst=some d/\d<N/\oT d (k+j) 0 ops=true)
 | [],_,_,j,o,h=>by simp at h
 | c::r,k,h,j,o,hj=>by
  simp only[rh,aai,abV,abb]at h;cases j with
  | zero =>
   simp at hj;subst hj;refine⟨fun cs b e=>?_,h.1.1.2,fun hw=>?_⟩
   .have:=h.1.1.1;simp[An,e]at this
   .rcases h.1.2 with h1|h1
    .rw[hw]at h1;cases h1
    .split at h1
     .rename_i d hd
      simp only[aai]at h1;exact⟨d,hd,aaM h1.1,h1.2⟩
     .cases h1
  | succ j =>
   have:=oY h.2 j o (by simpa using hj);rw[show k+(j+1)=k+1+j by omega];exact this
theorem vc {o:Oper} {a b:Act} (hs:∀ cs c,o.op≠.select cs c) (h:∀ t∈o.looksAt ⟨ops⟩,a.tmps[t]?=b.tmps[t]?) :
  execOp a.eval o=execOp b.eval o/\Region.wanted o (yielded ⟨ops⟩ a.tmps)=Region.wanted o (yielded ⟨ops⟩ b.tmps):=by
 refine⟨execOp_congr o hs fun x hx=>?_,?_⟩
 .cases x with
  | tmp t =>
   have:=h t (abS _ (List.mem_filterMap.2 ⟨.tmp t,by simpa using hx,rfl⟩));show a.tmps.getD t Go.undef=b.tmps.getD t Go.undef;rw[aan,aan,this]
  | const v=>rfl
  | global n=>rfl
  | func f=>rfl
 .unfold Region.wanted
  cases hg:o.guard with
  | none=>rfl
  | some gw =>
   obtain⟨j,want⟩:=gw;have hy:yielded ⟨ops⟩ a.tmps j=yielded ⟨ops⟩ b.tmps j:=by
    unfold yielded;cases ht:((⟨ops⟩:Array Oper)[j]?).bind (·.dst)with
    | none=>rfl
    | some t =>
     have:=h t (List.mem_append_right _ (by simp only[hg];rw[ht];simp));simp[this]
   simp only[hy]
end
section
variable {P:Program} {N:Nat} {S:Sc} {ops:List Oper} {cg:List Nat} {ws:List (Nat×Oper)}
theorem Mz {o:Oper} {g:Gh} {env:Env} {E:List Chunk} {a:Act} {w:World} {K:AV->Env->Prop} (h:Iv S g env E a w) (hk:TF P ops o env E K) :
  ∃ c v cG,YieldsAt P ⟨ops⟩ w o c a/\Iv S g cG E a w/\R g v c/\K v cG:=by
 have run:∀ cG,Iv S g cG E a w->Region.wanted o (yielded ⟨ops⟩ a.tmps)=true->qV P o.op cG E (fun v=>fV v fun v=>K v cG)->∃ c v cG,YieldsAt P ⟨ops⟩ w o c a/\Iv S g cG E a w/\R g v c/\K v cG:=by
  intro cG h1 hw hq;obtain⟨r,c,h2,h3,h4⟩:=K2 h1.aW h1.er hq o rfl;rw[fP]at h4;exact⟨c,r,cG,.inl ⟨hw,.inl h2⟩,h1,h3,h4⟩
 have skip:∀ cG,Iv S g cG E a w->Region.wanted o (yielded ⟨ops⟩ a.tmps)=false->K .skip cG->∃ c v cG,YieldsAt P ⟨ops⟩ w o c a/\Iv S g cG E a w/\R g v c/\K v cG:=by
  intro cG h1 hw hq;exact⟨Go.undef,.skip,cG,.inr ⟨hw,rfl⟩,h1,.skip,hq⟩
 unfold TF at hk;split at hk
 .rename_i hg
  exact run env h (by simp[Region.wanted,hg]) hk
 .rename_i j want hg
  split at hk <;> try exact hk.elim
  rename_i d hd;obtain⟨y1,y2,y3,y4⟩:=oS h.er hd;have hr:=h.er d;split at hk <;> try exact hk.elim
  .rename_i b hb
   rw[hb]at hr;have hy:=y1 b hb;by_cases hw:b ()=want
   .exact run _ (h.wi (wh hr hw)) (by simp[Region.wanted,hg,hy,hw]) (hk.1 hw)
   .have rZ:b ()=!want:=by cases Pz:b () <;> cases want <;> simp_all
    refine skip _ (h.wi (v:=cond want .ff .tt) ?_) (by simp[Region.wanted,hg,hy,rZ]) (hk.2 rZ);have:=wh hr rZ;cases want <;> exact this
  .rename_i hb
   have hy:=y2 hb;cases want
   .exact skip _ h (by simp[Region.wanted,hg,hy]) hk
   .exact run _ h (by simp[Region.wanted,hg,hy]) hk
  .rename_i hb
   have hy:=y3 hb;cases want
   .exact run _ h (by simp[Region.wanted,hg,hy]) hk
   .exact skip _ h (by simp[Region.wanted,hg,hy]) hk
  .rename_i hb
   have hy:=y4 hb;exact skip _ h (by simp[Region.wanted,hg,hy]) hk
def sO (P:Program) (ops:List Oper) (an:Array Bool) (t:Nat):Prop:=∃ i o,ops[i]?=some o/\ya P o=false/\¬oU an i/\o.dst=some t
def FY (P:Program) (ops:List Oper) (cg:List Nat) (ws:List (Nat×Oper)) (an:Array Bool) (D n:Nat) (a:Act) (w:World):Prop :=
 ∀ i o d,i<n->ops[i]?=some o->ya P o=false->¬oU an i->nZ cg i D ws=true->o.dst=some d->YieldsAt P ⟨ops⟩ w o (a.tmps.getD d Go.undef) a
theorem sP (hA:lJ cg 0 ops=true) (hC:rh P N ops cg 0 ops=true) {an:Array Bool} {D:Nat} {D0:Option Nat} {E:List Chunk} {w:World} {g:Gh} {K:Env->Prop}
  (vd:∀ i o,ops[i]?=some o->ya P o=false->oU an i->nZ cg i D ws=true->∃ D1,D0=some D1/\nZ cg i D1 ws=true) :
  ∀ (l:List Oper) (i0:Nat) (env:Env) (a:Act),ops.drop i0=l->Iv S g env E a w->a.tmps.size=N->FY P ops cg ws an D i0 a w->FX P ops cg ws D D0 E i0 l env K ->
   ∃ aj a',Iv S g aj E a' w/\a'.tmps.size=N/\FY P ops cg ws an D ops.length a' w/\K aj/\a'.defers=a.defers/\∀ t,¬sO P ops an t->a'.tmps[t]?=a.tmps[t]?
 | [],i0,env,a,hl,h,hN,hp,hk=>by
  have:ops.length<=i0:=by
   have:=congrArg List.length hl;simp at this;omega
  exact⟨env,a,h,hN,fun i o d hi=>hp i o d (by omega),hk,rfl,fun _ _=>rfl⟩
 | o::r,i0,env,a,hl,h,hN,hp,hk=>by
  have ho:ops[i0]?=some o:=by
   have:=congrArg (·[0]?) hl;simpa using this
  have k9:ops.drop (i0+1)=r:=by
   have:=congrArg (List.drop 1) hl;simpa [acq]using this
  obtain⟨PR,wk,Al⟩:=oY hC i0 o ho;rw[aaf]at wk Al;have pass:(ya P o=true\/nZ cg i0 D ws=false)->FY P ops cg ws an D (i0+1) a w:=by
   intro hc i o' d hi jU hw hn hm hd;by_cases e:i=i0
   .subst e
    rw[ho]at jU;cases jU;rcases hc with hc|hc
    .rw[hw]at hc;cases hc
    .rw[hm]at hc;cases hc
   .exact hp i o' d (by omega) jU hw hn hm hd
  simp only[FX]at hk;split at hk
  .rename_i hW hM
   split at hk <;> try exact hk.elim
   rename_i d hd;obtain⟨c,v,cG,hy,h1,hr,xD⟩:=Mz h hk;obtain⟨d',lF,PS,Ld⟩:=Al hW;rw[hd]at lF;cases lF;have kW:FX P ops cg ws D D0 E (i0+1) r ((d,v)::cG) K:=by
    split at xD
    .exact xD
    .split at xD
     .exact xD.2
     .exact xD
   by_cases Ao:oU an i0
   .obtain⟨D1,rfl,zN⟩:=vd i0 o ho hW Ao hM
    simp only[zN]at xD;have TG:=Lc _ _ _ xD.1 (h1.er d);refine sP hA hC vd r (i0+1) _ a k9 (h1.wi TG) hN (fun i o' d2 hi jU hw hn hm ET=>?_) kW;by_cases e:i=i0
    .subst e;exact(hn Ao).elim
    .exact hp i o' d2 (by omega) jU hw hn hm ET
   .have hI:Iv S g ((d,v)::cG) E (a.put (some d) c) w:=by
     obtain⟨B,hB,h2,h3⟩:=h1;exact⟨B,hB,h2.put hr (by rw[hN];exact PS),h3⟩
    have bC:∀ t,t≠d->(a.put (some d) c).tmps[t]?=a.tmps[t]?:=fun t ht=>by simp[Act.put,abB (Ne.symm ht)]
    have look:∀ (j:Nat) (o':Oper),j<=i0->ops[j]?=some o'->execOp (a.put (some d) c).eval o'=execOp a.eval o'/\Region.wanted o' (yielded ⟨ops⟩ (a.put (some d) c).tmps)=Region.wanted o' (yielded ⟨ops⟩ a.tmps):=by
     intro j o' hj jU;obtain⟨PT,BN,_⟩:=oY hC j o' jU;rw[aaf]at BN;refine vc PT (fun t ht=>bC t (fun e=>?_));subst e;have:=lM (BN t ht) i0 o ho hW hd;rw[aaf]at this;have:=My hA j o' jU i0 this;omega
    obtain⟨aj,a',e1,e2,e3,e4,e5,e6⟩:=sP hA hC vd r (i0+1) _ (a.put (some d) c) k9 hI (by simp[Act.put,hN]) (fun i o' d2 hi jU hw hn hm ET=>by
     by_cases e:i=i0
     .subst e
      rw[ho]at jU;cases jU;rw[hd]at ET;cases ET;have hc:(a.put (some d) c).tmps.getD d Go.undef=c:=by simp[Act.put,aan,hN,PS]
      rw[hc];obtain⟨l1,l2⟩:=look i o (Z8 _) ho;exact hy.of_same l1 l2
     .obtain⟨l1,l2⟩:=look i o' (by omega) jU
      have TH:d2≠d:=fun e'=>by
       subst e';rcases sN Ld i o' jU with h2|h2
       .omega
       .exact h2 ET
      have hv:(a.put (some d) c).tmps.getD d2 Go.undef=a.tmps.getD d2 Go.undef:=by rw[aan,aan,bC d2 TH]
      rw[hv];exact(hp i o' d2 (by omega) jU hw hn hm ET).of_same l1 l2) kW
    refine⟨aj,a',e1,e2,e3,e4,e5.trans rfl,fun t ht=>?_⟩;rw[e6 t ht];exact bC t (fun e=>ht ⟨i0,o,ho,hW,Ao,by rw[e];exact hd⟩)
  .rename_i hn
   refine sP hA hC vd r (i0+1) env a k9 h hN (pass ?_) hk;cases hW:ya P o with
   | true=>exact .inl rfl
   | false =>
    cases hM:nZ cg i0 D ws with
    | true=>exact(hn hW hM).elim
    | false=>exact .inr rfl
end
section
variable {P:Program} {N:Nat} {S:Sc} {ops:List Oper} {cg:List Nat} {ws:List (Nat×Oper)}
theorem PU {o:Oper} {g:Gh} {env:Env} {E:List Chunk} {a:Act} {w:World} {K:Env->List Chunk->Prop} (h:Iv S g env E a w) (hN:a.tmps.size=N) (hk:sW P N S ops o env E K) :
  (Region.wanted o (yielded ⟨ops⟩ a.tmps)=true/\Step false P o a w (fun a' w'=>∃ g' aj E',Iv S g' aj E' a' w'/\a'.tmps.size=N/\a'.defers=a.defers/\K aj E')) \/
  (Region.wanted o (yielded ⟨ops⟩ a.tmps)=false/\∃ aj,Iv S g aj E (a.put o.dst Go.undef) w/\(a.put o.dst Go.undef).tmps.size=N/\K aj E):=by
 unfold sW at hk;refine x8 (next:=K) (y:=false) h hk (fun aj h' hw hs=>.inl ⟨hw,?_⟩) (fun aj h' hw hs=>.inr ⟨hw,?_⟩)
 .have:=FV (y:=false) (next:=fun a' w'=>∃ g' aj E',Iv S g' aj E' a' w'/\a'.tmps.size=N/\K aj E') h' hN hs (fun g' aj E' a' w' h1 h2 h3=>⟨g',aj,E',h1,h2,h3⟩)
  obtain⟨hd,n,w1,hr,hm⟩:=this;refine⟨hd,n,w1,hr,?_⟩;have up:∀ c w',(∃ g' aj E',Iv S g' aj E' (a.put o.dst c) w'/\(a.put o.dst c).tmps.size=N/\K aj E')->∃ g' aj E',Iv S g' aj E' (a.put o.dst c) w'/\(a.put o.dst c).tmps.size=N/\(a.put o.dst c).defers=a.defers/\K aj E':=by
   rintro c w' ⟨g',aj,E',h1,h2,h3⟩;exact⟨g',aj,E',h1,h2,by cases o.dst <;> rfl,h3⟩
  cases n with
  | value v=>exact up _ _ hm
  | skip=>exact up _ _ hm
  | enter f args=>exact Calls.mono hm (by rintro e w' ⟨c,rfl,hc⟩;exact⟨c,rfl,up _ _ hc⟩)
  | round l f tmps assign body=>exact absurd hm.1 (by simp)
  | _=>exact hm.elim
 .obtain⟨jS,h1,h2,h3⟩:=h'.put (R.skip) hN hs
  exact⟨jS,h1,h2,h3⟩
theorem Step.FZ {o:Oper} {a b:Act} {w:World} {N1 N2:Act->World->Prop} (h:Step false P o b w N1) (he:execOp a.eval o=execOp b.eval o) (hn:∀ c w',N1 (b.put o.dst c) w'->N2 (a.put o.dst c) w'):Step false P o a w N2:=by
 obtain⟨hd,n,w1,hr,hm⟩:=h;refine⟨hd,n,w1,by rw[he];exact hr,?_⟩;cases n with
 | value v=>exact hn _ _ hm
 | skip=>exact hn _ _ hm
 | enter f args=>exact Calls.mono hm (by rintro e w' ⟨c,rfl,hc⟩;exact⟨c,rfl,hn _ _ hc⟩)
 | round l f tmps assign body=>exact absurd hm.1 (by simp)
 | _=>exact hm.elim
theorem yd {an:Array Bool} {i:Nat} (h:i∈Region.ready .any ⟨ops⟩ an):∃ o,ops[i]?=some o/\an.getD i true=false/\∀ d∈jh o,oU an d:=by
 simp only[Region.ready,aa1,abu,aai,aa4]at h;obtain⟨h1,h2,h3⟩:=h;have h1:i<ops.length:=h1;have ho:ops[i]?=some (ops[i]'h1):=Z1 h1;refine⟨_,ho,h2,fun d hd=>?_⟩;have jU:(⟨ops⟩:Array Oper)[i]?=some (ops[i]'h1):=by simp
 rw[jU]at h3;simp only[aaO,aby,Array.all_eq_true']at h3;simp only[jh,aas,aa1]at hd;obtain⟨e,⟨he,hb⟩,rfl⟩:=hd;have:=h3 e (by simpa using he);simp only[hb,Bool.not_true,Bool.false_or]at this;exact this
theorem F0 {an:Array Bool} {i:Nat} {o:Oper} (ho:ops[i]?=some o) (h:an.getD i true=false) (hd:∀ d∈jh o,oU an d):i∈Region.ready .any ⟨ops⟩ an:=by
 simp only[Region.ready,aa1,abu,aai,aa4];have hi:=(Z2.1 ho).1;refine⟨hi,h,?_⟩;have jU:(⟨ops⟩:Array Oper)[i]?=some o:=by simpa using ho
 rw[jU];simp only[aaO,aby,Array.all_eq_true'];intro e he;cases hb:Region.binds .any e with
 | false=>simp
 | true =>
  simp only[Bool.not_true,Bool.false_or];exact hd e.on (by simp only[jh,aas,aa1];exact⟨e,⟨by simpa using he,hb⟩,rfl⟩)
theorem oZ:∀ {l:List Oper} {i:Nat} {p:Nat×Oper},p∈jT P i l->i<=p.1/\l[p.1 - i]?=some p.2/\ya P p.2=true
 | [],_,_,h=>by simp[jT]at h
 | o::r,i,p,h=>by
  simp only[jT]at h;split at h
  .rename_i hw
   rcases aaj.1 h with rfl|h
   .exact⟨Z8 _,by simp,hw⟩
   .obtain⟨h1,h2,h3⟩:=oZ h
    refine⟨by omega,?_,h3⟩;rw[show p.1 - i=(p.1 - (i+1))+1 by omega];simpa using h2
  .obtain⟨h1,h2,h3⟩:=oZ h
   refine⟨by omega,?_,h3⟩;rw[show p.1 - i=(p.1 - (i+1))+1 by omega];simpa using h2
theorem ye:∀ {l:List Oper} {i j:Nat} {o:Oper},l[j]?=some o->ya P o=true->(i+j,o)∈jT P i l
 | [],_,j,o,h,_=>by simp at h
 | c::r,i,0,o,h,hw=>by simp at h;subst h;simp[jT,hw]
 | c::r,i,j+1,o,h,hw=>by
  have:=ye (i:=i+1) (by simpa using h) hw;rw[show i+(j+1)=i+1+j by omega];simp only[jT];split
  .exact Z5 _ this
  .exact this
theorem ji:∀ (l:List Bool) (i:Nat),l[i]?=some false->(l.set i true).count false+1=l.count false
 | [],i,h=>by simp at h
 | b::r,0,h=>by simp at h;subst h;simp
 | b::r,i+1,h=>by
  have:=ji r i (by simpa using h);simp only[List.set_cons_succ,List.count_cons];omega
theorem Jd {an:Array Bool} {i:Nat} (hi:i<an.size) (j:Nat):oU (an.setIfInBounds i true) j↔oU an j\/j=i:=by
 unfold oU;rw[aan,aan];by_cases h:i=j
 .subst h;simp[hi]
 .rw[abB h]
  constructor
  .exact .inl
  .rintro(h'|h')
   .exact h'
   .exact(h h'.symm).elim
theorem yf:∀ {l:List Oper} {k:Nat},rh P N ops cg k l=true->∀ (j:Nat) (o:Oper),l[j]?=some o->∀ c:Call,o.op≠Op.defer c
 | [],_,_,j,o,h=>by simp at h
 | c::r,k,h,j,o,hj=>by
  simp only[rh,aai]at h;cases j with
  | zero =>
   simp at hj;subst hj;intro c e;have:=h.1.1.1;simp[An,e]at this
  | succ j=>exact yf h.2 j o (by simpa using hj)
theorem DE {r:Option Nat} {i:Nat} {o:Oper} {v:Value} {a:Act} {w:World} {Q:Exit->Act->World->Prop} {K:Act->World->Prop} (hi:ops[i]?=some o) (hd:∀ c:Call,o.op≠Op.defer c) (hy:YieldsAt P ⟨ops⟩ w o v a)
  (h:K (a.put o.dst v) w):wpOpIn (Fr r) 0 P ⟨ops⟩ Q i K a w:=by
 have cD:(⟨ops⟩:Array Oper)[i]?=some o:=by simpa using hi
 unfold Go.wpOpIn;rw[cD];simp only;rcases hy with⟨hw,hv|⟨hv,rfl⟩|⟨f,args,hv,hc⟩⟩|⟨hw,rfl⟩
 .rw[Z0 hw]
  refine⟨fun _ _=>trivial,?_⟩;rw[Oper.semAt_eq _ _ _ hd,hv];exact h
 .rw[Z0 hw]
  refine⟨fun _ _=>trivial,?_⟩;rw[Oper.semAt_eq _ _ _ hd,hv];exact h
 .rw[Z0 hw]
  refine⟨fun _ _=>trivial,?_⟩;rw[Oper.semAt_eq _ _ _ hd,hv];exact⟨fun h=>by simp[Fr,Fence.wide]at h,iG.2 (Calls.mono hc (by rintro e w' ⟨rfl,rfl⟩;exact h))⟩
 .rw[ZY (by rw[hw];simp)]
  exact⟨fun _ _=>trivial,h⟩
theorem DF {r:Option Nat} {Q:Exit->Act->World->Prop} {K:Env->List Chunk->Prop} (hA:lJ cg 0 ops=true) (hC:rh P N ops cg 0 ops=true) (PV:ws=jT P 0 ops)
  (hQ:∀ g env E a w,Iv S g env E a w->a.tmps.size=N->K env E->Q .normal a w):∀ (f:Nat) (an:Array Bool) (m D:Nat) (a:Act) (w:World),an.size=ops.length->an.toList.count false<=f ->
  (∀ i o,ops[i]?=some o->oU an i->∀ d∈jh o,oU an d)->(∀ p∈ws,(oU an p.1↔Nat.testBit D p.1=true)) ->
  (∃ g env E b,Iv S g env E b w/\b.tmps.size=N/\a.defers=b.defers/\a.tmps.size=N/\(∀ t,¬sO P ops an t->a.tmps[t]?=b.tmps[t]?)/\FY P ops cg ws an D ops.length b w /\
   Fw.after P N S ops cg ws D env E K fun D' env E=>(match m with|0=>False|m+1=>lI P N S ops cg ws m D' (some D) env E K)) ->
  wpAnyIn (Fr r) 0 P .any ⟨ops⟩ Q f an a w:=by
 have done:∀ (an:Array Bool) (m D:Nat) (a:Act) (w:World),an.size=ops.length->Region.ready .any ⟨ops⟩ an=[]->(∀ p∈ws,(oU an p.1↔Nat.testBit D p.1=true)) ->
   (∃ g env E b,Iv S g env E b w/\b.tmps.size=N/\a.defers=b.defers/\a.tmps.size=N/\(∀ t,¬sO P ops an t->a.tmps[t]?=b.tmps[t]?)/\FY P ops cg ws an D ops.length b w /\
   Fw.after P N S ops cg ws D env E K fun D' env E=>(match m with|0=>False|m+1=>lI P N S ops cg ws m D' (some D) env E K))->Q .normal a w:=by
  intro an m D a w cu hr yg ⟨g,env,E,b,h1,h2,h3,h4,h5,h6,h7⟩;have jG:∀ i,i<ops.length->oU an i:=by
   intro i;induction i using Nat.strongRecOn with
   | _ i ih =>
    intro hi;refine aaG fun hn=>?_;have ho:ops[i]?=some (ops[i]'hi):=Z1 hi;have EO:∀ d∈jh (ops[i]'hi),oU an d:=fun d hd=>by
     have:=(my hA i _ ho).2 d hd;exact ih d (by omega) (by omega)
    have Xy:an.getD i true=false:=by
     unfold oU at hn;rw[aan]at hn ⊢;have:an[i]?=some (an[i]'(by omega)):=aaN (by omega);rw[this]at hn ⊢;simpa using hn
    have:=F0 ho Xy EO;rw[hr]at this;simp at this
  have F1:Am D ws=true:=BM fun p hp=>by
   have hm:p∈jT P 0 ops:=by rw[<-PV];exact hp
   obtain⟨_,h8,_⟩:=oZ hm;exact(yg p hp).1 (jG _ (by simpa using(Z2.1 h8).1))
  unfold Fw.after at h7;rw[F1]at h7;have rB:a=b:=by
   have ht:a.tmps=b.tmps:=by
    apply Array.ext_getElem?;intro t;refine h5 t ?_;rintro⟨i,o,ho,_,hn,_⟩;exact hn (jG i (Z2.1 ho).1)
   cases a;cases b;simp_all
  subst rB;exact hQ g env E a w h1 h2 h7
 intro f;induction f with
 | zero =>
  intro an m D a w cu wm sQ yg fR;have hr:Region.ready .any ⟨ops⟩ an=[]:=by
   cases hr:Region.ready .any ⟨ops⟩ an with
   | nil=>rfl
   | cons i r =>
    obtain⟨o,ho,hl,_⟩:=yd (ops:=ops) (an:=an) (i:=i) (by rw[hr];exact Z7 ..);have hi:=(Z2.1 ho).1;have zZ:an[i]?=some false:=by
     rw[aan]at hl;have:an[i]?=some (an[i]'(by omega)):=aaN (by omega);rw[this]at hl ⊢;simpa using hl
    have:=ji an.toList i (by simpa using zZ);omega
  exact⟨hr,done an m D a w cu hr yg fR⟩
 | succ f ih =>
  intro an m D a w cu wm sQ yg fR;refine⟨fun hr=>done an m D a w cu hr yg fR,fun i hi=>?_⟩;obtain⟨g,env,E,b,h1,h2,h3,h4,h5,h6,h7⟩:=fR;obtain⟨o,ho,hl,EO⟩:=yd hi;have Xz:=(Z2.1 ho).1;have dp:i<an.size:=by omega
  have zZ:an[i]?=some false:=by
   rw[aan]at hl;have:an[i]?=some (an[i]'dp):=aaN dp;rw[this]at hl ⊢;simpa using hl
  have u7:¬oU an i:=by unfold oU;rw[aan,zZ];simp
  have dZ:=Jd (an:=an) dp;have Lf:(an.setIfInBounds i true).toList.count false<=f:=by
   have:=ji an.toList i (by simpa using zZ);rw[Array.toList_setIfInBounds];omega
  have F2:∀ j o,ops[j]?=some o->oU (an.setIfInBounds i true) j->∀ d∈jh o,oU (an.setIfInBounds i true) d:=by
   intro j o' jU hj d hd;rcases(dZ j).1 hj with hj|rfl
   .exact(dZ d).2 (.inl (sQ j o' jU hj d hd))
   .rw[ho]at jU;cases jU
    exact(dZ d).2 (.inl (EO d hd))
  obtain⟨PR,wk,Al⟩:=oY hC i o ho;rw[aaf]at wk Al;have MA:=n0 hA sQ i o ho EO;have TI:∀ t∈o.looksAt ⟨ops⟩,a.tmps[t]?=b.tmps[t]?:=by
   intro t ht;refine h5 t ?_;rintro⟨j,o',jU,rZ,qT,lF⟩;have:=lM (wk t ht) j o' jU rZ lF;rw[aaf]at this;exact qT (MA j this)
  obtain⟨hex,Lg⟩:=vc PR TI;have VT:∀ t,sO P ops (an.setIfInBounds i true) t->sO P ops an t:=by
   rintro t ⟨j,o',jU,rZ,qT,lF⟩;exact⟨j,o',jU,rZ,fun h=>qT ((dZ j).2 (.inl h)),lF⟩
  have Lh:∀ {p:Nat×Oper},p∈ws->ops[p.1]?=some p.2/\ya P p.2=true:=by
   intro p hp;have:p∈jT P 0 ops:=by rw[<-PV];exact hp
   obtain⟨_,h8,h9⟩:=oZ this;exact⟨by simpa using h8,h9⟩
  by_cases hW:ya P o=false
  ·
   obtain⟨d,hd,PS,Ld⟩:=Al hW;have hM:nZ cg i D ws=true:=by
    refine lL.2 (fun p hp=>⟨fun hD=>?_,fun hD=>?_⟩)
    .refine abi.2 fun hb=>?_
     have vX:=(yg p hp).2 hD;obtain⟨PW,_⟩:=Lh hp;exact u7 (n0 hA sQ p.1 p.2 PW (sQ _ _ PW vX) i hb)
    .refine abi.2 fun hb=>?_
     have:=(yg p hp).1 (MA p.1 hb);rw[hD]at this;cases this
   have hy:=h6 i o d Xz ho hW u7 hM hd;have XA:=hy.of_same hex Lg;refine DE ho (yf hC i o ho) XA ?_;refine ih _ m D _ w (by simpa using cu) Lf F2 (fun p hp=>?_) ⟨g,env,E,b,h1,h2,by rw[<-h3];cases o.dst <;> rfl,by rw[hd];simp[Act.put,h4],fun t ht=>?_,fun j o' d' hj jU rZ qT zN lF=>?_,h7⟩
   .rw[dZ]
    constructor
    .rintro(h8|h8)
     .exact(yg p hp).1 h8
     .obtain⟨PW,VU⟩:=Lh hp
      rw[h8,ho]at PW;cases PW;rw[hW]at VU;cases VU
    .exact fun h8=>.inl ((yg p hp).2 h8)
   .rw[hd]
    by_cases Li:t=d
    .have hs:t<a.tmps.size:=by rw[h4,Li];exact PS
     have rG:t<b.tmps.size:=by rw[h2,Li];exact PS
     subst Li;have VV:b.tmps[t]?=some (b.tmps[t]'rG):=aaN rG;rw[VV];simp[Act.put,hs,aan,VV]
    .have:(a.put (some d) (b.tmps.getD d Go.undef)).tmps[t]?=a.tmps[t]?:=by simp[Act.put,abB (Ne.symm Li)]
     rw[this];refine h5 t ?_;rintro⟨j,o',jU,rZ,qT,lF⟩;refine ht ⟨j,o',jU,rZ,fun h=>?_,lF⟩;rcases(dZ j).1 h with h|rfl
     .exact qT h
     .rw[ho]at jU;cases jU
      rw[hd]at lF;cases lF;exact Li rfl
   .exact h6 j o' d' hj jU rZ (fun h=>qT ((dZ j).2 (.inl h))) zN lF
  ·
   have hW:ya P o=true:=by simpa using hW
   have bD:(i,o)∈ws:=by
    rw[PV];have:=ye (P:=P) (i:=0) ho hW;rwa [aaf]at this
   have VW:Nat.testBit D i=false:=by
    refine abi.2 fun hb=>?_;exact u7 ((yg _ bD).2 hb)
   have EU:sL cg i D ws=true:=yb fun p hp hb=>(yg p hp).1 (MA _ hb);unfold Fw.after at h7;rw[yc bD VW]at h7;have h7:=oX h7 (i,o) bD VW EU;simp only[FW]at h7;have TJ:∀ p∈ws,(oU (an.setIfInBounds i true) p.1↔Nat.testBit (Nat.lor D (2 ^ i)) p.1=true):=by
    intro p hp;rw[dZ,yg p hp];show _↔Nat.testBit (D ||| 2 ^ i) p.1=true;rw[abC,Nat.testBit_two_pow,abV,decide_eq_true_eq];constructor
    .rintro(h8|h8)
     .exact .inl h8
     .exact .inr h8.symm
    .rintro(h8|h8)
     .exact .inl h8
     .exact .inr h8.symm
   have next:∀ (c:Value) (w':World) (g':Gh) (aj:Env) (E':List Chunk),Iv S g' aj E' (b.put o.dst c) w'->(b.put o.dst c).tmps.size=N->(match(generalizing:=false) m with|0=>False|m+1=>lI P N S ops cg ws m (Nat.lor D (2 ^ i)) (some D) aj E' K) ->
     wpAnyIn (Fr r) 0 P .any ⟨ops⟩ Q f (an.setIfInBounds i true) (a.put o.dst c) w':=by
    intro c w' g' aj E' hI zX MB;have MC:∀ t,¬sO P ops (an.setIfInBounds i true) t->(a.put o.dst c).tmps[t]?=(b.put o.dst c).tmps[t]?:=by
     intro t ht;have OW:¬sO P ops an t:=by
      rintro⟨m,o',jU,rZ,qT,lF⟩;refine ht ⟨m,o',jU,rZ,fun h=>?_,lF⟩;rcases(dZ m).1 h with h|rfl
      .exact qT h
      .rw[ho]at jU;cases jU
       rw[hW]at rZ;cases rZ
     have rB:=h5 t OW;cases OT:o.dst with
     | none=>simpa [Act.put]using rB
     | some d =>
      by_cases Li:d=t
      .subst Li
       have Mm:a.tmps.size=b.tmps.size:=by rw[h4,h2]
       simp only[Act.put,Array.getElem?_setIfInBounds_self,Mm]
      .simp only[Act.put,abB Li];exact rB
    have vd:∀ j o',ops[j]?=some o'->ya P o'=false->oU (an.setIfInBounds i true) j->nZ cg j (Nat.lor D (2 ^ i)) ws=true->∃ D1,some D=some D1/\nZ cg j D1 ws=true:=by
     intro j o' jU rZ k9 zN;refine⟨D,rfl,lL.2 (fun p hp=>⟨fun hD=>((lL.1 zN) p hp).1 ?_,fun hD=>?_⟩)⟩
     .show Nat.testBit (D ||| 2 ^ i) p.1=true
      rw[abC,hD,Bool.true_or]
     .refine abi.2 fun hb=>?_
      have PX:oU an j:=by
       rcases(dZ j).1 k9 with h|rfl
       .exact h
       .rw[ho]at jU;cases jU
        rw[hW]at rZ;cases rZ
      have:=(yg p hp).1 (n0 hA sQ j o' jU (sQ j o' jU PX) p.1 hb);rw[hD]at this;cases this
    cases m with
    | zero=>exact MB.elim
    | succ m =>
    have fin:∀ (m':Nat),FX P ops cg ws (Nat.lor D (2 ^ i)) (some D) E' 0 ops aj (fun env=>Fw.after P N S ops cg ws (Nat.lor D (2 ^ i)) env E' K fun D' env E=>(match m' with|0=>False|m+1=>lI P N S ops cg ws m D' (some (Nat.lor D (2 ^ i))) env E K)) ->
      wpAnyIn (Fr r) 0 P .any ⟨ops⟩ Q f (an.setIfInBounds i true) (a.put o.dst c) w':=by
     intro m' TK;obtain⟨jS,b',e1,e2,e3,e4,e5,e6⟩:=sP hA hC vd ops 0 aj (b.put o.dst c) (by simp) hI zX (fun m o' d' hm=>by omega) TK;refine ih _ m' (Nat.lor D (2 ^ i)) _ w' (by simpa using cu) Lf F2 TJ ⟨g',jS,E',b',e1,e2,?_,?_,fun t ht=>?_,e3,e4⟩
     .rw[e5]
      have:(a.put o.dst c).defers=a.defers:=by cases o.dst <;> rfl
      have fu:(b.put o.dst c).defers=b.defers:=by cases o.dst <;> rfl
      rw[this,fu,h3]
     .have:(a.put o.dst c).tmps.size=a.tmps.size:=by cases o.dst <;> simp[Act.put]
      rw[this,h4]
     .rw[e6 t ht];exact MC t ht
    cases m with
    | zero=>exact fin 0 MB
    | succ m=>exact fin (m+1) MB
   have OX:(⟨ops⟩:Array Oper)[i]?=some o:=by simpa using ho
   unfold wpOpIn;rw[OX];simp only;rcases PU h1 h2 h7 with⟨Dw,ve⟩|⟨Dw,aj,h8,h9,fu⟩
   .rw[Z0 (by rw[Lg];exact Dw)]
    refine Step.wpIn (ve.FZ hex ?_);rintro c w' ⟨g',aj,E',h8,h9,_,fu⟩;exact next c w' g' aj E' h8 h9 fu
   .rw[ZY (by rw[Lg,Dw];simp)]
    exact⟨fun _ _=>trivial,next _ w g aj E h8 h9 fu⟩
theorem uJ {r:Option Nat} (hm:P.follows .mixedOrders=true) (aw:sM P N ops cg (jT P 0 ops)=true) {Q:Exit->Act->World->Prop} {K:Env->List Chunk->Prop} {id:Nat} {g:Gh} {env:Env} {E:List Chunk} {a:Act} {w:World}
  (hQ:∀ g env E a w,Iv S g env E a w->a.tmps.size=N->K env E->Q .normal a w) (h:Iv S g env E a { w with drawn:=w.drawn+1 }) (hN:a.tmps.size=N) (hk:lI P N S ops cg (jT P 0 ops) (jT P 0 ops).length 0 none env E K) :
  (Code.region id ⟨ops⟩ true).wpIn (Fr r) 0 P Q a w:=by
 simp only[sM,aai]at aw;obtain⟨hA,hC⟩:=aw;refine wpIn_region_any hm ?_;have MD:∀ i,¬oU (Array.replicate ops.length false) i:=by
  intro i;unfold oU;rw[aan];by_cases hi:i<ops.length
  .simp[Array.getElem?_replicate,hi]
  .simp[Array.getElem?_replicate,hi]
 have fin:∀ (m:Nat),FX P ops cg (jT P 0 ops) 0 none E 0 ops env (fun env=>Fw.after P N S ops cg (jT P 0 ops) 0 env E K fun D' env E=>(match m with|0=>False|m+1=>lI P N S ops cg (jT P 0 ops) m D' (some 0) env E K)) ->
   wpAnyIn (Fr r) 0 P .any ⟨ops⟩ Q (⟨ops⟩:Array Oper).size (Array.replicate (⟨ops⟩:Array Oper).size false) a { w with drawn:=w.drawn+1 }:=by
  intro m TK;obtain⟨jS,b',e1,e2,e3,e4,e5,e6⟩:=sP (an:=Array.replicate ops.length false) hA hC (fun i o _ _ hl _=>(MD i hl).elim) ops 0 env a (by simp) h hN (fun m o' d' hm=>by omega) TK;exact DF hA hC rfl hQ _ _ m 0 a _ (by simp) (by simp) (fun i o _ hl=>(MD i hl).elim) (fun p _=>⟨fun hl=>(MD _ hl).elim,fun h=>by simp at h⟩) ⟨g,jS,E,b',e1,e2,e5.symm,hN,fun t ht=>(e6 t ht).symm,e3,e4⟩
 generalize (jT P 0 ops).length=m at hk;cases m with
 | zero=>exact fin 0 hk
 | succ m=>exact fin (m+1) hk
end
def fT (l:List Nat) (K:List Nat->Prop):Prop:=match l with|[]=>K []|n::r=>fB n fun n=>fT r fun r=>K (n::r)
theorem PY (l:List Nat) (K:List Nat->Prop):fT l K=K l:=by
 induction l generalizing K with
 | nil=>rfl
 | cons c r ih=>simp only[fT,FW,ih]
def fW (l:List (Nat×Oper)) (K:List (Nat×Oper)->Prop):Prop:=match l with|[]=>K []|(n,o)::r=>fB n fun n=>fW r fun r=>K ((n,o)::r)
theorem PZ (l:List (Nat×Oper)) (K:List (Nat×Oper)->Prop):fW l K=K l:=by
 induction l generalizing K with
 | nil=>rfl
 | cons c r ih=>cases c;simp only[fW,FW,ih]
structure vf (P:Program) (N:Nat) (S:Sc) (ops:List Oper) (env:Env) (E:List Chunk) (K:Env->List Chunk->Prop):Prop where
 h:fT (Mx ops []) fun cg=>fW (jT P 0 ops) fun ws=>lI P N S ops cg ws ws.length 0 none env E K
section
variable (P:Program) (N:Nat) (S:Sc)
def fl (M:List Bool):Code->Env->List Chunk->(Ex->Env->List Chunk->Prop)->Prop
 | .skip,env,E,K=>K .normal env E
 | .label _,env,E,K=>K .normal env E
 | .region _ ⟨ops⟩ false,env,E,K=>jF P N S true ops ops env E (K .normal)
 | .region _ ⟨ops⟩ true,env,E,K=>Cl (fun _=>sM P N ops (Mx ops []) (jT P 0 ops)=true)/\vf P N S ops env E (K .normal)
 | .seq a b,env,E,K=>fl M a env E fun e env E=>match e with|.normal=>aB P N S M b env E K|.ret=>K .ret env E|.exit n=>K (.exit n) env E
 | .cond c t f,env,E,K=>(match ev env c with
  | .bool b=>(b ()=true->fl M t env E K)/\(b ()=false->fl M f env E K)
  | .tt=>fl M t env E K
  | .ff=>fl M f env E K
  | _=>False)
 | .block id b,env,E,K=>fl M b env E fun e env E=>match e with
  | .exit n=>(match Nat.beq n id with|true=>K .normal env E|false=>K (.exit n) env E)
  | .normal=>K .normal env E|.ret=>K .ret env E
 | .exit n,env,E,K=>K (.exit n) env E
 | .ret,env,E,K=>K .ret env E
 | .loop b,env,E,K=>aM P N S M b env E K
 | .scope b,env,E,K=>fl M b env E K
 | c,env,E,K=>aB P N S M c env E K
end
section
variable {P:Program} {N:Nat} {M:List Bool} {S:Sc} {y:Bool}
theorem n4 {r:Option Nat} {a b c:Bool} (h:r=none\/c=true) (hc:c=(a && b)):(r=none\/a=true)/\(r=none\/b=true):=by
 subst hc;rcases h with h|h
 .exact⟨.inl h,.inl h⟩
 .rw[aai]at h;exact⟨.inr h.1,.inr h.2⟩
theorem fm {b:Frame} {a:Act} {k:List Item} {cs:List Frame} {w:World} {c:Code}:step P (lone (b.atR a (.code (.scope c)::k)) cs w)=.next (lone (b.atR a (.code c::.inScope c::k)) cs w) :=
 step_lone_go (by simp[stepG,stepG.exec,Frame.atR])
theorem uK {b:Frame} {a:Act} {k:List Item} {cs:List Frame} {w:World} {c:Code}:step P (lone (b.atR a (.inScope c::k)) cs w)=.next (lone (b.atR a k) cs w) :=
 step_lone_go (by simp[stepG,stepG.exec,Frame.atR])
theorem Ap {F:Fence} {n:Nat} {Q:Exit->Act->World->Prop} {a:Act} {w:World} {c:Code} (hQ:∀ l a w,¬Q (.goto l) a w) (h:c.wpIn F n P Q a w):(Code.scope c).wpIn F n P Q a w:=by
 intro b k cs XB hb hr;have h0:(lone (b.atR a (.code (.scope c)::k)) cs w).fenced P F:=fenced_calm hb hr rfl;obtain⟨e,a₁,w₁,hq,sA⟩:=h b (.inScope c::k) cs XB hb hr;cases e with
 | normal=>exact⟨.normal,a₁,w₁,hq,.head h0 fm (StepsIn.trans sA (.one (fenced_calm hb hr rfl) uK))⟩
 | exit id =>
  have hx:exitTo id (.inScope c::k)=exitTo id k:=by simp[exitTo]
  exact⟨.exit id,a₁,w₁,hq,fun k' hk=>.head h0 fm (sA.1 k' (by rw[hx];exact hk)),
   fun qS hk=>let ⟨k₁,h1,h2⟩:=sA.2 qS (by rw[hx];exact hk);⟨k₁,h1,.head h0 fm h2⟩⟩
 | goto l=>exact(hQ _ _ _ hq).elim
 | ret=>exact⟨_,a₁,w₁,hq,.of_steps (.one h0 fm) sA⟩
 | panic ch=>exact⟨_,a₁,w₁,hq,.of_steps (.one h0 fm) sA⟩
 | outgrown=>exact⟨_,a₁,w₁,hq,.of_steps (.one h0 fm) sA⟩
theorem iH (hm:P.follows .mixedOrders=true) (hM:∀ B,S.at_ B->bw B.E=M):∀ (c:Code) (r:Option Nat),(r=none\/eR c=true)->∀ {K:Ex->Env->List Chunk->Prop} {g:Gh} {env:Env} {E:List Chunk} {a:Act} {w:World},Iv S g env E a w->a.tmps.size=N ->
  fl P N S M c env E K->c.wpIn (Fr r) 0 P (Ak S N K) a w:=by
 intro c;induction c with
 | skip=>intro r hr K g env E a w h hN hk;exact wpIn_skip ⟨.normal,g,env,E,rfl,h,hN,hk⟩
 | label l=>intro r hr K g env E a w h hN hk;exact wpIn_label ⟨.normal,g,env,E,rfl,h,hN,hk⟩
 | region id ops draw =>
  intro r hr K g env E a w h hN hk;obtain⟨ops⟩:=ops;cases draw with
  | false =>
   exact wpIn_region_list (qp (Q:=Ak S N K) (fun g env E a w h1 h2 h4=>⟨.normal,g,env,E,rfl,h1,h2,h4⟩) ops h hN hk)
  | true =>
   simp only[fl]at hk;have h':=h.same (x9 w);have fin:∀ (g:Gh) (env:Env) (E:List Chunk) (a:Act) (w:World),Iv S g env E a w->a.tmps.size=N->K .normal env E->Ak S N K .normal a w :=
    fun g env E a w h1 h2 h4=>⟨.normal,g,env,E,rfl,h1,h2,h4⟩
   have yh:=hk.2.h;rw[PY,PZ]at yh;exact uJ hm hk.1.h (fun g env E a w h1 h2 h3=>fin g env E a w h1 h2 h3) h' hN yh
 | seq x y SB TL =>
  intro r hr K g env E a w h hN hk;obtain⟨nX,sI⟩:=n4 hr rfl;refine wpIn_seq (ab9 (SB r nX h hN hk) ?_);rintro e a' w' ⟨e',g',aj,E',rfl,h1,h2,h4⟩;cases e' with
  | normal=>exact h4.h r g' a' w' sI hM h1 h2
  | ret=>exact⟨.ret,g',aj,E',rfl,h1,h2,h4⟩
  | exit n=>exact⟨.exit n,g',aj,E',rfl,h1,h2,h4⟩
 | cond c x y SB TL =>
  intro r hr K g env E a w h hN hk;obtain⟨nX,sI⟩:=n4 hr rfl;have hc:=h.er.ev c;simp only[fl]at hk;split at hk <;> try exact hk.elim
  .rename_i b e
   rw[e]at hc;have hc:=hc.da;cases hb:b ()
   .rw[hb]at hc;exact wpIn_cond_false hc (TL r sI h hN (hk.2 hb))
   .rw[hb]at hc;exact wpIn_cond_true hc (SB r nX h hN (hk.1 hb))
  .rename_i e
   rw[e]at hc;exact wpIn_cond_true hc.km (SB r nX h hN hk)
  .rename_i e
   rw[e]at hc;exact wpIn_cond_false hc.lx (TL r sI h hN hk)
 | block id b ih =>
  intro r hr K g env E a w h hN hk;refine wpIn_block (ab9 (ih r hr h hN hk) ?_);rintro e a' w' ⟨e',g',aj,E',rfl,h1,h2,h4⟩;cases e' with
  | normal=>exact⟨.normal,g',aj,E',rfl,h1,h2,h4⟩
  | ret=>exact⟨.ret,g',aj,E',rfl,h1,h2,h4⟩
  | exit n =>
   simp only[]at h4;show(if n=id then Ak S N K .normal a' w' else Ak S N K (.exit n) a' w');split at h4
   .rename_i hn
    rw[Z0 (Z3 hn)];exact⟨.normal,g',aj,E',rfl,h1,h2,h4⟩
   .rename_i hn
    rw[ZY (fun e=>by subst e;simp at hn)];exact⟨.exit n,g',aj,E',rfl,h1,h2,h4⟩
 | loop b ih=>intro r hr K g env E a w h hN hk;exact hk.h r g a w hr hM h hN
 | rangeFunc f ps az b VL VM=>intro r hr K g env E a w h hN hk;exact hk.h r g a w hr hM h hN
 | exit n=>intro r hr K g env E a w h hN hk;exact wpIn_exit ⟨.exit n,g,env,E,rfl,h,hN,hk⟩
 | scope b ih =>
  intro r hr K g env E a w h hN hk;refine Ap ?_ (ih r hr h hN hk);rintro l a' w' ⟨e',g',aj,E',h1,_⟩;cases e' <;> cases h1
 | goto l=>intro r hr K g env E a w h hN hk;exact hk.h r g a w hr hM h hN
 | ret=>intro r hr K g env E a w h hN hk;exact wpIn_ret ⟨.ret,g,env,E,rfl,h,hN,hk⟩
 | refuse s=>intro r hr K g env E a w h hN hk;exact hk.h r g a w hr hM h hN
def P0:Code->Bool
 | .rangeFunc _ _ _ _=>false|.scope _=>true|.skip=>true|.label _=>true|.region _ _ _=>true|.seq _ _=>true|.cond _ _ _=>true|.block _ _=>true|.exit _=>true|.ret=>true|.loop _=>true|_=>false
theorem aB.step (hm:P.follows .mixedOrders=true) {c:Code} {env:Env} {E:List Chunk} {K:Ex->Env->List Chunk->Prop} (hs:P0 c=true) (h:fl P N S M c env E K):aB P N S M c env E K where
 h:=fun r g a w hr hM hi hN=>iH hm hM c r hr hi hN h
end
def wo (π:List Nat) (i j:Nat):Bool:=match nth π j with|some k=>Nat.beq k i|none=>false
mutual
def oG (π:List Nat):AV->AV->Prop
 | a,.undef=>True
 | .skip,.skip=>True
 | .int k n,.int k' m=>(match decEq k k' with|isTrue _=>n ()=m ()|isFalse _=>False)
 | .bool b,.bool c=>b ()=c ()
 | .tt,.bool c=>c ()=true
 | .ff,.bool c=>c ()=false
 | .bool b,.tt=>b ()=true
 | .bool b,.ff=>b ()=false
 | .tt,.tt=>True
 | .ff,.ff=>True
 | .str s,.str t=>s ()=t ()
 | .aL t xs,.aL t' ys=>(match decEq t t' with|isTrue h=>np h xs fun xs=>xs ()=ys ()|isFalse _=>False)
 | .aZ,.aL _ ys=>ys ()=[]
 | .aZ,.aZ=>True
 | .agg cs,.agg ds=>r0 π cs ds
 | .bQ cs,.bQ ds=>r0 π cs ds
 | .bW,.bW=>True
 | .ptr i o,.ptr j p=>(match wo π i j,Nat.beq o p with|true,true=>True|_,_=>False)
 | .bg i s x o,.bg j s' y p=>(match wo π i j,Nat.beq s s',Nat.beq o p with|true,true,true=>x ()=y ()|_,_,_=>False)
 | .dv t x o,.dv t' y p=>(match decEq t t',Nat.beq o p with|isTrue h,true=>KX h x fun x=>x ()=y ()|_,_=>False)
 | .cM cs o,.cM ds p=>(match Nat.beq o p with|true=>r0 π cs ds|false=>False)
 | .vec i s o n,.vec j s' p m=>(match wo π i j,Nat.beq s s' with|true,true=>o ()=p ()/\n ()=m ()|_,_=>False)
 | .fn f a b,.fn f' a' b'=>(match decEq f f' with|isTrue _=>r0 π a a'/\r0 π b b'|isFalse _=>False)
 | .gD,.gD=>True
 | .nO t v,.nO t' v'=>(match Nat.beq t t' with|true=>oG π v v'|false=>False)
 | .jO,.jO=>True
 | .mp i,.mp j=>(match wo π i j with|true=>True|false=>False)
 | .jP,.jP=>True
 | .hp i f,.hp j h=>(match wo π i j with|true=>f ()=h ()|false=>False)
 | .hm i f,.hm j h=>(match wo π i j with|true=>f ()=h ()|false=>False)
 | _,_=>False
def r0 (π:List Nat):List AV->List AV->Prop
 | [],[]=>True
 | a::r,e::s=>oG π a e/\r0 π r s
 | _,_=>False
end
def rH (π:List Nat):Chunk->Chunk->Prop
 | _,.none=>True
 | .cells T cs,.cells T' ds=>(match Nat.beq T T' with|true=>r0 π cs ds|false=>False)
 | .aq T t xs,.aq T' t' ys=>(match Nat.beq T T',decEq t t' with|true,isTrue h=>np h xs fun xs=>xs ()=ys ()|_,_=>False)
 | .count k,.count m=>k ()=m ()
 | .row T t xs,.row T' t' ys=>(match Nat.beq T T',decEq t t' with|true,isTrue h=>np h xs fun xs=>xs ()=ys ()|_,_=>False)
 | .aq T t xs,.row T' t' ys=>(match Nat.beq T T',decEq t t' with|true,isTrue h=>np h xs fun xs=>xs ()=ys ()|_,_=>False)
 | .jd k ks us,.jd k' TM vs=>(match decEq k k',decEq ks TM with|isTrue _,isTrue _=>r0 π us vs|_,_=>False)
 | .heap h,.heap h'=>Hp.dN (h' ()) (h ())
 | .iZ T cs,.iZ T' ds=>(match Nat.beq T T' with|true=>r0 π cs ds|false=>False)
 | .bq q,.bq q'=>q=q'
 | .je x a b l,.je y a' b' l'=>oG π x y/\a=a'/\b=b'/\l ()=l' ()
 | _,_=>False
def o0 (π:List Nat) (E:List Chunk):List Nat->List Chunk->Prop
 | [],[]=>True
 | i::r,c::s=>rH π (af E i) c/\o0 π E r s
 | _,_=>False
def BO (π:List Nat) (env:Env):Env->Prop
 | []=>True
 | (t,v)::r=>oG π (look env t) v/\BO π env r
def Gh.dC (g:Gh) (π:List Nat):Gh :=
 { n:=π.length,Φ:=g.Φ,B:=fun j=>g.B (π[j]?.getD 0),V:=fun j=>g.V (π[j]?.getD 0),L:=fun j=>g.L (π[j]?.getD 0),k:=g.k,W:=fun j=>g.W (π[j]?.getD 0),M:=fun j=>g.M (π[j]?.getD 0) }
theorem kv {π:List Nat} {i j:Nat} (h:wo π i j=true):π[j]?=some i:=by
 unfold wo at h;rw[gE]at h;split at h
 .rename_i k hk;rw[hk,Z3 h]
 .cases h
theorem mz {π:List Nat} {i j:Nat} (h:wo π i j=true):j<π.length:=(Z2.1 (kv h)).1
theorem fF (g:Gh) {π:List Nat} {i j:Nat} (h:π[j]?=some i):(g.dC π).B j=g.B i/\(g.dC π).V j=g.V i/\(g.dC π).L j=g.L i:=by simp[Gh.dC,h]
theorem o3 (g:Gh) {π:List Nat} {i j:Nat} (h:π[j]?=some i):(g.dC π).W j=g.W i/\(g.dC π).M j=g.M i:=by simp[Gh.dC,h]
theorem R.yi {g:Gh} {π:List Nat} {t:Ty} {x:Unit->t.den} {j:Nat} {y:AV} (hy:(enc t x [])[j]?=some y) {u:Value} (h:R g y u):R (g.dC π) y u:=by
 have:=R.map (g:=g) (g':=g.dC π) (fun _=>.undef) (fun _ _ h=>h) (fun v u _ _=>.undef u) h;rwa [il _ t x j y hy]at this
mutual
theorem wq {g:Gh} {π:List Nat}:∀ (a e:AV) (u:Value),oG π a e->R g a u->R (g.dC π) e u
 | .agg cs,e,u,h,hr=>by
  cases e <;> simp only[oG]at h <;> try exact h.elim
  .exact .undef _
  .obtain⟨vs,rfl,hl⟩:=hr.gR
   have:=R.jf (eT cs _ vs.toList h hl);simpa using this
 | .bQ cs,e,u,h,hr=>by
  cases e <;> simp only[oG]at h <;> try exact h.elim
  .exact .undef _
  .obtain⟨vs,rfl,hl⟩:=hr.rV
   have:=R.gP (eT cs _ vs.toList h hl);simpa using this
 | .fn f az bs,e,u,h,hr=>by
  cases e <;> simp only[oG]at h <;> try exact h.elim
  .exact .undef _
  .split at h
   .rename_i hf _
    subst hf;cases hr with|fn _ _ _ vs ws hl k9 hr qS =>
    have:=R.Dc (f:=f) (eT az _ vs.toList h.1 (RL.mk (by simpa using hl) fun i y u h1 h2=>hr i y u h1 (by simpa using h2))) (eT bs _ ws.toList h.2 (RL.mk (by simpa using k9) fun i y u h1 h2=>qS i y u h1 (by simpa using h2)));simpa using this
   .exact h.elim
 | .nO t v,e,u,h,hr=>by
  cases e <;> simp only[oG]at h <;> try exact h.elim
  .exact .undef _
  .split at h
   .rename_i ht
    have ht:=Z3 ht;subst ht;cases hr with|nO _ _ u hr =>
    exact .nO _ _ _ (wq v _ u h hr)
   .exact h.elim
 | .undef,e,u,h,hr=>by cases e <;> simp only[oG]at h <;> first|exact h.elim|exact .undef _
 | .skip,e,u,h,hr=>by
  cases e <;> simp only[oG]at h <;> first|exact h.elim|exact .undef _|skip
  cases hr;exact .skip
 | .int k n,e,u,h,hr=>by
  cases e <;> simp only[oG]at h <;> first|exact h.elim|exact .undef _|skip
  split at h
  .rename_i hk _
   subst hk;rw[hr.bY];exact R.uD h.symm
  .exact h.elim
 | .bool b,e,u,h,hr=>by
  cases e <;> simp only[oG]at h <;> first|exact h.elim|exact .undef _|skip
  .rw[hr.da];exact R.oN h.symm
  .rw[hr.da,h];exact .tt
  .rw[hr.da,h];exact .ff
 | .tt,e,u,h,hr=>by
  cases e <;> simp only[oG]at h <;> first|exact h.elim|exact .undef _|skip
  .rw[hr.km];exact R.oN h
  .rw[hr.km];exact .tt
 | .ff,e,u,h,hr=>by
  cases e <;> simp only[oG]at h <;> first|exact h.elim|exact .undef _|skip
  .rw[hr.lx];exact R.oN h
  .rw[hr.lx];exact .ff
 | .str s,e,u,h,hr=>by
  cases e <;> simp only[oG]at h <;> first|exact h.elim|exact .undef _|skip
  rw[hr.gS];exact R.zY (by rw[h])
 | .aL t xs,e,u,h,hr=>by
  cases e <;> simp only[oG]at h <;> first|exact h.elim|exact .undef _|skip
  rename_i t' ys;split at h
  .rename_i ht _
   subst ht;have e:ys=xs:=by funext u;cases u;exact h.symm
   subst e;cases hr with|aL _ _ A c u hc hm ha hr =>
   exact .aL t ys A c u hc hm ha (fun i x j y h1 h2=>(hr i x j y h1 h2).yi h2)
  .exact h.elim
 | .aZ,e,u,h,hr=>by
  cases e <;> simp only[oG]at h <;> first|exact h.elim|exact .undef _|skip
  .rename_i t ys
   cases hr;have e:ys=fun _=>[]:=by funext u;cases u;exact h
   subst e;exact qc _ _
  .cases hr;exact .aZ
 | .bW,e,u,h,hr=>by
  cases e <;> simp only[oG]at h <;> first|exact h.elim|exact .undef _|skip
  cases hr;exact .bW
 | .gD,e,u,h,hr=>by
  cases e <;> simp only[oG]at h <;> first|exact h.elim|exact .undef _|skip
  cases hr;exact .gD
 | .jO,e,u,h,hr=>by
  cases e <;> simp only[oG]at h <;> first|exact h.elim|exact .undef _|skip
  cases hr;exact .jO
 | .jP,e,u,h,hr=>by
  cases e <;> simp only[oG]at h <;> first|exact h.elim|exact .undef _|skip
  cases hr;exact .jP
 | .mp i,e,u,h,hr=>by
  cases e <;> simp only[oG]at h <;> first|exact h.elim|exact .undef _|skip
  split at h <;> try exact h.elim
  rename_i hb;cases hr;rw[<-(fF g (kv hb)).1];exact .mp _ (mz hb)
 | .hp i f,e,u,h,hr=>by
  cases e <;> simp only[oG]at h <;> first|exact h.elim|exact .undef _|skip
  rename_i j f';split at h <;> try exact h.elim
  rename_i hb;have e:f'=f:=by funext u;cases u;exact h.symm
  subst e;have hW:=o3 g (kv hb);cases hr with|hp _ _ hi hf =>
  have:=R.hp (g:=g.dC π) j f' (mz hb) (fun x hx=>by rw[hW.2];exact hf x hx);rw[hW.1]at this;exact this
 | .hm i f,e,u,h,hr=>by
  cases e <;> simp only[oG]at h <;> first|exact h.elim|exact .undef _|skip
  rename_i j f';split at h <;> try exact h.elim
  rename_i hb;have e:f'=f:=by funext u;cases u;exact h.symm
  subst e;have hW:=o3 g (kv hb);cases hr with|hm _ _ hi hf =>
  have:=R.hm (g:=g.dC π) j f' (mz hb) (by rw[hW.2];exact hf);rw[hW.1]at this;exact this
 | .ptr i o,e,u,h,hr=>by
  cases e <;> simp only[oG]at h <;> first|exact h.elim|exact .undef _|skip
  split at h <;> try exact h.elim
  rename_i hb ho;have ho:=Z3 ho;subst ho;cases hr;rw[<-(fF g (kv hb)).1];exact .ptr _ _ (mz hb)
 | .bg i s x o,e,u,h,hr=>by
  cases e <;> simp only[oG]at h <;> first|exact h.elim|exact .undef _|skip
  rename_i j s' y p;split at h <;> try exact h.elim
  rename_i hb hs ho;have ho:=Z3 ho;have hs:=Z3 hs;subst ho hs;have e:y=x:=by funext u;cases u;exact h.symm
  subst e;cases hr with|bg _ _ _ _ hi hL =>
  have nx:=fF g (kv hb);rw[<-nx.1];exact .bg _ _ _ _ (mz hb) (by rw[nx.2.2];exact hL)
 | .dv t x o,e,u,h,hr=>by
  cases e <;> simp only[oG]at h <;> first|exact h.elim|exact .undef _|skip
  rename_i t' y p;split at h <;> try exact h.elim
  rename_i ht _ ho;have ho:=Z3 ho;subst ho ht;have e:y=x:=by funext u;cases u;exact h.symm
  subst e;cases hr with|dv _ _ _ b ob u ha hr =>
  exact .dv t _ o b ob u ha (fun j y hy=>(hr j y hy).yi hy)
 | .cM cs o,e,u,h,hr=>by
  cases e <;> simp only[oG]at h <;> first|exact h.elim|exact .undef _|skip
  rename_i ds p;split at h <;> try exact h.elim
  rename_i ho;have ho:=Z3 ho;subst ho;cases hr with|cM _ _ b ob u ha hr =>
  have hl:=eT cs ds _ h (qb cs u hr);have hlen:ds.length=cs.length:=by simpa using hl.length
  refine .cM ds o b ob u (fun j y hy=>?_) (fun j y hy=>?_)
  .have hj:j<cs.length:=by rw[<-hlen];exact(Z2.1 hy).1
   exact ha j _ (Z1 hj)
  .have hj:j<cs.length:=by rw[<-hlen];exact(Z2.1 hy).1
   exact hl.at_ j y (u j) hy (by simp[hj])
 | .vec i s o n,e,u,h,hr=>by
  cases e <;> simp only[oG]at h <;> first|exact h.elim|exact .undef _|skip
  rename_i j s' p m;split at h <;> try exact h.elim
  rename_i hb hs;have hs:=Z3 hs;subst hs;have e1:p=o:=by funext u;cases u;exact h.1.symm
  have e2:m=n:=by funext u;cases u;exact h.2.symm
  subst e1 e2;cases hr with|vec _ _ _ _ A c hi hL hn hs =>
  have nx:=fF g (kv hb);exact .vec _ _ _ _ A c (mz hb) (by rw[nx.2.2];exact hL) (by rw[nx.2.1];exact hn) (by rw[nx.2.1,nx.1];exact hs)
theorem eT {g:Gh} {π:List Nat}:∀ (az es:List AV) (us:List Value),r0 π az es->RL g az us->RL (g.dC π) es us
 | [],es,us,h,hr=>by
  cases es <;> simp only[r0]at h
  cases us
  .exact trivial
  .exact hr.elim
 | a::r,es,us,h,hr=>by
  cases es <;> simp only[r0]at h
  cases us
  .exact hr.elim
  .exact⟨wq a _ _ h.1 hr.1,eT r _ _ h.2 hr.2⟩
end
theorem yj {g:Gh} {π:List Nat} {env:Env} {tmps:Array Value} (hE:ER g env tmps):∀ (aj:Env),BO π env aj->ER (g.dC π) aj tmps
 | [],_,t=>.undef _
 | (k,v)::r,h,t=>by
  simp only[look];split
  .rename_i hb
   have:=Z3 hb;subst this;exact wq _ _ _ h.1 (hE k)
  .exact yj hE r h.2 t
theorem o5 {π:List Nat} {E:List Chunk}:∀ (l:List Nat) (E':List Chunk),o0 π E l E'->ah E'=l.length
 | [],[],_=>rfl
 | [],_::_,h=>h.elim
 | _::_,[],h=>h.elim
 | i::l,c::E',h=>by simp[ah,o5 l E' h.2]
theorem qq {π:List Nat} {E:List Chunk}:∀ (l:List Nat) (E':List Chunk),o0 π E l E'->∀ j,(∃ i,l[j]?=some i/\rH π (af E i) (af E' j))\/af E' j=.none
 | [],[],_,j=>.inr rfl
 | [],_::_,h,_=>h.elim
 | _::_,[],h,_=>h.elim
 | i::l,c::E',h,0=>.inl ⟨i,rfl,h.1⟩
 | i::l,c::E',h,j+1=>by simpa [af]using qq l E' h.2 j
def bH:List Nat->Bool
 | []=>true|i::r=>match r.any (Nat.beq i)with|true=>false|false=>bH r
theorem mA:∀ {π:List Nat},bH π=true->∀ j k i:Nat,π[j]?=some i->π[k]?=some i->j=k
 | [],_,j,k,i,h,_=>by simp at h
 | a::r,h,j,k,i,h1,h2=>by
  simp only[bH]at h;split at h
  .cases h
  .rename_i ha
   have hn:∀ m:Nat,r[m]?≠some a:=by
    intro m hm;have:r.any (Nat.beq a)=true:=List.any_eq_true.2 ⟨a,aaa.2 ⟨m,hm⟩,Nat.beq_refl a⟩;rw[this]at ha;cases ha
   cases j <;> cases k
   .rfl
   .simp at h1 h2;subst h1;exact(hn _ h2).elim
   .simp at h1 h2;subst h2;exact(hn _ h1).elim
   .rename_i j k
    have:=mA h j k i (by simpa using h1) (by simpa using h2);omega
theorem fY:∀ E,(bw E).length=ah E
 | []=>rfl
 | c::r=>by simp[bw,ah,fY r]
theorem qs:∀ (E:List Chunk) (i:Nat),c8 (af E i)=true->(bw E)[i]?=some true
 | [],i,h=>by simp[af,c8]at h
 | c::r,0,h=>by simp only[af]at h;simp[bw,h]
 | c::r,i+1,h=>by simp only[af]at h;simpa [bw]using qs r i h
def gx:List Bool->Nat->List Nat->Bool
 | [],_,_=>true
 | b::M,k,i::r=>(match b with|true=>(match Nat.beq i k with|true=>gx M (k+1) r|false=>false)|false=>gx M (k+1) r)
 | _::_,_,[]=>false
theorem yk:∀ {M:List Bool} {k:Nat} {π:List Nat},gx M k π=true->M.length<=π.length/\∀ j,M[j]?=some true->π[j]?=some (k+j)
 | [],k,π,_=>⟨aae _,fun j hj=>by simp at hj⟩
 | b::M,k,[],h=>by simp[gx]at h
 | b::M,k,i::r,h=>by
  have key:gx M (k+1) r=true/\(b=true->i=k):=by
   simp only[gx]at h;cases b with
   | false=>exact⟨h,fun e=>by cases e⟩
   | true =>
    simp only[]at h;split at h
    .rename_i hi;exact⟨h,fun _=>Z3 hi⟩
    .cases h
  obtain⟨h1,h2⟩:=yk key.1;refine⟨by simp;omega,fun j hj=>?_⟩;cases j with
  | zero=>simp at hj;simp[key.2 hj]
  | succ j=>have:=h2 j (by simpa using hj);simp[this];omega
theorem BP {g:Gh} {π:List Nat} {w:World} {i j:Nat} (hπ:π[j]?=some i):∀ (c d:Chunk),rH π c d->c.sat g i w->d.sat (g.dC π) j w:=by
 intro c d h hs;have nx:=fF g hπ;cases d with
 | none=>trivial
 | cells T' ds =>
  cases c <;> simp only[rH]at h <;> try exact h.elim
  split at h <;> try exact h.elim
  rename_i T cs hb;have hb:=Z3 hb;subst hb;obtain⟨vs,h1,h2⟩:=hs;exact⟨vs,by rw[nx.1];exact h1,eT _ _ _ h h2⟩
 | aq T' t' ys =>
  cases c <;> simp only[rH]at h <;> try exact h.elim
  rename_i T t xs;split at h <;> try exact h.elim
  rename_i ht hb _;have hb:=Z3 hb;subst hb ht;have e:ys=xs:=by funext u;cases u;exact h.symm
  subst e;obtain⟨h1,h2,h3⟩:=hs;refine⟨by rw[nx.2.2];exact h1,by rw[nx.2.1];exact h2,fun cap hc=>?_⟩;rw[nx.2.1]at hc;obtain⟨vs,h4,h5,h6,h7⟩:=h3 cap hc;exact⟨vs,by rw[nx.1];exact h4,h5,h6,fun k x hx=>RL.im (g:=g) (g':=g.dC π) (fun _ _ h=>h) (h7 k x hx)⟩
 | count m =>
  cases c <;> simp only[rH]at h <;> try exact h.elim
  exact h.symm.trans hs
 | row T' t' ys =>
  cases c <;> simp only[rH]at h <;> try exact h.elim
  all_goals
   rename_i T t xs;split at h <;> try exact h.elim
   rename_i ht hb _;have hb:=Z3 hb;subst hb ht;have e:ys=xs:=by funext u;cases u;exact h.symm
   subst e;obtain⟨h1,h2,h3⟩:=hs;refine⟨by rw[nx.2.2];exact h1,by rw[nx.2.1];exact h2,fun cap hc=>?_⟩;rw[nx.2.1]at hc;obtain⟨vs,h4,h5,h6,h7⟩:=h3 cap hc;exact⟨vs,by rw[nx.1];exact h4,h5,h6,fun k x hx=>RL.im (g:=g) (g':=g.dC π) (fun _ _ h=>h) (h7 k x hx)⟩
 | jd k' TM ds =>
  cases c <;> simp only[rH]at h <;> try exact h.elim
  split at h <;> try exact h.elim
  rename_i k ks us _ _ hk OY _ _;subst hk OY;obtain⟨es,cl,h1,h2,h3⟩:=hs;exact⟨es,cl,by rw[nx.1];exact h1,h2,eT _ _ _ h h3⟩
 | heap h' =>
  cases c <;> simp only[rH]at h <;> try exact h.elim
  rename_i hp;obtain⟨h1,h2,h3⟩:=hs;have hW:=o3 g hπ;have hj:j<π.length:=(Z2.1 hπ).1;refine⟨by rw[hW.2,h.1];exact h1,by rw[hW.1,hW.2];exact h2,fun k hk=>?_⟩;rw[hW.2]at hk;obtain⟨ob,h4,h5⟩:=h3 k hk;exact⟨ob,by rw[hW.1];exact h4,HO.lD (h.2 k (by rw[h.1];omega)) (HO.lC (HV.rW (g:=g) (g':=g.dC π) (i:=i) (i':=j) (fun _ _ _ h=>h) (fun _=>hj) (fun _ k _=>by rw[hW.1]) (fun _=>by rw[hW.2];exact Z8 _)) h5)⟩
 | iZ T' ds =>
  cases c <;> simp only[rH]at h <;> try exact h.elim
  split at h <;> try exact h.elim
  rename_i T cs hb;have hb:=Z3 hb;subst hb;obtain⟨vs,h1,h2⟩:=hs;exact⟨vs,by rw[nx.1];exact h1,eT _ _ _ h h2⟩
 | bq q' =>
  cases c <;> simp only[rH]at h <;> try exact h.elim
  subst h;obtain⟨h1,h2,h3⟩:=hs;have hW:=o3 g hπ;exact⟨by rw[hW.2];exact h1,fun b k hk=>h2 b k (by rw[hW.1]at hk;exact hk),by rw[hW.1,nx.1];exact h3⟩
 | je x' a' b' l' =>
  cases c <;> simp only[rH]at h <;> try exact h.elim
  rename_i x a b l;obtain⟨h1,rfl,rfl,h4⟩:=h;obtain⟨r,h5,h6⟩:=hs;exact⟨r,wq _ _ _ h1 h5,by rw[nx.1,<-h4];exact h6⟩
theorem mB {g:Gh} {π:List Nat} {i j b:Nat} (hπ:π[j]?=some i):∀ (c d:Chunk),rH π c d->d.own (g.dC π) j b->c.own g i b:=by
 intro c d h hb;have nx:=fF g hπ;cases d with
 | none=>cases hb
 | cells T' ds =>
  cases c <;> simp only[rH]at h <;> try exact h.elim
  simp only[Chunk.own]at hb ⊢;rw[nx.1]at hb;exact hb
 | aq T' t' ys =>
  cases c <;> simp only[rH]at h <;> try exact h.elim
  simp only[Chunk.own]at hb ⊢;rw[nx.1,nx.2.1]at hb;exact hb
 | count m=>cases hb
 | row T' t' ys =>
  cases c <;> simp only[rH]at h <;> try exact h.elim
  .simp only[Chunk.own]at hb ⊢
   rw[nx.1,nx.2.1]at hb;exact hb
  .simp only[Chunk.own]at hb ⊢
   rw[nx.1,nx.2.1]at hb;exact hb
 | jd k' TM ds =>
  cases c <;> simp only[rH]at h <;> try exact h.elim
  simp only[Chunk.own]at hb ⊢;rw[nx.1]at hb;exact hb
 | heap h' =>
  cases c <;> simp only[rH]at h <;> try exact h.elim
  have hW:=o3 g hπ;simp only[Chunk.own]at hb ⊢;rw[hW.1,hW.2]at hb;exact hb
 | je x' a' b' l' =>
  cases c <;> simp only[rH]at h <;> try exact h.elim
  simp only[Chunk.own]at hb ⊢;rw[nx.1]at hb;exact hb
 | iZ T' ds =>
  cases c <;> simp only[rH]at h <;> try exact h.elim
  simp only[Chunk.own]at hb ⊢;rw[nx.1]at hb;exact hb
 | bq q' =>
  cases c <;> simp only[rH]at h <;> try exact h.elim
  have hW:=o3 g hπ;simp only[Chunk.own]at hb ⊢;rw[hW.1]at hb;exact hb
theorem eE.dC {g:Gh} {π:List Nat} {E E':List Chunk} {w:World} (h:eE g E w) (hE:o0 π E π E') (hn:bH π=true):eE (g.dC π) E' w:=by
 have ql:=qq π E' hE;refine⟨o5 π E' hE,h.dn,fun j=>?_,fun j k b hj hk=>?_,fun j b hj=>?_⟩
 .rcases ql j with⟨i,hi,hc⟩|hc
  .exact BP hi _ _ hc (h.sat i)
  .rw[hc];trivial
 .obtain⟨i,hi,hc⟩:=(ql j).resolve_right (fun hc=>by rw[hc]at hj;cases hj)
  obtain⟨i',dW,Dd⟩:=(ql k).resolve_right (fun hc=>by rw[hc]at hk;cases hk);have h1:=mB hi _ _ hc hj;have h2:=mB dW _ _ Dd hk;have:=h.lf i i' b h1 h2;subst this;exact mA hn j k i hi dW
 .obtain⟨i,hi,hc⟩:=(ql j).resolve_right (fun hc=>by rw[hc]at hj;cases hj)
  exact h.dE i b (mB hi _ _ hc hj)
theorem Inv.dC {B:bS} {g:Gh} {π:List Nat} {env aj:Env} {E E':List Chunk} {tmps:Array Value} {w:World} (h:Inv B g env E tmps w) (Je:BO π env aj) (hE:o0 π E π E') (hn:bH π=true) (hM:gx (bw B.E) 0 π=true) :
  Inv B (g.dC π) aj E' tmps w:=by
 have ql:=qq π E' hE;obtain⟨VX,SC⟩:=yk hM;rw[fY]at VX;have sR:∀ i,c8 (af B.E i)=true->π[i]?=some i:=fun i hi=>by
  have:=SC i (qs _ _ hi);simpa using this
 refine⟨yj h.er aj Je,h.aW.dC hE hn,⟨h.ext.os,h.ext.tape,h.ext.output,h.ext.size,h.ext.cz,h.ext.dn,h.ext.fz,fun j b hj=>?_,VX,fun i hi=>?_,h.ext.kk,Fu (fun i T' t xs hi hv=>?_) (fun i T' cs hi hv=>?_),fun i k hi hk=>by rw[(o3 g (sR i hi)).1];exact h.ext.rC i k hi hk,fun i hi=>by rw[(o3 g (sR i hi)).2];exact h.ext.qi i hi⟩⟩
 .obtain⟨i,hi,hc⟩:=(ql j).resolve_right (fun hc=>by rw[hc]at hj;cases hj)
  exact h.ext.own i b (mB hi _ _ hc hj)
 .rw[(fF g (sR i hi)).1,(fF g (sR i hi)).2.1,(fF g (sR i hi)).2.2];exact h.ext.ids i hi
 .obtain⟨k,hk,hc⟩:=(ql i).resolve_right (fun hc=>by rw[hc]at hv;cases hv)
  have:=sR i hi;rw[this]at hk;cases hk;rw[hv]at hc;cases hg:af E i with
  | none=>rw[hg]at hc;exact hc.elim
  | cells _ _=>rw[hg]at hc;exact hc.elim
  | count _=>rw[hg]at hc;exact hc.elim
  | jd _ _ _=>rw[hg]at hc;exact hc.elim
  | row _ _ _=>rw[hg]at hc;exact hc.elim
  | heap _=>rw[hg]at hc;exact hc.elim
  | je _ _ _ _=>rw[hg]at hc;exact hc.elim
  | iZ _ _=>rw[hg]at hc;exact hc.elim
  | bq _=>rw[hg]at hc;exact hc.elim
  | aq _ _ _=>exact jg (h.ext.mY i hi) hg
 .obtain⟨k,hk,hc⟩:=(ql i).resolve_right (fun hc=>by rw[hc]at hv;cases hv)
  have:=sR i hi;rw[this]at hk;cases hk;rw[hv]at hc;cases hg:af E i with
  | none=>rw[hg]at hc;exact hc.elim
  | cells _ _=>rw[hg]at hc;exact hc.elim
  | count _=>rw[hg]at hc;exact hc.elim
  | jd _ _ _=>rw[hg]at hc;exact hc.elim
  | row _ _ _=>rw[hg]at hc;exact hc.elim
  | heap _=>rw[hg]at hc;exact hc.elim
  | je _ _ _ _=>rw[hg]at hc;exact hc.elim
  | aq _ _ _=>rw[hg]at hc;exact hc.elim
  | bq _=>rw[hg]at hc;exact hc.elim
  | iZ _ _=>exact sv (h.ext.mY i hi) hg
theorem Chunk.sS {g g':Gh} {i j:Nat} {w w':World} {c:Chunk} (f:AV->AV) (hA:∀ A k u,At g A k u->At g' A k u) (hf:∀ v u,isRef v=true->R g v u->R g' (f v) u)
  (hB:g'.B j=g.B i) (hV:g'.V j=g.V i) (hL:g'.L j=g.L i) (hk:g'.k=g.k) (hW:g'.W j=g.W i) (hM:g'.M j=g.M i) (kj:i<g.n->j<g'.n) (hw:∀ b,c.own g i b->w'.heap[b]?=w.heap[b]?) (h:c.sat g i w):(dg f c).sat g' j w':=by
 cases c with
 | none=>trivial
 | count k=>exact h.trans hk.symm
 | row T t xs =>
  obtain⟨h1,h2,h3⟩:=h;refine⟨by rw[hL];exact h1,by rw[hV];exact h2,fun cap cS=>?_⟩;rw[hV]at cS;obtain⟨vs,h4,h5,h6,h7⟩:=h3 cap cS;exact⟨vs,by rw[hB,hw _ (by simp[Chunk.own,cS])];exact h4,h5,h6,fun k x hx=>(h7 k x hx).kq hA⟩
 | jd k ks us =>
  obtain⟨es,cl,h1,h2,h3⟩:=h;exact⟨es,cl,by rw[hB,hw _ rfl];exact h1,h2,h3.mapA f hA hf⟩
 | cells T cs =>
  obtain⟨vs,h1,h2⟩:=h;exact⟨vs,by rw[hB,hw _ rfl];exact h1,h2.mapA f hA hf⟩
 | aq T t xs =>
  obtain⟨h1,h2,h3⟩:=h;refine⟨by rw[hL];exact h1,by rw[hV];exact h2,fun cap cS=>?_⟩;rw[hV]at cS;obtain⟨vs,h4,h5,h6,h7⟩:=h3 cap cS;exact⟨vs,by rw[hB,hw _ (by simp[Chunk.own,cS])];exact h4,h5,h6,fun k x hx=>(h7 k x hx).kq hA⟩
 | heap hp =>
  obtain⟨h1,h2,h3⟩:=h;refine⟨by rw[hM];exact h1,by rw[hM,hW];exact h2,fun k hk=>?_⟩;rw[hM]at hk;obtain⟨ob,h4,h5⟩:=h3 k hk;exact⟨ob,by rw[hW,hw _ ⟨k,hk,rfl⟩];exact h4,HO.lC (HV.rW hA kj (fun _ k _=>by rw[hW]) (fun _=>by rw[hM];exact Z8 _)) h5⟩
 | iZ T cs =>
  obtain⟨vs,h1,h2⟩:=h;exact⟨vs,by rw[hB,hw _ rfl];exact h1,h2.mapA f hA hf⟩
 | bq q =>
  obtain⟨h1,h2,h3⟩:=h;refine⟨by rw[hM];exact h1,fun b k hk=>?_,?_⟩
  .rw[hW]at hk;rw[hw b ⟨k,hk⟩];exact h2 b k hk
  .rw[hB,hW]
   refine q.mono _ _ _ _ _ _ (Mg hA) (fun b hb=>hw b hb) h3
 | je x a b l =>
  obtain⟨r,h1,h2⟩:=h;exact⟨r,h1.mapA f hA hf,by rw[hB,hw _ rfl];exact h2⟩
theorem Chunk.o6 {g g':Gh} {i j:Nat} {w w':World} {c:Chunk} (f:AV->AV) (hΦ:∀ b o,g.Φ b=some o->g'.Φ b=some o) (hf:∀ v u,isRef v=true->R g v u->R g' (f v) u)
  (hB:g'.B j=g.B i) (hV:g'.V j=g.V i) (hL:g'.L j=g.L i) (hk:g'.k=g.k) (hW:g'.W j=g.W i) (hM:g'.M j=g.M i) (kj:i<g.n->j<g'.n) (hw:∀ b,c.own g i b->w'.heap[b]?=w.heap[b]?) (h:c.sat g i w):(dg f c).sat g' j w':=Chunk.sS f (fun _ _ _ h=>h.mono hΦ) hf hB hV hL hk hW hM kj hw h
theorem iI (f:AV->AV) (g:Gh) (i:Nat) (c:Chunk) (b:Nat):(dg f c).own g i b=c.own g i b:=by cases c <;> rfl
end Go.Proofs.YthnefnlhcijekaaGreat.Fw
namespace Go.Proofs.YthnefnlhcijekaaGreat.Fw
open Go
structure Im (q p:Prop):Prop where
 h:q->p
theorem Im.id {p:Prop}:Im p p:=⟨fun h=>h⟩
theorem Im.done {p:Prop} (h:p):Im True p:=⟨fun _=>h⟩
theorem Im.and {a b a' b':Prop} (h1:Im a' a) (h2:Im b' b):Im (a'/\b') (a/\b):=⟨fun h=>⟨h1.h h.1,h2.h h.2⟩⟩
theorem Im.F3 {a b q:Prop} (h1:a) (h2:Im q b):Im q (a/\b):=⟨fun h=>⟨h1,h2.h h⟩⟩
theorem Im.imp {c c' x x':Prop} (h1:c->c') (h2:Im x' x):Im (c'->x') (c->x):=⟨fun h hc=>h2.h (h (h1 hc))⟩
theorem Im.comp {p x q:Prop} (h1:x->p) (h2:Im q x):Im q p:=⟨fun h=>h1 (h2.h h)⟩
theorem tv:True:=trivial
theorem pr {a b:Prop} (left:a) (right:b):a/\b:=⟨left,right⟩
theorem Wa {p:Prop} (q:Prop) (h:q) (e:Im q p:=by
  (repeat' ((conv=>arg 2;whnf);first
   | (apply Im.F3;exact⟨by kernel_rfl⟩)
   | apply Im.and
   | (apply Im.done;exact⟨by kernel_rfl⟩)
   | (apply Im.comp;exact vf.mk)
   | (apply Im.comp;exact fun h=>aB.step hm rfl h)
   | (apply Im.done;exact trivial)
   | (apply Im.done;exact rfl)
   | (apply Im.done;intro hh;first|(simp only[bs]at hh;done)|((try simp only[bs]at hh);exact absurd hh (by decide)))
   | (apply Im.imp;(intro hh;simp only[bs]at hh;exact hh))
   | (apply Im.imp;exact fun hh=>hh)
   | fail))
  (all_goals ((conv=>arg 2;whnf);exact Im.id))):p:=e.h h
theorem Wb {p:Prop} (q:Prop) (h:q) (e:Im q p:=by
  (repeat' ((conv=>arg 2;whnf);first
   | (apply Im.F3;exact⟨by kernel_rfl⟩)
   | apply Im.and
   | (apply Im.done;exact⟨by kernel_rfl⟩)
   | (apply Im.comp;exact vf.mk)
   | (apply Im.comp;exact fun h=>aB.step hm rfl h)
   | (apply Im.done;exact trivial)
   | (apply Im.done;exact rfl)
   | (apply Im.done;intro hh;simp only[bs]at hh;done)
   | (apply Im.imp;(intro hh;simp only[bs]at hh;exact hh))
   | (apply Im.imp;exact fun hh=>hh)
   | fail))
  (all_goals ((conv=>arg 2;whnf);exact Im.id))):p:=e.h h
theorem Wc {p:Prop} (q:Prop) (h:q) (e:Im q p:=by
  (repeat' ((conv=>arg 2;whnf);first
   | (apply Im.F3;exact⟨by kernel_rfl⟩)
   | apply Im.and
   | (apply Im.done;exact⟨by kernel_rfl⟩)
   | (apply Im.comp;exact vf.mk)
   | (apply Im.done;exact trivial)
   | (apply Im.done;exact rfl)
   | (apply Im.done;intro hh;simp only[bs]at hh;done)
   | (apply Im.imp;(intro hh;simp only[bs]at hh;exact hh))
   | (apply Im.imp;exact fun hh=>hh)
   | fail))
  (all_goals ((conv=>arg 2;whnf);exact Im.id))):p:=e.h h
theorem Wp {p:Prop} (q:Prop) (h:q) (e:Im q p:=by
  (repeat' ((conv=>arg 2;whnf);first
   | (apply Im.F3;exact⟨by kernel_rfl⟩)
   | apply Im.and
   | (apply Im.done;exact⟨by kernel_rfl⟩)
   | (apply Im.comp;exact vf.mk)
   | (apply Im.comp;exact fun h=>aB.step hm rfl h)
   | (apply Im.done;exact trivial)
   | (apply Im.done;exact rfl)
   | (apply Im.done;intro hh;first|(simp only[bs]at hh;done)|((try simp only[bs]at hh);exact absurd hh (by decide)))
   | (apply Im.imp;(intro hh;simp only[bs]at hh;exact hh))
   | (apply Im.imp;exact fun hh=>hh)
   | (apply Im.done;exact⟨by decide⟩)
   | fail))
  (all_goals ((conv=>arg 2;whnf);exact Im.id))):p:=e.h h
theorem Wq {p:Prop} (q:Prop) (h:q) (e:Im q p:=by
  (repeat' ((conv=>arg 2;whnf);first
   | (apply Im.F3;exact⟨by kernel_rfl⟩)
   | apply Im.and
   | (apply Im.done;exact⟨by kernel_rfl⟩)
   | (apply Im.comp;exact vf.mk)
   | (apply Im.done;exact trivial)
   | (apply Im.done;exact rfl)
   | (apply Im.done;intro hh;simp only[bs]at hh;done)
   | (apply Im.imp;(intro hh;simp only[bs]at hh;exact hh))
   | (apply Im.imp;exact fun hh=>hh)
   | (apply Im.done;exact⟨by decide⟩)
   | fail))
  (all_goals ((conv=>arg 2;whnf);exact Im.id))):p:=e.h h
theorem Va {p:Prop} (q:Prop) (h:q) (e:Im q p:=by
  (repeat' ((conv=>arg 2;whnf);first
   | (apply Im.done;exact rfl)
   | (apply Im.done;exact trivial)
   | (apply Im.done;exact Hp.aG _)
   | apply Im.and
   | (apply Im.done;exact aaf _)
   | fail))
  (all_goals exact Im.id)):p:=e.h h
theorem Vb {p:Prop} (q:Prop) (h:q) (e:Im q p:=by
  (repeat' ((conv=>arg 2;whnf);first
   | (apply Im.done;exact rfl)
   | (apply Im.done;exact trivial)
   | (apply Im.done;exact Hp.aG _)
   | apply Im.and
   | (apply Im.done;exact aaf _)
   | fail))
  (all_goals ((conv=>arg 2;whnf);(try (conv=>arg 2;simp only[]));exact Im.id))):p:=e.h h
theorem Vc {p q:Prop} (e:Im q p:=by
  (repeat' ((conv=>arg 2;whnf);first
   | (apply Im.done;exact rfl)
   | (apply Im.done;exact trivial)
   | (apply Im.done;exact Hp.aG _)
   | apply Im.and
   | (apply Im.done;exact aaf _)
   | fail))
  (all_goals ((conv=>arg 2;whnf);(try (conv=>arg 2;simp only[]));exact Im.id))) (h:q:=by(repeat' first|exact trivial|apply And.intro)):p:=e.h h
end Go.Proofs.YthnefnlhcijekaaGreat.Fw
namespace Go.Proofs.YthnefnlhcijekaaGreat.Fw
open Go Go.RowKit
structure Le (M:List Bool) (π:List Nat) (env:Env) (E:List Chunk) (aj:Env) (E':List Chunk):Prop where
 nd:bH π=true
 head:gx M 0 π=true
 e:o0 π E π E'
 v:BO π env aj
theorem Iv.dC {S:Sc} {M:List Bool} {g:Gh} {π:List Nat} {env aj:Env} {E E':List Chunk} {a:Act} {w:World} (hM:∀ B,S.at_ B->bw B.E=M) (h:Iv S g env E a w) (hle:Le M π env E aj E'):Iv S (g.dC π) aj E' a w:=by
 obtain⟨B,hB,h,hd⟩:=h;exact⟨B,hB,h.dC hle.v hle.e hle.nd (by rw[hM B hB];exact hle.head),hd⟩
theorem Ext.trans {B B1:bS} {g:Gh} {E:List Chunk} {w:World} (h:Ext B B1.g B1.E B1.w) (h':Ext B1 g E w) (hs:∀ i,c8 (af B.E i)=true->c8 (af B1.E i)=true) (hl:ah B.E<=ah B1.E):Ext B g E w:=by
 refine⟨h'.os.trans h.os,h'.tape.trans h.tape,h'.output.trans h.output,aaA h.size h'.size,fun b h1 h2=>?_,fun b o hb=>h'.dn b o (h.dn b o hb),fun b o hb=>?_,fun i b hi=>?_,aaA hl h'.n,fun i hi=>?_,h'.kk.trans h.kk,fun i hi=>?_,fun i k hi hk=>?_,fun i hi=>?_⟩
 .rw[h'.cz b (aag h1 h.size) (fun⟨i,hi⟩=>by
   rcases h.own i b hi with h3|h3
   .omega
   .exact h2 h3)]
  exact h.cz b h1 h2
 .rcases h'.fz b o hb with h3|h3|⟨i,hi⟩
  .exact h.fz b o h3
  .exact .inr (.inl (aaA h.size h3))
  .exact .inr (h.own i b hi)
 .rcases h'.own i b hi with h3|⟨j,hj⟩
  .exact .inl (aaA h.size h3)
  .exact h.own j b hj
 .have h1:=h'.ids i (hs i hi)
  have h2:=h.ids i hi;exact⟨h1.1.trans h2.1,h1.2.1.trans h2.2.1,h1.2.2.trans h2.2.2⟩
 .exact h'.mY i (hs i hi)
 .rw[h'.rC i k (hs i hi) (aag hk (h.qi i hi))];exact h.rC i k hi hk
 .exact aaA (h.qi i hi) (h'.qi i (hs i hi))
def Gh.drop (g:Gh) (D:Nat):Gh:={ g with Φ:=fun b=>if b=D then none else g.Φ b }
theorem At.drop {g:Gh} {D:Nat} (hp:g.Φ D=some (.deferred (some []))) {A:Option Addr} {k:Nat} {u:Value} (h:At g A k u):At (g.drop D) A k u:=by
 obtain⟨b,off,cells,T,fr,h1,h2,h3⟩:=h;refine⟨b,off,cells,T,fr,h1,?_,h3⟩;show(if b=D then none else g.Φ b)=_;rw[ZY (fun e=>by subst e;rw[h2]at hp;cases hp)];exact h2
theorem R.drop {g:Gh} {D:Nat} (hp:g.Φ D=some (.deferred (some []))) {v:AV} {u:Value} (h:R g v u):R (g.drop D) v u:=by
 have:=R.mapA (g':=g.drop D) id (fun _ _ _ h=>h.drop hp) (fun v u hv h=>?_) h
 .rwa [gT]at this
 .cases h <;> first|(cases hv;done)|skip
  .exact .ptr (g:=g.drop D) _ _ ‹_›
  .exact .bg (g:=g.drop D) _ _ _ _ ‹_› ‹_›
  .rename_i hi hL hn hs
   exact .vec (g:=g.drop D) _ _ _ _ _ _ hi hL hn hs
  .exact .mp (g:=g.drop D) _ ‹_›
  .rename_i hi hf
   exact .hp (g:=g.drop D) _ _ hi hf
  .rename_i hi hf
   exact .hm (g:=g.drop D) _ _ hi hf
theorem wu (c:Chunk):dg id c=c:=by cases c <;> simp[dg,kp,gT]
theorem Inv.ME {B:bS} {g:Gh} {env:Env} {E:List Chunk} {tmps:Array Value} {w:World} (h:Inv B g env E tmps w) {D:Nat} (hD:B.w.heap.size<=D) (hp:g.Φ D=some (.deferred (some []))) (hB:∀ b o,B.g.Φ b=some o->b<B.w.heap.size) :
  Inv B (g.drop D) env E tmps (w.putObj D (.deferred none)):=by
 have iE:∀ b,b≠D->(w.putObj D (.deferred none)).heap[b]?=w.heap[b]?:=fun b hb=>World.putObj_heap_other hb;have hblk:∀ (c:Chunk) i b,c.own (g.drop D) i b=c.own g i b:=fun c i b=>by cases c <;> rfl
 have bC:∀ i b,(af E i).own g i b->b≠D:=fun i b hb e=>by subst e;rw[h.aW.dE i b hb]at hp;cases hp
 have fU:∀ i,(af E i).sat (g.drop D) i (w.putObj D (.deferred none)):=fun i=>by
  have hf:∀ v u,isRef v=true->R g v u->R (g.drop D) (id v) u:=fun v u _ hr=>hr.drop hp;have:=Chunk.sS (g:=g) (g':=g.drop D) (i:=i) (j:=i) (w':=w.putObj D (.deferred none)) id (fun _ _ _ h=>h.drop hp) hf rfl rfl rfl rfl rfl rfl (fun h=>h) (fun b hb=>iE b (bC i b hb)) (h.aW.sat i);rwa [wu]at this
 refine⟨fun t=>(h.er t).drop hp,⟨h.aW.len,fun b o hb=>?_,fU,fun i j b hi hj=>?_,fun i b hi=>?_⟩,⟨h.ext.os,h.ext.tape,⟨h.ext.output.o,h.ext.output.d⟩,by rw[World.putObj_size];exact h.ext.size,fun b h1 h2=>?_,fun b o hb=>?_,fun b o hb=>?_,fun i b hi=>?_,h.ext.n,h.ext.ids,h.ext.kk,h.ext.mY,h.ext.rC,h.ext.qi⟩⟩
 .have hb:(if b=D then none else g.Φ b)=some o:=hb
  split at hb
  .cases hb
  .rw[iE b ‹_›];exact h.aW.dn b o hb
 .rw[hblk]at hi hj;exact h.aW.lf i j b hi hj
 .rw[hblk]at hi
  show(if b=D then none else g.Φ b)=none;split
  .rfl
  .exact h.aW.dE i b hi
 .rw[iE b (by omega)];exact h.ext.cz b h1 h2
 .have:=hB b o hb
  show(if b=D then none else g.Φ b)=some o;rw[ZY (by omega)];exact h.ext.dn b o hb
 .have hb:(if b=D then none else g.Φ b)=some o:=hb
  split at hb
  .cases hb
  .exact h.ext.fz b o hb
 .rw[hblk]at hi;exact h.ext.own i b hi
theorem BQ {P:Program} {B:bS} {fn:Func} {env:Env} {E:List Chunk} {tmps:Array Value} {Rr:Ending->World->Prop} (hB:∀ b o,B.g.Φ b=some o->b<B.w.heap.size)
  (hR:∀ g w,Inv B g env E tmps w->∃ v,(results fn tmps).run P w=.ok v w/\Rr (.returned v) w):∀ (Ds:List Nat) (g:Gh) (w:World),Inv B g env E tmps w->Ds.Nodup->(∀ D∈Ds,B.w.heap.size<=D/\g.Φ D=some (.deferred (some []))) ->
  LeavesInM (Fr none) 0 P fn tmps Rr (Ds.map (fun D=>{ target:=.collected D,args:=#[] })) .returning w
 | [],g,w,h,_,_=>hR g w h
 | D::Ds,g,w,h,hn,hD=>by
  obtain⟨h1,h2⟩:=hD D (Z7 ..);have qT:=aaT.1 hn;refine⟨by simp,.inl ⟨D,_,rfl,run_takeDeferred (h.aW.dn D _ h2),?_⟩⟩;refine BQ hB hR Ds _ _ (h.ME h1 h2 hB) qT.2 (fun D' OZ=>?_);obtain⟨h3,h4⟩:=hD D' (Z5 _ OZ);refine⟨h3,?_⟩;show(if D'=D then none else g.Φ D')=_;rw[ZY (fun e:D'=D=>qT.1 (by rw[<-e];exact OZ))];exact h4
theorem rI {F:Fence} {m:Nat} {P:Program} {Q:Exit->Act->World->Prop} {a:Act} {w:World} {c:Code} (I:Nat->Act->World->Prop) (n₀:Nat) (h₀:I n₀ a w)
  (round:∀ n a w,I n a w->c.wpIn F m P (Exit.then (fun a' w'=>∃ n',n'<n/\I n' a' w') Q) a w):(Code.loop c).wpIn F m P Q a w:=by
 refine wpIn_loop (fun a w=>∃ n,I n a w) (fun a w=>leastOf (fun n=>I n a w)) ⟨n₀,h₀⟩ ?_;intro a w hI;refine ab9 (round _ a w (leastOf_spec hI).1) ?_;intro e a' w' hq;cases e with
 | normal =>
  obtain⟨n',bf,MF⟩:=hq;exact show(∃ n,I n a' w')/\leastOf (fun n=>I n a' w')<leastOf (fun n=>I n a w)from⟨⟨n',MF⟩,acB ((leastOf_spec ⟨n',MF⟩).2 n' MF) bf⟩
 | exit id=>exact hq
 | goto l=>exact hq
 | ret=>exact hq
 | panic ch=>exact hq
 | outgrown=>exact hq
theorem aM.intro {P:Program} {N:Nat} {M:List Bool} {S:Sc} {body:Code} {env:Env} {E:List Chunk} {K:Ex->Env->List Chunk->Prop} (hm:P.follows .mixedOrders=true) {X:Type} (inv:X->Prop) (μ:X->Nat) (st:X->Env) (ch:X->List Chunk)
  (x0:X) (π0:List Nat) (hle:Le M π0 env E (st x0) (ch x0)) (h0:inv x0)
  (round:∀ x,inv x->jC (st x) fun env=>iq (ch x) fun E=>fl P N S M body env E fun e aj E'=>match e with
   | .normal=>∃ x',∃ π,Le M π aj E' (st x') (ch x')/\inv x'/\μ x'<μ x
   | .ret=>K .ret aj E'|.exit n=>K (.exit n) aj E'):aM P N S M body env E K where
 h:=by
  intro r g a w hr hM h hN;refine rI (fun n a w=>∃ x g,inv x/\μ x=n/\Iv S g (st x) (ch x) a w/\a.tmps.size=N) (μ x0) ⟨x0,g.dC π0,h0,rfl,h.dC hM hle,hN⟩ ?_;rintro n a w ⟨x,g,hi,rfl,h,hN⟩;have SD:=round x hi;rw[c9,a7]at SD;refine ab9 (iH hm hM body r hr h hN SD) ?_;rintro e a' w' ⟨e',g',aj,E',rfl,h1,h3,h4⟩;cases e' with
  | normal =>
   obtain⟨x',π,wv,dW,bf⟩:=h4;exact⟨μ x',bf,x',g'.dC π,dW,rfl,h1.dC hM wv,h3⟩
  | ret=>exact⟨.ret,g',aj,E',rfl,h1,h3,h4⟩
  | exit n=>exact⟨.exit n,g',aj,E',rfl,h1,h3,h4⟩
structure aa (P:Program) (f:FuncId) (args:List AV) (E:List Chunk) {Y:Type} (Q:Y->Prop) (res:Y->AV) (out:Y->List Chunk):Prop where
 aA:fE P f
 h:∀ (g:Gh) (w:World) (aC:List Value),eE g E w->RL g args aC ->
  Calls P f aC.toArray w (fun e w'=>∃ y c g',Q y/\e=.returned c/\R g' (res y) c/\eE g' (out y) w'/\Ext ⟨g,E,w⟩ g' (out y) w')
abbrev MU (P:Program) (f:FuncId) (a:List AV) (E:List Chunk) (r:AV) (o:List Chunk):Prop:=aa P f a E (Y:=Unit) (fun _=>True) (fun _=>r) (fun _=>o)
structure ae (M:List Bool) (env:Env) (E:List Chunk) (l:List AV) {Y:Type} (Q:Y->Prop) (res:Y->List AV) (out:Y->List Chunk):Prop where
 h:∀ (B:bS) (g:Gh) (tmps:Array Value) (w:World) (cs:List Value),bw B.E=M->Inv B g env E tmps w->RL g l cs ->
  ∃ y g',Q y/\RL g' (res y) cs/\eE g' (out y) w/\Ext B g' (out y) w
theorem ae.intro {M:List Bool} {env:Env} {E:List Chunk} {l:List AV} {Y:Type} {Q:Y->Prop} {res:Y->List AV} {out:Y->List Chunk} (y:Y) (π:List Nat) (hn:bH π=true) (hh:gx M 0 π=true) (hE:o0 π E π (out y)) (hl:r0 π l (res y)) (hq:Q y) :
  ae M env E l Q res out where
 h:=by
  intro B g tmps w cs hM h hr;have:=h.dC (aj:=[]) trivial hE hn (by rw[hM];exact hh);exact⟨y,g.dC π,hq,eT _ _ _ hl hr,this.aW,this.ext⟩
theorem ae.gU {M:List Bool} {env:Env} {E:List Chunk} {l:List AV} {Y:Type} {Q:Y->Prop} {res:Y->List AV} {out:Y->List Chunk} (i:Nat) (h:Fw.gU i [] E l fun aj E' l'=>ae M aj E' l' Q res out):ae M env E l Q res out where
 h:=by
  intro B g tmps w cs hM hI hr;have MF:Inv B g [] E tmps w:=⟨fun t=>.undef _,hI.aW,hI.ext⟩
  obtain⟨g',aj,E',mu,h1,h2,h3⟩:=v8 MF hr h;exact h3.h B g' tmps w cs hM h1 h2
def one:List AV->AV
 | [v]=>v|l=>.bQ l
section
variable (P:Program)
def ny (env:Env) (E:List Chunk):List ResultVar->(List AV->Prop)->Prop
 | [],K=>K []
 | .tmp t::r,K=>ny env E r fun l=>fV (look env t) fun v=>K (v::l)
 | .cell a t::r,K=>Sm E (look env a) fun cs g=>KY P t cs g fun v=>ny env E r fun l=>K (v::l)
def fZ:Nat->List AV->Env
 | _,[]=>[]|k,v::r=>(k,v)::fZ (k+1) r
end
section
variable {P:Program}
theorem RL.cons {g:Gh} {v:AV} {u:Value} {cs:List AV} {us:List Value} (h:R g v u) (h':RL g cs us):RL g (v::cs) (u::us):=⟨h,h'⟩
theorem sT {g:Gh} {env:Env} {E:List Chunk} {tmps:Array Value} {w:World} (hS:eE g E w) (hE:ER g env tmps) (f:ResultVar->Sem Value)
  (ht:∀ t,f (.tmp t)=pure (tmps.getD t Go.undef)) (hc:∀ a t,f (.cell a t)=do loadVar t (<-asAddr (tmps.getD a Go.undef))):∀ (rs:List ResultVar) (K:List AV->Prop),ny P env E rs K ->
  ∃ l cs,(rs.mapM f).run P w=.ok cs w/\RL g l cs/\K l
 | [],K,h=>⟨[],[],by simp,trivial,h⟩
 | .tmp t::r,K,h=>by
  obtain⟨l,cs,h1,h2,h3⟩:=sT hS hE f ht hc r _ h;rw[fP]at h3;exact⟨_,tmps.getD t Go.undef::cs,by simp[List.mapM_cons,ht,h1],RL.cons (hE t) h2,h3⟩
 | .cell a t::r,K,h=>by
  simp only[ny]at h;obtain⟨cs,n,us,A,h1,h2,h3,h4⟩:=uV hS (hE a) h;obtain⟨v,u,h5,h6,h7⟩:=xK h4 h2 h3;obtain⟨l,ws,h8,h9,fu⟩:=sT hS hE f ht hc r _ h7;exact⟨_,u::ws,by simp[List.mapM_cons,hc,h1,asAddr,h5,h8],RL.cons h6 h9,fu⟩
theorem MH {g:Gh} {l:List AV} {cs:List Value} (h:RL g l cs):R g (one l) (if h:cs.toArray.size=1 then cs.toArray[0]else .tuple cs.toArray):=by
 match l,cs,h with
 | [],[],h=>exact R.gP h
 | [v],[u],h=>exact h.1
 | v::v'::l,u::u'::cs,h =>
  rw[dif_neg (by simp)];exact R.gP h
theorem sU {g:Gh} {env:Env} {E:List Chunk} {tmps:Array Value} {w:World} (hS:eE g E w) (hE:ER g env tmps) {fn:Func} {K:List AV->Prop} (h:ny P env E fn.results.toList K) :
  ∃ l cs,(results fn tmps).run P w=.ok (if h:cs.toArray.size=1 then cs.toArray[0]else .tuple cs.toArray) w/\RL g l cs/\K l:=by
 obtain⟨l,cs,h1,h2,h3⟩:=sT (P:=P) hS hE (fun rv=>match rv with|.tmp t=>pure (tmps.getD t Go.undef)|.cell a t=>do loadVar t (<-asAddr (tmps.getD a Go.undef))) (fun t=>rfl) (fun a t=>rfl) _ _ h;refine⟨l,cs,?_,h2,h3⟩;unfold results;rw[Array.mapM_eq_mapM_toList];simp only[Sem.run_bind,Sem.run_map]
 erw [h1]
 rfl
theorem jV {g:Gh} {f:Nat->Value}:∀ (k:Nat) (args:List AV) (aC:List Value),RL g args aC->(∀ j u,aC[j]?=some u->f (k+j)=u)->∀ t,R g (look (fZ k args) t) (f t)
 | _,[],_,_,_,t=>.undef _
 | k,v::r,[],h,_,_=>h.elim
 | k,v::r,u::us,h,hf,t=>by
  simp only[fZ,look];split
  .rename_i hb
   have:=Z3 hb;subst this;have:=hf 0 u rfl;simp at this;rw[this];exact h.1
  .exact jV (k+1) r us h.2 (fun j u hj=>by rw[<-hf (j+1) u (by simpa using hj)];congr 1;omega) t
def P2:AV->List AV
 | .bQ l=>l|v=>[v]
theorem aa.intro (hm:P.follows .mixedOrders=true) {f:FuncId} {fn:Func} {c:Code} {args:List AV} {E:List Chunk} {Y:Type} {Q:Y->Prop} {res:Y->AV} {out:Y->List Chunk}
  (hf:P.funcs[f]?=some fn) (hb:fn.body=some c) (oR:fn.name ≠ "runtime.NumGoroutine") (hn:args.length<=fn.ntmps) (Aq:∀ y,one (P2 (res y))=res y)
  (h:∀ S:Sc,S.ok=true->jC (fZ 0 args) fun env=>iq E fun E₁=>OV (bw E) fun M=>fl P fn.ntmps S M c env E₁ fun e aj E'=>match e with
   | .exit _=>False
   | _=>ny P aj E' fn.results.toList fun l=>ae M aj E' l Q (fun y=>P2 (res y)) out):aa P f args E Q res out where
 aA:=⟨fn,hf,by rw[hb];rfl,oR⟩
 h:=by
  intro g w aC hS hr;have hl:=hr.length;have bf:∀ b o,g.Φ b=some o->b<w.heap.size:=fun b o hb=>bo (hS.dn b o hb);obtain⟨S,Lj,DG,XC⟩:∃ S:Sc,(∀ B,S.at_ B↔∃ Φ,B=⟨{ g with Φ:=Φ },E,w⟩/\(∀ b o,g.Φ b=some o->Φ b=some o)/\(∀ b o,Φ b=some o->g.Φ b=some o\/w.heap.size<=b))/\S.b0=w.heap.size/\S.ok=true:=by
   refine⟨⟨fun B=>∃ Φ,B=⟨{ g with Φ:=Φ },E,w⟩/\(∀ b o,g.Φ b=some o->Φ b=some o)/\(∀ b o,Φ b=some o->g.Φ b=some o\/w.heap.size<=b),w.heap.size,true,fun _ B hB=>?_,fun _ B D hB hD=>?_⟩,fun B=>Iff.rfl,rfl,rfl⟩
   .obtain⟨Φ,rfl,_⟩:=hB;exact Z8 _
   .obtain⟨Φ,rfl,h1,h2⟩:=hB
    refine⟨_,rfl,fun b o hb=>?_,fun b o hb=>?_⟩
    .show(if b=D then some (.deferred (some []))else Φ b)=some o
     rw[ZY (by have:=bf b o hb;omega)];exact h1 b o hb
    .have mC:(if b=D then some (.deferred (some []))else Φ b)=some o:=hb
     split at mC
     .rename_i e;rw[e];exact .inr hD
     .exact h2 b o mC
  have h:=h S XC;rw[c9,a7,Mu]at h;refine iG.1 (callsIn_of_wp_marks (F:=Fr none) (n:=0) hf hb trivial ?_);have hI:Inv ⟨g,E,w⟩ g (fZ 0 args) E (aC.toArray++Array.replicate (fn.ntmps - aC.toArray.size) Go.undef) w:=by
   refine⟨jV 0 args aC hr (fun j u hj=>?_),hS,⟨rfl,rfl,ja.refl _,Z8 _,fun _ _ _=>rfl,fun _ _ h=>h,fun _ _ h=>.inl h,fun i b h=>.inr ⟨i,h⟩,ab4 hS.len,fun _ _=>⟨rfl,rfl,rfl⟩,rfl,fun i h1=>Aa h1,fun _ _ _ _=>rfl,fun _ _=>Z8 _⟩⟩;have lg:=(Z2.1 hj).1;rw[aan,acj (by simpa using lg)];simp[hj]
  have TN:Iv S g (fZ 0 args) E { tmps:=aC.toArray++Array.replicate (fn.ntmps - aC.toArray.size) Go.undef,defers:=[] } w :=
   ⟨⟨g,E,w⟩,(Lj _).2 ⟨g.Φ,rfl,fun _ _ h=>h,fun _ _ h=>.inl h⟩,hI,fun _=>rfl,[],rfl,aaP,by simp⟩
  have hw:=iH (S:=S) hm (fun B hB=>by obtain⟨_,rfl,_⟩:=(Lj B).1 hB;rfl) c none (.inl rfl) TN (by simp;omega) h;refine ab9 hw ?_;rintro x a w' ⟨e,g',aj,E',rfl,⟨B1,O0,h1,_,Ds,O1,eA,SE⟩,h3,h4⟩;obtain⟨Φ,rfl,P3,O2⟩:=(Lj _).1 O0;have yl:∀ c i b,Chunk.own { g with Φ:=Φ } i c b=Chunk.own g i c b:=fun c i b=>by cases c <;> rfl
  have TO:∀ b,(⟨{ g with Φ:=Φ },E,w⟩:bS).owns b->(⟨g,E,w⟩:bS).owns b:=fun b ⟨i,hi⟩=>⟨i,(yl _ _ _).mp hi⟩
  have XD:∀ b,(⟨g,E,w⟩:bS).owns b->(⟨{ g with Φ:=Φ },E,w⟩:bS).owns b:=fun b ⟨i,hi⟩=>⟨i,(yl _ _ _).mpr hi⟩
  have hx:=h1.ext;have xB:Inv ⟨g,E,w⟩ g' aj E' a.tmps w':=⟨h1.er,h1.aW,⟨hx.os,hx.tape,hx.output,hx.size,fun b h2 h3=>hx.cz b h2 (fun ho=>h3 (TO b ho)),fun b o hb=>hx.dn b o (P3 b o hb),fun b o hb=>by
   rcases hx.fz b o hb with h2|h2|h2
   .rcases O2 b o h2 with h3|h3
    .exact .inl h3
    .exact .inr (.inl h3)
   .exact .inr (.inl h2)
   .exact .inr (.inr (TO b h2)),fun i b hi=>(hx.own i b hi).imp id (TO b),hx.n,hx.ids,hx.kk,hx.mY,hx.rC,hx.qi⟩⟩
  have fin:ny P aj E' fn.results.toList (fun l=>ae (bw E) aj E' l Q (fun y=>P2 (res y)) out) ->
    LeavesInM (Fr none) 0 P fn a.tmps (fun e w'=>∃ y c g',Q y/\e=.returned c/\R g' (res y) c/\eE g' (out y) w'/\Ext ⟨g,E,w⟩ g' (out y) w') a.defers .returning w':=by
   intro h4;rw[O1];refine BQ (env:=aj) (E:=E') (B:=⟨g,E,w⟩) bf (fun g1 w1 O3=>?_) Ds g' w' xB eA (fun D hD=>?_)
   .obtain⟨l,cs,h5,h6,h7⟩:=sU O3.aW O3.er h4
    obtain⟨y,XE,h8,h9,fu,xE⟩:=h7.h _ g1 a.tmps w1 cs rfl O3 h6;exact⟨_,h5,y,_,XE,h8,rfl,by rw[<-Aq y];exact MH h9,fu,xE⟩
   .obtain⟨h5,h6⟩:=SE D hD
    rw[DG]at h5;exact⟨h5,hx.dn D _ h6⟩
  cases e with
  | normal=>exact fin h4
  | ret=>exact fin h4
  | exit n=>exact h4.elim
end
theorem aa.q {P:Program} {f:FuncId} {fn:Func} {c:Code} {args:List AV} {E:List Chunk} {Y:Type} {Q:Y->Prop} {res:Y->AV} {out:Y->List Chunk} (hf:P.funcs[f]?=some fn) (hb:fn.body=some c)
  (h:∀ S:Sc,S.ok=true->jC (fZ 0 args) fun env=>iq E fun E₁=>OV (bw E) fun M=>fl P fn.ntmps S M c env E₁ fun e aj E'=>match e with
   | .exit _=>False
   | _=>ny P aj E' fn.results.toList fun l=>ae M aj E' l Q (fun y=>P2 (res y)) out)
  (h1:P.follows .mixedOrders=true:=by exact hm) (oR:fn.name ≠ "runtime.NumGoroutine" := by decide) (hn:args.length<=fn.ntmps:=by exact aaM rfl) (Aq:∀ y,one (P2 (res y))=res y:=by exact fun _=>rfl):aa P f args E Q res out :=
 aa.intro h1 hf hb oR hn Aq h
def fv (π:List Nat) (n j:Nat):Nat:=match nth π j with|some i=>i|none=>n+(j - π.length)
def gI (π:List Nat) (n:Nat):AV->AV
 | .ptr j o=>.ptr (fv π n j) o|.bg j s x o=>.bg (fv π n j) s x o|.vec j s o m=>.vec (fv π n j) s o m|.mp j=>.mp (fv π n j)|.hp j f=>.hp (fv π n j) f|.hm j f=>.hm (fv π n j) f|v=>v
def wx:List Nat->Nat->Bool
 | [],_=>false|p::r,i=>match Nat.beq p i with|true=>true|false=>wx r i
def rJ:List Nat->List Chunk->Nat->Bool
 | p::r,c::s,i=>(match Nat.beq p i with|true=>(match c8 c with|true=>false|false=>true)|false=>rJ r s i)|_,_,_=>false
def gJ (π:List Nat) (E₀:List Chunk):AV->AV
 | .ptr i o=>(match rJ π E₀ i with|true=>.undef|false=>.ptr i o)
 | .bg i s x o=>(match rJ π E₀ i with|true=>.undef|false=>.bg i s x o)
 | .vec i s o n=>(match rJ π E₀ i with|true=>.undef|false=>.vec i s o n)
 | .mp i=>(match rJ π E₀ i with|true=>.undef|false=>.mp i)
 | .hp i f=>(match rJ π E₀ i with|true=>.undef|false=>.hp i f)
 | .hm i f=>(match rJ π E₀ i with|true=>.undef|false=>.hm i f)
 | v=>v
def iJ (f:AV->AV):List Nat->List Chunk->List Chunk->List Chunk
 | p::r,c::s,E=>iJ f r s (a8 E p (dg f c))|[],c::s,E=>iJ f [] s (dm E (dg f c))|_,[],E=>E
def Ar:List Chunk->Bool
 | []=>true|.none::_=>false|.count _::_=>false|_::r=>Ar r
theorem BR {π:List Nat} {i:Nat}:wx π i=true↔i∈π:=by
 induction π with
 | nil=>simp[wx]
 | cons p r ih =>
  simp only[wx];split
  .rename_i h;have:=Z3 h;subst this;simp
  .rename_i h;rw[ih];constructor
   .intro h';exact Z5 _ h'
   .intro h';rcases aaj.1 h' with rfl|h'
    .simp at h
    .exact h'
theorem wy:∀ {E:List Chunk},Ar E=true->∀ j,j<ah E->af E j≠.none/\∀ k,af E j≠.count k
 | [],_,j,h=>by simp[ah]at h
 | c::r,h,0,_=>by
  cases c <;> simp[Ar]at h
  all_goals simp[af]
 | c::r,h,j+1,hj=>by
  cases c <;> simp[Ar]at h
  all_goals exact wy h j (by simp[ah]at hj;omega)
theorem wz {E₀:List Chunk}:∀ {π:List Nat} {E₀:List Chunk} {j i:Nat},bH π=true->π[j]?=some i->j<ah E₀->rJ π E₀ i=false->c8 (af E₀ j)=true
 | [],_,j,i,_,h,_,_=>by simp at h
 | p::r,[],j,i,_,h,hj,_=>by simp[ah]at hj
 | p::r,c::s,0,i,_,h,hj,hb=>by
  simp at h;subst h;simp only[rJ,Nat.beq_refl]at hb;cases hf:c8 c <;> simp[hf]at hb
  exact hf
 | p::r,c::s,j+1,i,hn,h,hj,hb=>by
  have bC:Nat.beq p i=false:=by
   cases XF:Nat.beq p i with
   | false=>rfl
   | true =>
    have:=Z3 XF;subst this;have:=mA hn 0 (j+1) p rfl h;cases this
  simp only[rJ,bC]at hb;have qT:bH r=true:=by
   simp only[bH]at hn;split at hn
   .cases hn
   .exact hn
  have h2:ah (c::s)=ah s+1:=rfl;show c8 (af s j)=true;exact @wz E₀ r s j i qT (by simpa using h) (by omega) hb
theorem ym (f:AV->AV):∀ (out E:List Chunk) (i:Nat),af (iJ f [] out E) i=if i<ah E then af E i else dg f (af out (i - ah E))
 | [],E,i=>by
  simp only[iJ];split
  .rfl
  .rw[kr E i (by omega)];simp[af,dg]
 | c::s,E,i=>by
  simp only[iJ];rw[ym f s,lB,lA];rcases abr i (ah E)with h|h|h
  .simp[h,Nat.lt_succ_of_lt h,Nat.ne_of_lt h]
  .subst h;simp[af]
  .have h1:¬i<ah E+1:=by omega
   have h2:¬i<ah E:=by omega
   simp only[h1,h2,if_false];have:i - ah E=(i - (ah E+1))+1:=by omega
   rw[this];rfl
theorem sX (f:AV->AV):∀ (π:List Nat) (out E:List Chunk),ah (iJ f π out E)=ah E+(ah out - π.length)
 | _::r,c::s,E=>by simp[iJ,sX f r s,b8,ah]
 | [],c::s,E=>by simp[iJ,sX f [] s,lB,ah];omega
 | [],[],E=>by simp[iJ,ah]
 | _::_,[],E=>by simp[iJ,ah]
theorem o7 (f:AV->AV):∀ (π:List Nat) (out E:List Chunk) (i:Nat),π.length<=ah out->i∉π->af (iJ f π out E) i=if i<ah E then af E i else dg f (af out (π.length+(i - ah E)))
 | [],out,E,i,_,_=>by rw[ym];simp
 | p::r,[],E,i,h,_=>by simp[ah]at h
 | p::r,c::s,E,i,h,hi=>by
  simp only[iJ];rw[o7 f r s _ i (by simp[ah]at h;omega) (fun h'=>hi (Z5 _ h')),b8,bx];have:¬(p=i/\p<ah E):=fun h=>hi (by rw[h.1];exact Z7 ..);rw[ZY this];simp only[Z9];have e:r.length+1+(i - ah E)=(r.length+(i - ah E))+1:=by omega
  rw[e];rfl
theorem BS (f:AV->AV):∀ (π:List Nat) (out E:List Chunk) (i j:Nat),π.length<=ah out->bH π=true->(∀ p∈π,p<ah E)->π[j]?=some i->af (iJ f π out E) i=dg f (af out j)
 | [],out,E,i,j,_,_,_,h=>by simp at h
 | p::r,[],E,i,j,h,_,_,_=>by simp[ah]at h
 | p::r,c::s,E,i,j,h,hn,hp,hj=>by
  simp only[iJ];have qT:bH r=true/\p∉r:=by
   simp only[bH]at hn;split at hn
   .cases hn
   .rename_i ha
    refine⟨hn,fun hm=>?_⟩;have:r.any (Nat.beq p)=true:=List.any_eq_true.2 ⟨p,hm,Nat.beq_refl p⟩;rw[this]at ha;cases ha
  have hl:r.length<=ah s:=by simp[ah]at h;omega
  cases j with
  | zero =>
   simp at hj;subst hj;have VY:=hp p (Z7 ..);rw[o7 f r s _ p hl qT.2,b8,Z0 VY,bx,Z0 ⟨rfl,VY⟩];rfl
  | succ j =>
   have:=BS f r s (a8 E p (dg f c)) i j hl qT.1 (fun q hq=>by rw[b8];exact hp q (Z5 _ hq)) (by simpa using hj);rw[this];rfl
def jn {α:Type} (π:List Nat) (n:Nat) (a b:Nat->α) (i:Nat):α:=match π.idxOf? i with|some j=>b j|none=>if i<n then a i else b (π.length+(i - n))
def Gh.join (g g':Gh) (π:List Nat):Gh:={ n:=g.n+(g'.n - π.length),Φ:=g'.Φ,B:=jn π g.n g.B g'.B,V:=jn π g.n g.V g'.V,L:=jn π g.n g.L g'.L,k:=g.k,W:=jn π g.n g.W g'.W,M:=jn π g.n g.M g'.M }
theorem F4 {π:List Nat} {i j:Nat} (hn:bH π=true) (h:π[j]?=some i):π.idxOf? i=some j:=by
 cases hx:π.idxOf? i with
 | none =>
  have:=List.idxOf?_eq_none_iff.1 hx;exact(this (aaa.2 ⟨j,h⟩)).elim
 | some k =>
  have hk:π[k]?=some i:=by
   have:=List.findIdx?_eq_some_iff_getElem.1 hx;obtain⟨h1,h2,_⟩:=this;rw[Z1 h1];simpa using h2
  rw[mA hn j k i h hk]
theorem P4 {α:Type} {π:List Nat} {n i j:Nat} {a b:Nat->α} (hn:bH π=true) (h:π[j]?=some i):jn π n a b i=b j:=by simp[jn,F4 hn h]
theorem vg {π:List Nat} {i:Nat} (h:i∉π):π.idxOf? i=none:=List.idxOf?_eq_none_iff.2 h
theorem sY {α:Type} {π:List Nat} {n i:Nat} {a b:Nat->α} (h:i∉π) (hi:i<n):jn π n a b i=a i:=by simp[jn,vg h,hi]
theorem MI {α:Type} {π:List Nat} {n i:Nat} {a b:Nat->α} (h:i∉π) (hi:n<=i):jn π n a b i=b (π.length+(i - n)):=by simp[jn,vg h,Nat.not_lt.2 hi]
theorem jj {π:List Nat} {n j i:Nat} (h:π[j]?=some i):fv π n j=i:=by simp[fv,gE,h]
theorem sZ {π:List Nat} {n j:Nat} (h:π.length<=j):fv π n j=n+(j - π.length):=by simp[fv,gE,h]
theorem jH {α:Type} {π:List Nat} {n j:Nat} {a b:Nat->α} (hn:bH π=true) (hp:∀ p∈π,p<n):jn π n a b (fv π n j)=b j:=by
 by_cases h:j<π.length
 .have h':=Z1 h
  rw[jj h',P4 hn h']
 .rw[sZ (by omega),MI (fun hm=>by have:=hp _ hm;omega) (by omega)]
  congr 1;omega
theorem kx {π:List Nat} {n m j:Nat} (hp:∀ p∈π,p<n) (hj:j<m):fv π n j<n+(m - π.length):=by
 by_cases h:j<π.length
 .have h':=Z1 h
  rw[jj h'];have:=hp _ (aax h);omega
 .rw[sZ (by omega)];omega
theorem Chunk.n5 {g g':Gh} {i j b:Nat} {c:Chunk} (hB:g'.B j=g.B i) (hV:g'.V j=g.V i) (hW:g'.W j=g.W i) (hM:g'.M j=g.M i):c.own g' j b=c.own g i b:=by
 cases c with
 | none=>rfl
 | count=>rfl
 | cells=>simp[Chunk.own,hB]
 | aq=>simp[Chunk.own,hB,hV]
 | jd=>simp[Chunk.own,hB]
 | row=>simp[Chunk.own,hB,hV]
 | heap=>simp[Chunk.own,hW,hM]
 | je=>simp[Chunk.own,hB]
 | iZ=>simp[Chunk.own,hB]
 | bq=>simp[Chunk.own,hW]
theorem Chunk.BT {g g':Gh} {i j b:Nat} {c:Chunk} (h:Ac c=true) (hB:g'.B j=g.B i) (hV:g'.V j=g.V i):c.own g' j b=c.own g i b:=by
 cases c with
 | none=>rfl
 | count=>rfl
 | cells=>simp[Chunk.own,hB]
 | aq=>simp[Chunk.own,hB,hV]
 | jd=>simp[Chunk.own,hB]
 | row=>simp[Chunk.own,hB,hV]
 | heap=>cases h
 | je=>simp[Chunk.own,hB]
 | iZ=>simp[Chunk.own,hB]
 | bq=>cases h
theorem Jf {g g':Gh} {π:List Nat} (hn:bH π=true) (hp:∀ p∈π,p<g.n):∀ v u,isRef v=true->R g' v u->R (g.join g' π) (gI π g.n v) u:=by
 intro v u hv hr;have eB:∀ j,(g.join g' π).B (fv π g.n j)=g'.B j:=fun j=>jH hn hp;have eV:∀ j,(g.join g' π).V (fv π g.n j)=g'.V j:=fun j=>jH hn hp;have eL:∀ j,(g.join g' π).L (fv π g.n j)=g'.L j:=fun j=>jH hn hp;have eW:∀ j,(g.join g' π).W (fv π g.n j)=g'.W j:=fun j=>jH hn hp;have eM:∀ j,(g.join g' π).M (fv π g.n j)=g'.M j:=fun j=>jH hn hp;cases hr <;> first|(cases hv;done)|skip
 .rename_i j off hj
  simp only[gI];rw[<-eB j];exact .ptr _ _ (kx hp hj)
 .rename_i j sz idx off hj hL
  simp only[gI];rw[<-eB j];exact .bg _ _ _ _ (kx hp hj) (by rw[eL];exact hL)
 .rename_i j sz off n A c hj hL rK hs
  simp only[gI];exact .vec _ _ _ _ A c (kx hp hj) (by rw[eL];exact hL) (by rw[eV];exact rK) (by rw[eV,eB];exact hs)
 .rename_i j hj
  simp only[gI];rw[<-eB j];exact .mp _ (kx hp hj)
 .rename_i j f hj hf
  simp only[gI];rw[<-eW j];exact .hp _ _ (kx hp hj) (by rw[eM];exact hf)
 .rename_i j f hj hf
  simp only[gI];rw[<-eW j];exact .hm _ _ (kx hp hj) (by rw[eM];exact hf)
theorem yn {π:List Nat} {c:Chunk} (h:rH π .none c):c=.none:=by
 cases c <;> simp only[rH]at h <;> first|rfl|exact h.elim
theorem Inv.join {B:bS} {g g':Gh} {env:Env} {E E₀ out:List Chunk} {tmps:Array Value} {w w':World} {π:List Nat} (h:Inv B g env E tmps w) (hn:bH π=true) (hk:Ar E₀=true) (hE:o0 π E π E₀)
  (hs:eE g' out w') (hx:Ext ⟨g.dC π,E₀,w⟩ g' out w') :
  Inv B (g.join g' π) (ba (gJ π E₀) env) (iJ (gI π (ah E)) π out (cT (gJ π E₀) E)) tmps w'/\∀ v u,R g' v u->R (g.join g' π) (df (gI π (ah E)) v) u:=by
 have hlen:=h.aW.len;have hl₀:ah E₀=π.length:=o5 π E₀ hE;have F5:π.length<=ah out:=by have:=hx.n;have:=hs.len;simp only at *;omega
 have ql:∀ j i,π[j]?=some i->rH π (af E i) (af E₀ j)/\af E₀ j≠.none:=by
  intro j i hj;have q8:j<ah E₀:=by rw[hl₀];exact(Z2.1 hj).1
  have bC:=(wy hk j q8).1;rcases qq π E₀ hE j with⟨i',dW,hc⟩|hc
  .rw[hj]at dW;cases dW;exact⟨hc,bC⟩
  .exact(bC hc).elim
 have TP:∀ j i,π[j]?=some i->∀ k,af E₀ j≠.count k:=fun j i hj=>(wy hk j (by rw[hl₀];exact(Z2.1 hj).1)).2;have hp:∀ p∈π,p<ah E:=by
  intro p hp;obtain⟨j,hj⟩:=aaa.1 hp;obtain⟨h1,h2⟩:=ql j p hj;exact dI (fun e=>by rw[e]at h1;exact h2 (yn h1))
 have MJ:∀ p∈π,p<g.n:=fun p hq=>by rw[<-hlen];exact hp p hq
 have MK:=Jf (g:=g) (g':=g') hn MJ;rw[<-hlen]at MK;have eB:∀ j,(g.join g' π).B (fv π g.n j)=g'.B j:=fun j=>jH hn MJ;have eV:∀ j,(g.join g' π).V (fv π g.n j)=g'.V j:=fun j=>jH hn MJ;have eL:∀ j,(g.join g' π).L (fv π g.n j)=g'.L j:=fun j=>jH hn MJ;have oB:∀ i,i∉π->i<g.n->(g.join g' π).B i=g.B i:=fun i h1 h2=>sY h1 h2;have oV:∀ i,i∉π->i<g.n->(g.join g' π).V i=g.V i:=fun i h1 h2=>sY h1 h2;have oL:∀ i,i∉π->i<g.n->(g.join g' π).L i=g.L i:=fun i h1 h2=>sY h1 h2;have eW:∀ j,(g.join g' π).W (fv π g.n j)=g'.W j:=fun j=>jH hn MJ;have eM:∀ j,(g.join g' π).M (fv π g.n j)=g'.M j:=fun j=>jH hn MJ;have oW:∀ i,i∉π->i<g.n->(g.join g' π).W i=g.W i:=fun i h1 h2=>sY h1 h2;have oM:∀ i,i∉π->i<g.n->(g.join g' π).M i=g.M i:=fun i h1 h2=>sY h1 h2;have hΦ:∀ b o,g.Φ b=some o->(g.join g' π).Φ b=some o:=fun b o hb=>hx.dn b o hb;have VZ:∀ j,c8 (af E₀ j)=true->∀ i,π[j]?=some i->(g.join g' π).B i=g.B i/\(g.join g' π).V i=g.V i/\(g.join g' π).L i=g.L i:=by
  intro j hc i hj;have h1:=hx.ids j hc;have h2:(g.join g' π).B i=g'.B j:=by have:=eB j;rwa [jj hj]at this
  have h3:(g.join g' π).V i=g'.V j:=by have:=eV j;rwa [jj hj]at this
  have h4:(g.join g' π).L i=g'.L j:=by have:=eL j;rwa [jj hj]at this
  rw[h2,h3,h4,h1.1,h1.2.1,h1.2.2];exact fF g hj
 have ML:∀ j,c8 (af E₀ j)=true->∀ i,π[j]?=some i->(∀ k,k<g.M i->(g.join g' π).W i k=g.W i k)/\g.M i<=(g.join g' π).M i:=by
  intro j hc i hj;have h2:(g.join g' π).W i=g'.W j:=by have:=eW j;rwa [jj hj]at this
  have h3:(g.join g' π).M i=g'.M j:=by have:=eM j;rwa [jj hj]at this
  have hr:=o3 g hj;refine⟨fun k hk=>?_,?_⟩
  .rw[h2,hx.rC j k hc (by show k<(g.dC π).M j;rw[hr.2];exact hk)]
   show(g.dC π).W j k=_;rw[hr.1]
  .rw[h3,<-hr.2];exact hx.qi j hc
 have Jg:(g.join g' π).n=g.n+(g'.n - π.length):=rfl;have Jh:∀ i j,π[j]?=some i->c8 (af B.E i)=true->c8 (af E₀ j)=true:=by
  intro i j hj hi;obtain⟨h1,h2⟩:=ql j i hj;cases hc:af E₀ j with
  | none=>exact(h2 hc).elim
  | count k=>exact((TP j i hj) k hc).elim
  | cells _ _=>rfl
  | jd _ _ _=>rfl
  | row _ _ _=>rfl
  | heap _=>rfl
  | je _ _ _ _=>rfl
  | bq _=>rfl
  | aq _ _ _ =>
   rw[hc]at h1;cases hg:af E i <;> rw[hg]at h1 <;> first|exact h1.elim|exact(jg (h.ext.mY i hi) hg).elim
  | iZ _ _ =>
   rw[hc]at h1;cases hg:af E i <;> rw[hg]at h1 <;> first|exact h1.elim|exact(sv (h.ext.mY i hi) hg).elim
 have P5:∀ v u,isRef v=true->R g v u->R (g.join g' π) (gJ π E₀ v) u:=by
  intro v u hv hr;have stay:∀ i,i<g.n->rJ π E₀ i=false->(g.join g' π).B i=g.B i/\(g.join g' π).V i=g.V i/\(g.join g' π).L i=g.L i:=by
   intro i hi hb;by_cases hm:i∈π
   .obtain⟨j,hj⟩:=aaa.1 hm
    exact VZ j (wz (E₀:=E₀) hn hj (by rw[hl₀];exact(Z2.1 hj).1) hb) i hj
   .exact⟨oB i hm hi,oV i hm hi,oL i hm hi⟩
  have Ll:∀ i,i<g.n->rJ π E₀ i=false->(∀ k,k<g.M i->(g.join g' π).W i k=g.W i k)/\g.M i<=(g.join g' π).M i:=by
   intro i hi hb;by_cases hm:i∈π
   .obtain⟨j,hj⟩:=aaa.1 hm
    exact ML j (wz (E₀:=E₀) hn hj (by rw[hl₀];exact(Z2.1 hj).1) hb) i hj
   .exact⟨fun k _=>by rw[oW i hm hi],by rw[oM i hm hi];exact Z8 _⟩
  cases hr <;> first|(cases hv;done)|skip
  .rename_i i off hi
   simp only[gJ];split
   .exact .undef _
   .rename_i hb
    rw[<-(stay i hi hb).1];exact .ptr _ _ (by rw[Jg];omega)
  .rename_i i sz idx off hi hL
   simp only[gJ];split
   .exact .undef _
   .rename_i hb
    rw[<-(stay i hi hb).1];exact .bg _ _ _ _ (by rw[Jg];omega) (by rw[(stay i hi hb).2.2];exact hL)
  .rename_i i sz off n A c hi hL rK DA
   simp only[gJ];split
   .exact .undef _
   .rename_i hb
    exact .vec _ _ _ _ A c (by rw[Jg];omega) (by rw[(stay i hi hb).2.2];exact hL) (by rw[(stay i hi hb).2.1];exact rK) (by rw[(stay i hi hb).2.1,(stay i hi hb).1];exact DA)
  .rename_i i hi
   simp only[gJ];split
   .exact .undef _
   .rename_i hb
    rw[<-(stay i hi hb).1];exact .mp _ (by rw[Jg];omega)
  .rename_i i f hi hf
   simp only[gJ];split
   .exact .undef _
   .rename_i hb
    have fR:=Ll i hi hb;have:=R.hp (g:=g.join g' π) i f (by rw[Jg];omega) (fun x hx=>aag (hf x hx) fR.2);cases Fp:f ()with
    | none=>rw[Fp]at this;exact this
    | some x=>rw[Fp]at this;simp only[aaO]at this ⊢;rw[<-fR.1 x.1 (hf x Fp)];exact this
  .rename_i i f hi hf
   simp only[gJ];split
   .exact .undef _
   .rename_i hb
    have fR:=Ll i hi hb;rw[<-fR.1 _ hf];exact .hm (g:=g.join g' π) i f (by rw[Jg];omega) (aag hf fR.2)
 have V0:∀ i j,π[j]?=some i->af (iJ (gI π (ah E)) π out (cT (gJ π E₀) E)) i=dg (gI π (ah E)) (af out j):=fun i j hj =>
  BS _ π out _ i j F5 hn (fun p hq=>by rw[dY];exact hp p hq) hj
 have P6:∀ i,i∉π->i<ah E->af (iJ (gI π (ah E)) π out (cT (gJ π E₀) E)) i=dg (gJ π E₀) (af E i):=fun i hm hi=>by
  rw[o7 _ π out _ i F5 hm,dY,Z0 hi,fi]
 have TQ:∀ i,ah E<=i->af (iJ (gI π (ah E)) π out (cT (gJ π E₀) E)) i=dg (gI π (ah E)) (af out (π.length+(i - ah E))):=fun i hi=>by
  rw[o7 _ π out _ i F5 (fun hm=>by have:=hp i hm;omega),dY,ZY (by omega)]
 have key:∀ i,(∃ j,i=fv π (ah E) j/\af (iJ (gI π (ah E)) π out (cT (gJ π E₀) E)) i=dg (gI π (ah E)) (af out j)/\((π[j]?=some i/\i<ah E)\/(ah E<=i/\π.length<=j))) \/
   (i∉π/\i<ah E/\af (iJ (gI π (ah E)) π out (cT (gJ π E₀) E)) i=dg (gJ π E₀) (af E i)):=by
  intro i;by_cases hm:i∈π
  .obtain⟨j,hj⟩:=aaa.1 hm
   exact .inl ⟨j,(jj hj).symm,V0 i j hj,.inl ⟨hj,hp i hm⟩⟩
  .rcases Nat.lt_or_ge i (ah E)with hi|hi
   .exact .inr ⟨hm,hi,P6 i hm hi⟩
   .exact .inl ⟨π.length+(i - ah E),by rw[sZ (by omega)];omega,TQ i hi,.inr ⟨hi,by omega⟩⟩
 have V1:∀ j,(g.join g' π).B (fv π (ah E) j)=g'.B j:=by rw[hlen];exact eB
 have V2:∀ j,(g.join g' π).V (fv π (ah E) j)=g'.V j:=by rw[hlen];exact eV
 have XG:∀ j,(g.join g' π).L (fv π (ah E) j)=g'.L j:=by rw[hlen];exact eL
 have V3:∀ j,(g.join g' π).W (fv π (ah E) j)=g'.W j:=by rw[hlen];exact eW
 have V4:∀ j,(g.join g' π).M (fv π (ah E) j)=g'.M j:=by rw[hlen];exact eM
 have Dq:∀ j,j<g'.n->fv π (ah E) j<(g.join g' π).n:=fun j hj=>by rw[hlen];exact kx MJ hj
 have vh:∀ j b,(dg (gI π (ah E)) (af out j)).own (g.join g' π) (fv π (ah E) j) b->(af out j).own g' j b:=by
  intro j b hb;rw[iI]at hb;rwa [Chunk.n5 (V1 j) (V2 j) (V3 j) (V4 j)]at hb
 have qt:∀ i b,i∉π->i<ah E->(dg (gJ π E₀) (af E i)).own (g.join g' π) i b->(af E i).own g i b:=by
  intro i b hm hi hb;rw[iI]at hb;rwa [Chunk.n5 (oB i hm (by omega)) (oV i hm (by omega)) (oW i hm (by omega)) (oM i hm (by omega))]at hb
 have owns:∀ b,(⟨g.dC π,E₀,w⟩:bS).owns b->∃ i∈π,(af E i).own g i b:=by
  rintro b ⟨j,hj⟩;have q8:j<ah E₀:=z7 hj;have lg:π[j]?=some (π[j]'(by omega)):=Z1 (by omega);exact⟨_,aax _,mB lg _ _ (ql _ _ lg).1 hj⟩
 have P7:∀ i b,i∉π->(af E i).own g i b->w'.heap[b]?=w.heap[b]?:=by
  intro i b hm hb;refine hx.cz b (eQ (h.aW.sat i) hb) (fun ho=>?_);obtain⟨i',dW,dw⟩:=owns b ho;have:=h.aW.lf i i' b hb dw;subst this;exact hm dW
 have As:∀ j b,(af out j).own g' j b->w.heap.size<=b\/∃ i∈π,(af E i).own g i b:=by
  intro j b hb;rcases hx.own j b hb with h1|h1
  .exact .inl h1
  .exact .inr (owns b h1)
 have TS:∀ b,(w.heap.size<=b\/∃ i∈π,(af E i).own g i b)->B.w.heap.size<=b\/B.owns b:=by
  rintro b (h1|⟨i,_,h1⟩)
  .exact .inl (aaA h.ext.size h1)
  .exact h.ext.own i b h1
 refine⟨⟨fun t=>?_,⟨?_,hs.dn,fun i=>?_,fun i k b hi hk=>?_,fun i b hi=>?_⟩,⟨hx.os.trans h.ext.os,hx.tape.trans h.ext.tape,hx.output.trans h.ext.output,aaA h.ext.size hx.size,fun b h1 h2=>?_,fun b o hb=>hΦ b o (h.ext.dn b o hb),fun b o hb=>?_,fun i b hi=>?_,?_,fun i hi=>?_,h.ext.kk,fun i hi=>?_,fun i k hi hk=>?_,fun i hi=>?_⟩⟩,fun v u hr=>R.map (g:=g') (g':=g.join g' π) (gI π (ah E)) (fun _ _ h=>h) MK hr⟩
 .rw[cU];exact(h.er t).map _ hΦ P5
 .rw[sX,dY,Jg,<-hlen,hs.len]
 .rcases key i with⟨j,cx,hg,_⟩|⟨hm,hi,hg⟩
  .rw[hg,cx]
   exact Chunk.o6 (g:=g') (g':=g.join g' π) _ (fun _ _ h=>h) MK (V1 j) (V2 j) (XG j) hx.kk.symm (V3 j) (V4 j) (Dq j) (fun _ _=>rfl) (hs.sat j)
  .rw[hg]
   exact Chunk.o6 (g:=g) (g':=g.join g' π) _ hΦ P5 (oB i hm (by omega)) (oV i hm (by omega)) (oL i hm (by omega)) rfl (oW i hm (by omega)) (oM i hm (by omega)) (fun h=>by rw[Jg];omega) (fun b hb=>P7 i b hm hb) (h.aW.sat i)
 .rcases key i with⟨j,cx,hg,hc⟩|⟨hm,dp,hg⟩ <;> rcases key k with⟨j',MO,Lm,Dd⟩|⟨zN,P8,Lm⟩
  .rw[hg,cx]at hi
   rw[Lm,MO]at hk;have:=hs.lf j j' b (vh j b hi) (vh j' b hk);rw[cx,MO,this]
  .rw[hg,cx]at hi
   rw[Lm]at hk;have h2:=qt k b zN P8 hk;rcases As j b (vh j b hi)with h3|⟨i',dW,h3⟩
   .have:=eQ (h.aW.sat k) h2;omega
   .have:=h.aW.lf k i' b h2 h3
    subst this;exact(zN dW).elim
  .rw[hg]at hi
   rw[Lm,MO]at hk;have h2:=qt i b hm dp hi;rcases As j' b (vh j' b hk)with h3|⟨i',dW,h3⟩
   .have:=eQ (h.aW.sat i) h2;omega
   .have:=h.aW.lf i i' b h2 h3
    subst this;exact(hm dW).elim
  .rw[hg]at hi
   rw[Lm]at hk;exact h.aW.lf i k b (qt i b hm dp hi) (qt k b zN P8 hk)
 .show g'.Φ b=none
  rcases key i with⟨j,cx,hg,hc⟩|⟨hm,dp,hg⟩
  .rw[hg,cx]at hi
   exact hs.dE j b (vh j b hi)
  .rw[hg]at hi
   have h2:=qt i b hm dp hi;cases hf:g'.Φ b with
   | none=>rfl
   | some o =>
    rcases hx.fz b o hf with h3|h3|h3
    .have:g.Φ b=some o:=h3
     rw[h.aW.dE i b h2]at this;cases this
    .have:=eQ (h.aW.sat i) h2
     exact absurd h3 (by simp only;omega)
    .obtain⟨i',dW,h4⟩:=owns b h3
     have:=h.aW.lf i i' b h2 h4;subst this;exact(hm dW).elim
 .have cy:¬(⟨g.dC π,E₀,w⟩:bS).owns b:=fun ho=>by
   obtain⟨i',dW,h4⟩:=owns b ho;rcases h.ext.own i' b h4 with h5|h5
   .omega
   .exact h2 h5
  rw[hx.cz b (aag h1 h.ext.size) cy];exact h.ext.cz b h1 h2
 .rcases hx.fz b o hb with h3|h3|h3
  .exact h.ext.fz b o h3
  .exact .inr (.inl (aaA h.ext.size h3))
  .obtain⟨i',dW,h4⟩:=owns b h3
   exact .inr (h.ext.own i' b h4)
 .rcases key i with⟨j,cx,hg,hc⟩|⟨hm,dp,hg⟩
  .rw[hg,cx]at hi
   exact TS b (As j b (vh j b hi))
  .rw[hg]at hi
   exact h.ext.own i b (qt i b hm dp hi)
 .rw[Jg];have:=h.ext.n;omega
 .have dp:i<g.n:=aag (jD hi) h.ext.n
  by_cases hm:i∈π
  .obtain⟨j,hj⟩:=aaa.1 hm
   have k1:=VZ j (Jh i j hj hi) i hj;rw[k1.1,k1.2.1,k1.2.2];exact h.ext.ids i hi
  .rw[oB i hm dp,oV i hm dp,oL i hm dp];exact h.ext.ids i hi
 .have dp:i<ah E:=by rw[hlen];exact aag (jD hi) h.ext.n
  by_cases hm:i∈π
  .obtain⟨j,hj⟩:=aaa.1 hm
   rw[V0 i j hj,rX];exact hx.mY j (Jh i j hj hi)
  .rw[P6 i hm dp,rX]
   exact h.ext.mY i hi
 .have dp:i<g.n:=aag (jD hi) h.ext.n
  by_cases hm:i∈π
  .obtain⟨j,hj⟩:=aaa.1 hm
   rw[(ML j (Jh i j hj hi) i hj).1 k (aag hk (h.ext.qi i hi))];exact h.ext.rC i k hi hk
  .rw[oW i hm dp];exact h.ext.rC i k hi hk
 .have dp:i<g.n:=aag (jD hi) h.ext.n
  by_cases hm:i∈π
  .obtain⟨j,hj⟩:=aaa.1 hm
   exact aaA (h.ext.qi i hi) (ML j (Jh i j hj hi) i hj).2
  .rw[oM i hm dp];exact h.ext.qi i hi
theorem ab.intro {P:Program} {f:FuncId} {args args₀:List AV} {env:Env} {E E₀:List Chunk} {K:AV->Env->List Chunk->Prop} {Y:Type} {Q:Y->Prop} {res:Y->AV} {out:Y->List Chunk}
  (hs:aa P f args₀ E₀ Q res out) (π:List Nat) (hn:bH π=true) (hk:Ar E₀=true) (ha:r0 π args args₀) (hE:o0 π E π E₀)
  (k:∀ y,Q y->fV (df (gI π (ah E)) (res y)) fun r=>jC (ba (gJ π E₀) env) fun aj=>iq (iJ (gI π (ah E)) π (out y) (cT (gJ π E₀) E)) fun E'=>K r aj E'):ab P f args env E K where
 aA:=hs.aA
 h:=by
  intro B g tmps w aC h hr;refine(hs.h (g.dC π) w aC (h.aW.dC hE hn) (eT _ _ _ ha hr)).mono ?_;rintro e w' ⟨y,c,g',hq,rfl,h1,h2,h3⟩;obtain⟨h4,h5⟩:=h.join hn hk hE h2 h3;have vY:=k y hq;rw[fP,c9,a7]at vY;exact⟨c,_,_,_,_,rfl,h4,h5 _ _ h1,vY⟩
def jk (i:Nat) (cs:List AV):AV->AV
 | .ptr j o=>(match Nat.beq j i with|true=>.cM cs o|false=>.ptr j o)
 | .bg j s x o=>(match Nat.beq j i with|true=>.undef|false=>.bg j s x o)
 | .vec j s o n=>(match Nat.beq j i with|true=>.undef|false=>.vec j s o n)
 | .mp j=>(match Nat.beq j i with|true=>.undef|false=>.mp j)
 | .hp j f=>(match Nat.beq j i with|true=>.undef|false=>.hp j f)
 | .hm j f=>(match Nat.beq j i with|true=>.undef|false=>.hm j f)
 | v=>v
def yo:List Nat->Env->List Chunk->(Env->List Chunk->Prop)->Prop
 | [],env,E,K=>K env E
 | i::r,env,E,K=>match af E i with
  | .aq T t xs=>jC (ba (nU i t xs) env) fun env=>iq (cT (nU i t xs) (a8 E i .none)) fun E=>yo r env E K
  | .cells T cs=>jC (ba (jk i cs) env) fun env=>iq (cT (jk i cs) (a8 E i .none)) fun E=>yo r env E K
  | _=>False
def kd:Chunk->Nat
 | .none=>0|.cells _ _=>1|.aq _ _ _=>2|.count _=>3|.jd _ _ _=>4|.row _ _ _=>5|.heap _=>6|.je _ _ _ _=>7|.iZ _ _=>8|.bq _=>9
theorem MR (f:AV->AV) (c:Chunk):kd (dg f c)=kd c:=by cases c <;> rfl
theorem MS {c d:Chunk} (h:kd c=kd d) (g:Gh) (i b:Nat):c.own g i b=d.own g i b:=by
 cases c <;> cases d <;> first|rfl|(simp[kd]at h;done)
structure Gh.dN (g g':Gh):Prop where
 n:g'.n=g.n
 B:g'.B=g.B
 V:g'.V=g.V
 L:g'.L=g.L
 k:g'.k=g.k
 W:g'.W=g.W
 M:g'.M=g.M
theorem Gh.dN.own {g g':Gh} (h:g.dN g') (c:Chunk) (i b:Nat):c.own g' i b=c.own g i b:=Chunk.n5 (by rw[h.B]) (by rw[h.V]) (by rw[h.W]) (by rw[h.M])
theorem Gh.dN.trans {a b c:Gh} (h:a.dN b) (h':b.dN c):a.dN c:=⟨h'.n.trans h.n,h'.B.trans h.B,h'.V.trans h.V,h'.L.trans h.L,h'.k.trans h.k,h'.W.trans h.W,h'.M.trans h.M⟩
theorem Inv.start {g:Gh} {env:Env} {E:List Chunk} {tmps:Array Value} {w:World} (hS:eE g E w) (hE:ER g env tmps):Inv ⟨g,E,w⟩ g env E tmps w :=
 ⟨hE,hS,⟨rfl,rfl,ja.refl _,Z8 _,fun _ _ _=>rfl,fun _ _ h=>h,fun _ _ h=>.inl h,fun i b h=>.inr ⟨i,h⟩,ab4 hS.len,fun _ _=>⟨rfl,rfl,rfl⟩,rfl,fun i h1=>Aa h1,fun _ _ _ _=>rfl,fun _ _=>Z8 _⟩⟩
theorem Au {g:Gh} {env:Env} {E:List Chunk} {tmps:Array Value} {w:World} {i:Nat} {T:TypeId} {cs:List AV} (hS:eE g E w) (hE:ER g env tmps) (hc:af E i=.cells T cs) :
  ∃ g',eE g' (cT (jk i cs) (a8 E i .none)) w/\ER g' (ba (jk i cs) env) tmps/\g.dN g'/\(∀ b o,g.Φ b=some o->g'.Φ b=some o)/\(∀ b o,g'.Φ b=some o->g.Φ b=some o\/(af E i).own g i b)/\(∀ b,(af E i).own g i b->∃ o,g'.Φ b=some o):=by
 have hs:=hS.sat i;rw[hc]at hs;obtain⟨vs,hb,Dq⟩:=hs;have hblk:(af E i).own g i (g.B i):=by rw[hc];rfl
 have hi:i<ah E:=z7 hblk
 let g':Gh:={ g with Φ:=fun b=>if b=g.B i then w.heap[g.B i]? else g.Φ b }
 have hΦ:∀ b o,g.Φ b=some o->g'.Φ b=some o:=by
  intro b o hb;show(if b=g.B i then w.heap[g.B i]? else g.Φ b)=some o;rw[ZY (fun e=>by subst e;rw[hS.dE i _ hblk]at hb;cases hb)];exact hb
 have qZ:∀ v u,isRef v=true->R g v u->R g' (jk i cs v) u:=by
  intro v u hv hr;cases hr <;> first|(cases hv;done)|skip
  .rename_i j off hj
   simp only[jk];split
   .rename_i jN
    have jN:=Z3 jN;subst jN;have hx:∀ (k:Nat) (y:AV),cs[k]?=some y->∃ u,vs[k]?=some u/\R g y u:=fun k y hy=>by
     obtain⟨u,h1,h2⟩:=Dq.get hy;exact⟨u,by simpa using h1,h2⟩
    have:=R.cM (g:=g') cs off (g.B j) 0 (fun k=>vs.getD k Go.undef) (fun k y hy=>?_) (fun k y hy=>?_)
    .simpa using this
    .obtain⟨u,h1,h2⟩:=hx k y hy
     refine⟨_,_,vs,T,(0,0),rfl,?_,by simp[h1,aan]⟩;show(if g.B j=g.B j then w.heap[g.B j]? else g.Φ (g.B j))=_;rw[Z0 rfl];exact hb
    .obtain⟨u,h1,h2⟩:=hx k y hy
     have e:vs.getD k Go.undef=u:=by simp[h1,aan]
     simp only[e];have:=R.map (g:=g) (g':=g') id hΦ (fun v u hv h=>?_) h2
     .rwa [gT]at this
     .cases h <;> first|(cases hv;done)|skip
      .exact .ptr (g:=g') _ _ ‹_›
      .exact .bg (g:=g') _ _ _ _ ‹_› ‹_›
      .rename_i hi hL hn hs
       exact .vec (g:=g') _ _ _ _ _ _ hi hL hn hs
      .exact .mp (g:=g') _ ‹_›
      .rename_i hi hf
       exact .hp (g:=g') _ _ hi hf
      .rename_i hi hf
       exact .hm (g:=g') _ _ hi hf
   .exact .ptr (g:=g') j off hj
  .rename_i j sz idx off hj hL
   simp only[jk];split
   .exact .undef _
   .exact .bg (g:=g') j sz idx off hj hL
  .rename_i j s o n A c hj hL hn sm
   simp only[jk];split
   .exact .undef _
   .exact .vec (g:=g') j s o n A c hj hL hn sm
  .rename_i j hj
   simp only[jk];split
   .exact .undef _
   .exact .mp (g:=g') j hj
  .rename_i j f hj hf
   simp only[jk];split
   .exact .undef _
   .exact .hp (g:=g') j f hj hf
  .rename_i j f hj hf
   simp only[jk];split
   .exact .undef _
   .exact .hm (g:=g') j f hj hf
 have cL:∀ j,af (cT (jk i cs) (a8 E i .none)) j=if i=j then .none else dg (jk i cs) (af E j):=by
  intro j;rw[fi,bx];by_cases cx:i=j
  .subst cx;simp[hi,dg]
  .simp[cx]
 have yl:∀ j b,(af (cT (jk i cs) (a8 E i .none)) j).own g' j b->i≠j/\(af E j).own g j b:=by
  intro j b hj;rw[cL]at hj;split at hj
  .cases hj
  .rename_i cx
   rw[iI]at hj;exact⟨cx,hj⟩
 refine⟨g',⟨by rw[dY,b8];exact hS.len,fun b o dw=>?_,fun j=>?_,fun j k b hj hk=>hS.lf j k b (yl j b hj).2 (yl k b hk).2,fun j b hj=>?_⟩,fun t=>?_,⟨rfl,rfl,rfl,rfl,rfl,rfl,rfl⟩,hΦ,fun b o dw=>?_,fun b dw=>?_⟩
 .have mC:(if b=g.B i then w.heap[g.B i]? else g.Φ b)=some o:=dw
  clear dw;split at mC
  .rename_i e;rw[e];exact mC
  .exact hS.dn b o mC
 .rw[cL]
  split
  .trivial
  .exact Chunk.o6 (g:=g) (g':=g') _ hΦ qZ rfl rfl rfl rfl rfl rfl (fun h=>h) (fun _ _=>rfl) (hS.sat j)
 .obtain⟨h1,h2⟩:=yl j b hj
  show(if b=g.B i then w.heap[g.B i]? else g.Φ b)=none;rw[ZY (fun e=>by subst e;exact h1 (hS.lf i j _ hblk h2))];exact hS.dE j b h2
 .rw[cU];exact R.map (g:=g) (g':=g') _ hΦ qZ (hE t)
 .have mC:(if b=g.B i then w.heap[g.B i]? else g.Φ b)=some o:=dw
  clear dw;split at mC
  .rename_i e;rw[e];exact .inr hblk
  .exact .inl mC
 .rw[hc]at dw
  cases dw;refine⟨.cells vs T (0,0),?_⟩;show(if g.B i=g.B i then w.heap[g.B i]? else g.Φ (g.B i))=_;rw[Z0 rfl];exact hb
theorem r5 {tmps:Array Value} {w:World}:∀ (φ:List Nat) {g:Gh} {env:Env} {E:List Chunk} {K:Env->List Chunk->Prop},eE g E w->ER g env tmps->yo φ env E K ->
  ∃ g' aj E',eE g' E' w/\ER g' aj tmps/\K aj E'/\g.dN g'/\(∀ b o,g.Φ b=some o->g'.Φ b=some o)/\(∀ b o,g'.Φ b=some o->g.Φ b=some o\/∃ i∈φ,(af E i).own g i b) /\
   ah E'=ah E/\(∀ i,i∈φ->af E' i=.none)/\(∀ i,i∉φ->kd (af E' i)=kd (af E i))/\(∀ i∈φ,∀ b,(af E i).own g i b->∃ o,g'.Φ b=some o)
 | [],g,env,E,K,hS,hE,hk=>⟨g,env,E,hS,hE,hk,⟨rfl,rfl,rfl,rfl,rfl,rfl,rfl⟩,fun _ _ h=>h,fun _ _ h=>.inl h,rfl,by simp,fun _ _=>rfl,by simp⟩
 | i::r,g,env,E,K,hS,hE,hk=>by
  have go:∀ (f:AV->AV) (g1:Gh),eE g1 (cT f (a8 E i .none)) w->ER g1 (ba f env) tmps->g.dN g1->(∀ b o,g.Φ b=some o->g1.Φ b=some o)->(∀ b o,g1.Φ b=some o->g.Φ b=some o\/(af E i).own g i b)->(∀ b,(af E i).own g i b->∃ o,g1.Φ b=some o) ->
    yo r (ba f env) (cT f (a8 E i .none)) K->∃ g' aj E',eE g' E' w/\ER g' aj tmps/\K aj E'/\g.dN g'/\(∀ b o,g.Φ b=some o->g'.Φ b=some o)/\(∀ b o,g'.Φ b=some o->g.Φ b=some o\/∃ j∈i::r,(af E j).own g j b) /\
     ah E'=ah E/\(∀ j,j∈i::r->af E' j=.none)/\(∀ j,j∉i::r->kd (af E' j)=kd (af E j))/\(∀ j∈i::r,∀ b,(af E j).own g j b->∃ o,g'.Φ b=some o):=by
   intro f g1 h1 h2 h3 h4 h5 XH h6;obtain⟨g',aj,E',e1,e2,e3,e4,e5,e6,e7,e8,e9,XI⟩:=r5 r h1 h2 h6;have cL:∀ j,af (cT f (a8 E i .none)) j=.none\/(i≠j/\af (cT f (a8 E i .none)) j=dg f (af E j)):=by
    intro j;rw[fi,bx];by_cases cx:i=j
    .subst cx
     by_cases hl:i<ah E
     .left;simp[hl,dg]
     .left;rw[kr E i (by omega)];simp[dg]
    .right;exact⟨cx,by simp[cx]⟩
   refine⟨g',aj,E',e1,e2,e3,h3.trans e4,fun b o hb=>e5 b o (h4 b o hb),fun b o hb=>?_,by rw[e7,dY,b8],fun j hj=>?_,fun j hj=>?_,fun j hj b hb=>?_⟩
   .rcases e6 b o hb with h7|⟨j,hj,h7⟩
    .rcases h5 b o h7 with h8|h8
     .exact .inl h8
     .exact .inr ⟨i,Z7 ..,h8⟩
    .rcases cL j with h8|⟨_,h8⟩
     .rw[h8]at h7;cases h7
     .rw[h8,iI,h3.own]at h7
      exact .inr ⟨j,Z5 _ hj,h7⟩
   .by_cases TT:j∈r
    .exact e8 j TT
    .rcases aaj.1 hj with rfl|hj
     .have:=e9 j TT
      rcases cL j with h8|⟨h8,_⟩
      .rw[h8]at this
       cases hc:af E' j <;> rw[hc]at this <;> first|rfl|(simp[kd]at this;done)
      .exact(h8 rfl).elim
     .exact(TT hj).elim
   .have lg:i≠j/\j∉r:=⟨fun e=>hj (e▸Z7 ..),fun h=>hj (Z5 _ h)⟩
    rw[e9 j lg.2,fi,bx,ZY (fun h=>lg.1 h.1),MR]
   .by_cases cx:i=j
    .subst cx
     obtain⟨o,ho⟩:=XH b hb;exact⟨o,e5 b o ho⟩
    .rcases aaj.1 hj with e|hj
     .exact(cx e.symm).elim
     .refine XI j hj b ?_
      rw[fi,bx,ZY (fun h=>cx h.1),iI,h3.own];exact hb
  simp only[yo]at hk;split at hk <;> try exact hk.elim
  .rename_i T t xs hc
   rw[c9,a7]at hk;obtain⟨g1,cG,E1,Zx,h1,_,⟨rfl,rfl⟩,h3,h4,h5,h6⟩:=BF (cs:=[]) (us:=[]) (K:=fun aj E' _=>aj=ba (nU i t xs) env/\E'=cT (nU i t xs) (a8 E i .none)) (Inv.start hS hE) trivial (by unfold gU;rw[hc];simp[c9,a7,fg]);exact go _ g1 h1.aW h1.er ⟨h3.1,h3.2.1,h3.2.2.1,h3.2.2.2.1,h3.2.2.2.2.1,h3.2.2.2.2.2.1,h3.2.2.2.2.2.2⟩ h4 h5 h6 hk
  .rename_i T cs hc
   rw[c9,a7]at hk;obtain⟨g1,h1,h2,h3,h4,h5,h6⟩:=Au hS hE hc;exact go _ g1 h1 h2 h3 h4 h5 h6 hk
structure Grown (w w':World):Prop where
 os:w'.os=w.os
 tape:w'.tape=w.tape
 output:ja w w'
 size:w.heap.size<=w'.heap.size
 same:∀ b,b<w.heap.size->w'.heap[b]?=w.heap[b]?
structure Kept (own iK:Nat->Prop) (w w':World):Prop where
 os:w'.os=w.os
 tape:w'.tape=w.tape
 output:ja w w'
 size:w.heap.size<=w'.heap.size
 cz:∀ b,b<w.heap.size->¬own b->w'.heap[b]?=w.heap[b]?
 own:∀ b,iK b->own b\/w.heap.size<=b
 lt:∀ b,iK b->b<w'.heap.size
structure jl (P:Program) (gf:FuncId) (lb:List AV) {α:Type} (gY:α->List AV) (xs:List α):Prop where
 aA:fE P gf
 h:∀ (g:Gh) (w:World) (aC:List Value) (l:Nat),eE g [] w->RL g lb aC ->
  ∀ (J:Nat->(Nat->Prop)->World->Prop) (Jx:(Nat->Prop)->World->Prop) (Ji:Nat->Prop),
  (∀ k own W W',J k own W->Grown W W'->J k own W')->(∀ own W W',Jx own W->Grown W W'->Jx own W') ->
  (∀ b,Ji b->b<w.heap.size/\g.Φ b=none)->J 0 Ji w ->
  (∀ k x own W us,xs[k]?=some x->J k own W->(∀ b,own b->b<W.heap.size)->(∀ g',RL g' (gY x) us) ->
   YieldAt Fence.wide 0 P l us.toArray W (fun e W'=>∃ iK,Kept own iK W W'/\((e=.returned (.bool true)/\J (k+1) iK W')\/(e=.returned (.bool false)/\Jx iK W')))) ->
  Calls P gf (.func (.yield l) #[] #[]::aC).toArray w (fun e W'=>(∃ v,e=.returned v)/\((∃ own,J xs.length own W')\/∃ own,Jx own W'))
theorem Gh.P9 {g g':Gh} (hn:g'.n=g.n) (hB:g'.B=g.B) (hV:g'.V=g.V) (hL:g'.L=g.L) (hW:g'.W=g.W) (hM:g'.M=g.M) (hΦ:∀ b o,g.Φ b=some o->g'.Φ b=some o) {v:AV} {u:Value} (h:R g v u):R g' v u:=by
 refine R.mono (g:=g) (g':={ n:=g.n,Φ:=g'.Φ,B:=g.B,V:=g.V,L:=g.L,k:=g.k,W:=g.W,M:=g.M }) ⟨Z8 _,hΦ,fun _ _=>rfl,fun _ _=>rfl,fun _ _=>rfl,rfl,fun _ _ _ _=>rfl,fun _ _=>Z8 _⟩ h |> fun h=>?_
 refine R.map (g:={ n:=g.n,Φ:=g'.Φ,B:=g.B,V:=g.V,L:=g.L,k:=g.k,W:=g.W,M:=g.M }) (g':=g') id (fun _ _ h=>h) (fun v u hv h=>?_) h |> fun h=>by rwa [gT]at h
 cases h <;> first|(cases hv;done)|skip
 .rename_i i off hi
  show R g' (.ptr i off) (.pointer (some ⟨g.B i,off,none⟩));rw[<-hB];exact .ptr _ _ (by rw[hn];exact hi)
 .rename_i i sz idx off hi Dn
  show R g' (.bg i sz idx off) (.pointer (some ⟨g.B i,_,none⟩));rw[<-hB];exact .bg _ _ _ _ (by rw[hn];exact hi) (by rw[hL];exact Dn)
 .rename_i i sz off n A c hi Dn qT hs
  exact .vec _ _ _ _ _ _ (by rw[hn];exact hi) (by rw[hL];exact Dn) (by rw[hV];exact qT) (by rw[hV,hB];exact hs)
 .rename_i i hi
  show R g' (.mp i) (.map (some (g.B i)));rw[<-hB];exact .mp _ (by rw[hn];exact hi)
 .rename_i i f hi hf
  have:=R.hp (g:=g') i f (by rw[hn];exact hi) (by rw[hM];exact hf);rw[hW]at this;exact this
 .rename_i i f hi hf
  have:=R.hm (g:=g') i f (by rw[hn];exact hi) (by rw[hM];exact hf);rw[hW]at this;exact this
def MT (N:Nat) (J:Nat->(Nat->Prop)->World->Prop) (Jx:(Nat->Prop)->World->Prop) (B:bS):Prop :=
 (∃ k,B.E=[.count k])/\∃ own,(∀ b,own b->b<B.w.heap.size/\B.g.Φ b=none)/\((B.g.k<=N/\J B.g.k own B.w)\/(B.g.k=N+1/\Jx own B.w))
theorem Ext.grown {B:bS} {g:Gh} {E:List Chunk} {w:World} (h:Ext B g E w) (hE:∃ k,B.E=[.count k]):Grown B.w w :=
 ⟨h.os,h.tape,h.output,h.size,fun b hb=>h.cz b hb (fun⟨i,hi⟩=>by
  obtain⟨k,hk⟩:=hE;rw[hk]at hi;cases i with
  | zero=>cases hi
  | succ i=>simp[af]at hi;cases hi)⟩
theorem o8 {g:Gh} {E:List Chunk} {w:World} (hl:ah E=g.n):Ext ⟨g,E,w⟩ g E w :=
 ⟨rfl,rfl,ja.refl _,Z8 _,fun _ _ _=>rfl,fun _ _ h=>h,fun _ _ h=>.inl h,fun i b h=>.inr ⟨i,h⟩,ab4 hl,fun _ _=>⟨rfl,rfl,rfl⟩,rfl,fun i h1=>Aa h1,fun _ _ _ _=>rfl,fun _ _=>Z8 _⟩
theorem sF.intro {P:Program} {α:Type} {gY:α->List AV} {xs:List α} {S:Sc} {J:Nat->(Nat->Prop)->World->Prop} {Jx:(Nat->Prop)->World->Prop} {l:Nat}
  (hS:∀ B,S.at_ B↔MT xs.length J Jx B) (aw:S.ok=false) (hJ:∀ k own W W',J k own W->Grown W W'->J k own W')
  (flat:∀ x g g' us,RL g (gY x) us->RL g' (gY x) us)
  (hy:∀ k x own W us,xs[k]?=some x->J k own W->(∀ b,own b->b<W.heap.size)->(∀ g',RL g' (gY x) us) ->
   YieldAt Fence.wide 0 P l us.toArray W (fun e W'=>∃ iK,Kept own iK W W'/\((e=.returned (.bool true)/\J (k+1) iK W')\/(e=.returned (.bool false)/\Jx iK W'))))
  {args:List AV} {env cG:Env} {E:List Chunk} {K:AV->Env->List Chunk->Prop} (k:Nat) (x:α) (hx:xs[k]?=some x) (ha:r0 [0] args (gY x)) (hle:Le [false] [0] env E cG [.count fun _=>k])
  (kt:K .tt cG [.count fun _=>k+1]) (kf:K .ff cG [.count fun _=>xs.length+1]):sF P S l args env E K where
 h:=by
  intro g a w aC hI hr;have nX:=eT args (gY x) aC ha hr;obtain⟨B,hB,h,hd⟩:=Iv.dC (M:=[false]) (fun B hB=>by obtain⟨⟨k,hk⟩,_⟩:=(hS B).1 hB;rw[hk];rfl) hI hle;obtain⟨hE,own,ho,TU⟩:=(hS B).1 hB;have O1:a.defers=[]:=hd.1 aw;generalize SF:g.dC [0]=g1 at h nX;have hk:k=g1.k:=h.aW.sat 0;have V5:g1.k=B.g.k:=h.ext.kk;have Mo:=(Z2.1 hx).1;have mZ:=h.ext.grown hE;have XJ:J k own w:=by
   rcases TU with⟨_,h1⟩|⟨h1,_⟩
   .rw[hk,V5];exact hJ _ _ _ _ h1 mZ
   .omega
  have bf:∀ b,own b->b<w.heap.size:=fun b hb=>aag (ho b hb).1 mZ.size;obtain⟨fn,tm,az,body,h1,h2⟩:=hy k x own w aC hx XJ bf (fun g'=>flat x g1 g' aC nX);refine⟨fn,tm,az,body,h1,h2.mono ?_⟩;rintro e W' ⟨iK,hK,yp⟩;have hΦo:∀ b o,g1.Φ b=some o->¬own b/\b<w.heap.size:=by
   intro b o hb;refine⟨fun dM=>?_,bo (h.aW.dn b o hb)⟩;obtain⟨h3,h4⟩:=ho b dM;rcases h.ext.fz b o hb with h5|h5|⟨i,hi⟩
   .rw[h4]at h5;cases h5
   .omega
   .obtain⟨k',vY⟩:=hE
    rw[vY]at hi;cases i with
    | zero=>cases hi
    | succ i=>simp[af]at hi;cases hi
  have new:∀ (m:Nat),(m<=xs.length/\J m iK W'\/m=xs.length+1/\Jx iK W')->Iv S { g1 with k:=m } cG [.count fun _=>m] a W':=by
   intro m hm;have Av:g1.n=1:=h.aW.len.symm;have hb:∀ (i b:Nat),¬(af [Chunk.count fun _=>m] i).own { g1 with k:=m } i b:=fun i b h=>by cases i <;> cases h
   have F6:eE { g1 with k:=m } [.count fun _=>m] W':=by
    refine⟨Av.symm,fun b o BU=>?_,fun i=>?_,fun i j b hi=>?_,fun i b hi=>?_⟩
    .obtain⟨h3,h4⟩:=hΦo b o BU
     rw[hK.cz b h4 h3];exact h.aW.dn b o BU
    .cases i with
     | zero=>rfl
     | succ i=>trivial
    .exact(hb _ _ hi).elim
    .exact(hb _ _ hi).elim
   refine⟨⟨{ g1 with k:=m },[.count fun _=>m],W'⟩,(hS _).2 ⟨⟨_,rfl⟩,iK,fun b BU=>⟨hK.lt b BU,?_⟩,hm⟩,⟨fun t=>Gh.P9 (g:=g1) (g':={ g1 with k:=m }) rfl rfl rfl rfl rfl rfl (fun _ _ h=>h) (h.er t),F6,o8 Av.symm⟩,fun _=>O1,[],O1,aaP,by simp⟩;cases hp:g1.Φ b with
   | none=>rfl
   | some o =>
    obtain⟨h3,h4⟩:=hΦo b o hp;rcases hK.own b BU with h5|h5
    .exact(h3 h5).elim
    .omega
  rcases yp with⟨rfl,hj⟩|⟨rfl,hj⟩
  .exact⟨_,.tt,_,_,_,rfl,new (k+1) (.inl ⟨by omega,hj⟩),.tt,kt⟩
  .exact⟨_,.ff,_,_,_,rfl,new (xs.length+1) (.inr ⟨rfl,hj⟩),.ff,kf⟩
theorem jl.intro {P:Program} (hm:P.follows .mixedOrders=true) {gf:FuncId} {fn:Func} {c:Code} {lb:List AV} {α:Type} {gY:α->List AV} {xs:List α}
  (hf:P.funcs[gf]?=some fn) (hb:fn.body=some c) (oR:fn.name ≠ "runtime.NumGoroutine") (hn:(lb.length+1)<=fn.ntmps) (flat:∀ x g g' us,RL g (gY x) us->RL g' (gY x) us)
  (h:∀ (S:Sc) (l:Nat),(∀ {args:List AV} {env:Env} {E:List Chunk} {K:AV->Env->List Chunk->Prop} (k:Nat) (x:α) (cG:Env),xs[k]?=some x->r0 [0] args (gY x)->Le [false] [0] env E cG [.count fun _=>k] ->
    K .tt cG [.count fun _=>k+1]->K .ff cG [.count fun _=>xs.length+1]->sF P S l args env E K) ->
   jC (fZ 0 (.fn (.yield l) [] []::lb)) fun env=>fl P fn.ntmps S [false] c env [.count fun _=>0] fun e aj E'=>match e with
    | .exit _=>False
    | _=>ny P aj E' fn.results.toList fun _=>∃ m,o0 [0] E' [0] [.count fun _=>m]/\(m=xs.length\/m=xs.length+1)):jl P gf lb gY xs where
 aA:=⟨fn,hf,by rw[hb];rfl,oR⟩
 h:=by
  intro g w aC l hS hr J Jx Ji hJ XK cO h0 hy;obtain⟨S,Lj,aw⟩:∃ S:Sc,(∀ B,S.at_ B↔MT xs.length J Jx B)/\S.ok=false:=⟨⟨MT xs.length J Jx,0,false,by simp,by simp⟩,fun _=>Iff.rfl,rfl⟩
  have h:=h S l (fun {args env E K} k x cG hx ha hle kt kf=>sF.intro Lj aw hJ flat hy k x hx ha hle kt kf);rw[c9]at h;have hl:=hr.length
  let g1:Gh:={ g with n:=1,k:=0 }
  have qY:g.n=0:=hS.len.symm;have TG:∀ v u,R g v u->R g1 v u:=fun v u h=>R.map (g:=g) (g':=g1) id (fun _ _ h=>h) (fun v u hv h=>by
   cases h <;> first|(cases hv;done)|skip
   .rename_i hi;rw[qY]at hi;omega
   .rename_i hi _;rw[qY]at hi;omega
   .rename_i hi _ _ _;rw[qY]at hi;omega
   .rename_i hi;rw[qY]at hi;omega
   .rename_i hi _;rw[qY]at hi;omega
   .rename_i hi _;rw[qY]at hi;omega) h |> fun h=>by rwa [gT]at h
  have Dq:∀ (l:List AV) (us:List Value),RL g l us->RL g1 l us:=fun l us h=>RL.mk h.length (fun i y u h1 h2=>TG _ _ (h.at_ i y u h1 h2));have qS:RL g1 (.fn (.yield l) [] []::lb) (.func (.yield l) #[] #[]::aC):=RL.cons (R.Dc (az:=[]) (bs:=[]) (vs:=[]) (ws:=[]) trivial trivial) (Dq _ _ hr);have yl:∀ (i b:Nat),¬(af [Chunk.count fun _=>0] i).own g1 i b:=fun i b h=>by cases i <;> cases h
  have F6:eE g1 [.count fun _=>0] w:=by
   refine⟨rfl,hS.dn,fun i=>?_,fun i j b hi=>?_,fun i b hi=>?_⟩
   .cases i with
    | zero=>rfl
    | succ i=>trivial
   .exact(yl _ _ hi).elim
   .exact(yl _ _ hi).elim
  refine iG.1 (callsIn_of_wp_marks (F:=Fr none) (n:=0) hf hb trivial ?_);have TN:Iv S g1 (fZ 0 (.fn (.yield l) [] []::lb)) [.count fun _=>0] { tmps:=(.func (.yield l) #[] #[]::aC).toArray++Array.replicate (fn.ntmps - (.func (.yield l) #[] #[]::aC).toArray.size) Go.undef,defers:=[] } w:=by
   refine⟨⟨g1,[.count fun _=>0],w⟩,(Lj _).2 ⟨⟨_,rfl⟩,Ji,cO,.inl ⟨aae _,h0⟩⟩,⟨jV 0 _ _ qS (fun j u hj=>?_),F6,o8 rfl⟩,fun _=>rfl,[],rfl,aaP,by simp⟩;have lg:=(Z2.1 hj).1;rw[aan,acj (by simpa using lg)];simp only[aaf,acL,hj,aby]
  have hw:=iH (S:=S) (M:=[false]) hm (fun B hB=>by obtain⟨⟨k,hk⟩,_⟩:=(Lj B).1 hB;rw[hk];rfl) c none (.inl rfl) TN (by simp;omega) h;refine ab9 hw ?_;rintro x a w' ⟨e,g',aj,E',rfl,⟨B,hB,h1,hd,_⟩,h3,h4⟩;obtain⟨hE,own,ho,TU⟩:=(Lj B).1 hB;have mZ:=h1.ext.grown hE;have fin:ny P aj E' fn.results.toList (fun _=>∃ m,o0 [0] E' [0] [.count fun _=>m]/\(m=xs.length\/m=xs.length+1)) ->
    LeavesInM (Fr none) 0 P fn a.tmps (fun e W'=>(∃ v,e=.returned v)/\((∃ own,J xs.length own W')\/∃ own,Jx own W')) a.defers .returning w':=by
   intro h4;rw[hd aw];obtain⟨l',cs,h5,h6,m,h7,h8⟩:=sU h1.aW h1.er h4;have hk:m=g'.k:=BP (g:=g') (π:=[0]) (i:=0) (j:=0) (w:=w') rfl _ _ h7.1 (h1.aW.sat 0);have V5:g'.k=B.g.k:=h1.ext.kk;refine⟨_,h5,⟨_,rfl⟩,?_⟩;rcases TU with⟨h9,fu⟩|⟨h9,fu⟩
   .left
    have:B.g.k=xs.length:=by omega
    rw[this]at fu;exact⟨own,hJ _ _ _ _ fu mZ⟩
   .exact .inr ⟨own,XK _ _ _ fu mZ⟩
  cases e with
  | normal=>exact fin h4
  | ret=>exact fin h4
  | exit n=>exact h4.elim
def isCells:Chunk->Bool
 | .cells _ _=>true|_=>false
def okF (ch:List Chunk):AV->AV
 | .ptr i o=>(match isCells (af ch i)with|true=>.ptr i o|false=>.undef)
 | .bg _ _ _ _=>.undef|.vec _ _ _ _=>.undef|.mp _=>.undef|.hp _ _=>.undef|.hm _ _=>.undef|v=>v
mutual
theorem s0 (ch:List Chunk):∀ v:AV,df (okF ch) (df (okF ch) v)=df (okF ch) v
 | .agg cs=>by simp only[df];rw[ir ch cs]
 | .bQ cs=>by simp only[df];rw[ir ch cs]
 | .cM cs o=>by simp only[df];rw[ir ch cs]
 | .fn g az bs=>by simp only[df];rw[ir ch az,ir ch bs]
 | .nO t v=>by simp only[df];rw[s0 ch v]
 | .ptr i o=>by
  simp only[df,okF];split
  .rename_i h;simp only[df,okF,h]
  .rfl
 | .bg _ _ _ _|.vec _ _ _ _|.mp _|.hp _ _|.hm _ _|.undef|.skip|.int _ _|.bool _|.tt|.ff|.str _|.aL _ _|.bW|.dv _ _ _|.aZ|.gD|.jO|.jP=>rfl
theorem ir (ch:List Chunk):∀ l:List AV,eP (okF ch) (eP (okF ch) l)=eP (okF ch) l
 | []=>rfl
 | c::r=>by simp only[eP];rw[s0 ch c,ir ch r]
end
theorem BV (ch:List Chunk):∀ env:Env,ba (okF ch) (ba (okF ch) env)=ba (okF ch) env
 | []=>rfl
 | (k,v)::r=>by simp only[ba];rw[s0 ch v,BV ch r]
theorem F7 {g g':Gh} {ch:List Chunk} (hn:g.n<=g'.n) (hB:∀ i,isCells (af ch i)=true->g'.B i=g.B i):∀ v u,isRef v=true->R g v u->R g' (okF ch v) u:=by
 intro v u hv hr;cases hr <;> first|(cases hv;done)|skip
 .rename_i i off hi
  simp only[okF];split
  .rename_i h;rw[<-hB i h];exact .ptr _ _ (aag hi hn)
  .exact .undef _
 .exact .undef _
 .exact .undef _
 .exact .undef _
 .exact .undef _
 .exact .undef _
theorem ER.okF {g g':Gh} {ch:List Chunk} {env:Env} {tmps:Array Value} (h:ER g env tmps) (hn:g.n<=g'.n) (hΦ:∀ b o,g.Φ b=some o->g'.Φ b=some o) (hB:∀ i,isCells (af ch i)=true->g'.B i=g.B i):ER g' (ba (okF ch) env) tmps :=
 fun t=>by rw[cU];exact R.map (g:=g) (g':=g') _ hΦ (F7 hn hB) (h t)
def nz:List Nat->List AV->Env->Env
 | p::ps,v::vs,env=>nz ps vs ((p,v)::env)|_,_,env=>env
theorem ER.nz {g:Gh}:∀ (ps:List Nat) (vs:List AV) (us:List Value) {env:Env} {tmps:Array Value},ER g env tmps->RL g vs us->(∀ p∈ps,p<tmps.size)->ps.length=vs.length ->
  ER g (Fw.nz ps vs env) ((ps.zip us).foldl (fun t (p,v)=>t.setIfInBounds p v) tmps)
 | [],[],[],_,_,h,_,_,_=>h
 | p::ps,v::vs,u::us,env,tmps,h,hr,hp,hl=>by
  simp only[Fw.nz,List.zip_cons_cons,List.foldl_cons];exact ER.nz ps vs us (h.put hr.1 (hp p (Z7 ..))) hr.2 (fun q hq=>by simpa using hp q (Z5 _ hq)) (by simpa using hl)
 | [],[],_::_,_,_,_,h,_,_=>h.elim
 | [],_::_,_,_,_,_,_,_,h=>by simp at h
 | _::_,[],_,_,_,_,_,_,h=>by simp at h
 | _::_,_::_,[],_,_,_,h,_,_=>h.elim
def bN (ch:List Chunk) (i:Nat):Bool:=match af ch i with|.cells _ _=>true|.aq _ _ _=>true|_=>false
mutual
def yq (ch:List Chunk):AV->Bool
 | .aL _ _=>false|.dv _ _ _=>false|.cM _ _=>false|.mp _=>false|.hp _ _=>false|.hm _ _=>false
 | .ptr i _=>bN ch i|.bg i _ _ _=>bN ch i|.vec i _ _ _=>bN ch i
 | .agg cs=>lN ch cs|.bQ cs=>lN ch cs|.fn _ az bs=>(match lN ch az with|true=>lN ch bs|false=>false)|.nO _ v=>yq ch v
 | _=>true
def lN (ch:List Chunk):List AV->Bool
 | []=>true|c::r=>(match yq ch c with|true=>lN ch r|false=>false)
end
def yr:Ty->Bool
 | .list _=>false|.pair a b=>(match yr a with|true=>yr b|false=>false)|_=>true
def yt (ch:List Chunk):Chunk->Bool
 | .cells _ cs=>lN ch cs|.aq _ t _=>yr t|.none=>true|.count _=>false|.jd _ _ _=>false|.row _ _ _=>false|.heap _=>false|.je _ _ _ _=>false|.iZ _ _=>false|.bq _=>false
def nA (ch:List Chunk):List Chunk->Bool
 | []=>true|c::r=>(match yt ch c with|true=>nA ch r|false=>false)
theorem F8 {ch:List Chunk} {c:Chunk} (h:yt ch c=true):Ac c=true:=by cases c <;> first|rfl|cases h
theorem eG {ch:List Chunk}:∀ {E:List Chunk},nA ch E=true->∀ i,yt ch (af E i)=true
 | [],_,i=>rfl
 | c::r,h,i=>by
  simp only[nA]at h;split at h
  .rename_i hc
   cases i with
   | zero=>exact hc
   | succ i=>exact eG h i
  .cases h
structure o9 (ch:List Chunk) (g g':Gh):Prop where
 n:g.n<=g'.n
 B:∀ i,bN ch i=true->g'.B i=g.B i
 V:∀ i,bN ch i=true->g'.V i=g.V i
 L:∀ i,bN ch i=true->g'.L i=g.L i
mutual
theorem s4 {ch:List Chunk} {g g':Gh} (hg:o9 ch g g'):∀ (v:AV) (u:Value),yq ch v=true->R g v u->R g' v u
 | .agg cs,u,h,hr=>by
  obtain⟨vs,rfl,hl⟩:=hr.gR;simpa using R.jf (iL hg cs vs.toList h hl)
 | .bQ cs,u,h,hr=>by
  obtain⟨vs,rfl,hl⟩:=hr.rV;simpa using R.gP (iL hg cs vs.toList h hl)
 | .fn f az bs,u,h,hr=>by
  cases hr with|fn _ _ _ vs ws hl k9 hr qS =>
  simp only[yq]at h;split at h
  .rename_i h1
   simpa using R.Dc (f:=f) (iL hg az vs.toList h1 (RL.mk (by simpa using hl) fun i y u h1 h2=>hr i y u h1 (by simpa using h2))) (iL hg bs ws.toList h (RL.mk (by simpa using k9) fun i y u h1 h2=>qS i y u h1 (by simpa using h2)))
  .cases h
 | .nO t v,u,h,hr=>by cases hr with|nO _ _ u hr=>exact .nO _ _ _ (s4 hg v u h hr)
 | .ptr i o,u,h,hr=>by cases hr with|ptr _ _ hi=>rw[<-hg.B i h];exact .ptr _ _ (aag hi hg.n)
 | .bg i s x o,u,h,hr=>by cases hr with|bg _ _ _ _ hi hL=>rw[<-hg.B i h];exact .bg _ _ _ _ (aag hi hg.n) (by rw[hg.L i h];exact hL)
 | .vec i s o n,u,h,hr=>by cases hr with|vec _ _ _ _ A c hi hL hn hs=>exact .vec _ _ _ _ A c (aag hi hg.n) (by rw[hg.L i h];exact hL) (by rw[hg.V i h];exact hn) (by rw[hg.V i h,hg.B i h];exact hs)
 | .undef,u,h,hr=>.undef _
 | .skip,u,h,hr=>by cases hr;exact .skip
 | .int k n,u,h,hr=>by cases hr;exact .int _ _
 | .bool b,u,h,hr=>by cases hr;exact .bool _
 | .tt,u,h,hr=>by cases hr;exact .tt
 | .ff,u,h,hr=>by cases hr;exact .ff
 | .str s,u,h,hr=>by cases hr;exact .str _
 | .bW,u,h,hr=>by cases hr;exact .bW
 | .aZ,u,h,hr=>by cases hr;exact .aZ
 | .gD,u,h,hr=>by cases hr;exact .gD
 | .jO,u,h,hr=>by cases hr;exact .jO
 | .jP,u,h,hr=>by cases hr;exact .jP
 | .aL _ _,u,h,hr=>by cases h
 | .dv _ _ _,u,h,hr=>by cases h
 | .cM _ _,u,h,hr=>by cases h
 | .mp _,u,h,hr=>by cases h
 | .hp _ _,u,h,hr=>by cases h
 | .hm _ _,u,h,hr=>by cases h
theorem iL {ch:List Chunk} {g g':Gh} (hg:o9 ch g g'):∀ (l:List AV) (us:List Value),lN ch l=true->RL g l us->RL g' l us
 | [],[],_,_=>trivial
 | c::r,u::us,h,hr=>by
  simp only[lN]at h;split at h
  .rename_i h1;exact⟨s4 hg c u h1 hr.1,iL hg r us h hr.2⟩
  .cases h
 | [],_::_,_,hr=>hr.elim
 | _::_,[],_,hr=>hr.elim
end
theorem qu (ch:List Chunk):∀ (t:Ty) (x:Unit->t.den),yr t=true->lN ch (enc t x [])=true
 | .int _,_,_=>rfl
 | .bool,_,_=>rfl
 | .str,_,_=>rfl
 | .list _,_,h=>by cases h
 | .pair a b,x,h=>by
  simp only[yr]at h;split at h
  .rename_i h1
   have ha:=qu ch a (fun u=>(x u).1) h1;have hb:=qu ch b (fun u=>(x u).2) h;simp only[enc];rw[cK];generalize enc a (fun u=>(x u).1) []=l at ha;induction l with
   | nil=>exact hb
   | cons c r ih =>
    simp only[lN]at ha;split at ha
    .rename_i hc;simp only[abp,lN,hc];exact ih ha
    .cases ha
  .cases h
theorem vi {ch:List Chunk} {g g':Gh} (hg:o9 ch g g') {i:Nat} {w w':World} {c:Chunk} (ha:bN ch i=true\/c=.none) (hc:yt ch c=true) (hw:∀ b,c.own g i b->w'.heap[b]?=w.heap[b]?) (h:c.sat g i w):c.sat g' i w':=by
 cases c with
 | none=>trivial
 | count k=>cases hc
 | jd _ _ _=>cases hc
 | row _ _ _=>cases hc
 | heap _=>cases hc
 | je _ _ _ _=>cases hc
 | iZ _ _=>cases hc
 | bq _=>cases hc
 | cells T cs =>
  have ha:=ha.resolve_right (by simp);obtain⟨vs,h1,h2⟩:=h;exact⟨vs,by rw[hg.B i ha,hw _ rfl];exact h1,iL hg _ _ hc h2⟩
 | aq T t xs =>
  have ha:=ha.resolve_right (by simp);obtain⟨h1,h2,h3⟩:=h;refine⟨by rw[hg.L i ha];exact h1,by rw[hg.V i ha];exact h2,fun cap cS=>?_⟩;rw[hg.V i ha]at cS;obtain⟨vs,h4,h5,h6,h7⟩:=h3 cap cS;exact⟨vs,by rw[hg.B i ha,hw _ (by simp[Chunk.own,cS])];exact h4,h5,h6,fun k x hx=>iL hg _ _ (qu ch t _ hc) (h7 k x hx)⟩
def eC:List Chunk->List Chunk->Bool
 | [],[]=>true
 | .none::r,.none::s=>eC r s|.cells _ _::r,.cells _ _::s=>eC r s|.aq _ _ _::r,.aq _ _ _::s=>eC r s|_,_=>false
theorem pa:∀ {E E':List Chunk},eC E E'=true->bw E'=bw E
 | [],[],_=>rfl
 | [],_::_,h=>by simp[eC]at h
 | _::_,[],h=>by simp[eC]at h
 | c::r,d::s,h=>by
  have h':eC r s=true/\kd d=kd c:=by cases c <;> cases d <;> first|(simp[eC]at h;done)|exact⟨h,rfl⟩
  have hr:=pa h'.1;have hk:=h'.2;cases c <;> cases d <;> first|(simp[kd]at hk;done)|(simp only[bw,hr,c8])
theorem mD:∀ {E E':List Chunk},eC E E'=true->ah E'=ah E/\∀ i,kd (af E' i)=kd (af E i)
 | [],[],_=>⟨rfl,fun _=>rfl⟩
 | c::r,d::s,h=>by
  have h':eC r s=true/\kd d=kd c:=by cases c <;> cases d <;> first|(simp[eC]at h;done)|exact⟨h,rfl⟩
  obtain⟨h1,h2⟩:=mD h'.1;refine⟨by simp[ah,h1],fun i=>?_⟩;cases i with
  | zero=>exact h'.2
  | succ i=>exact h2 i
 | [],_::_,h=>by simp[eC]at h
 | c::_,[],h=>by cases c <;> simp[eC]at h
def wA (φ:List Nat) (E:List Chunk):AV->AV
 | .ptr i o=>(match wx φ i with|true=>.ptr i o|false=>(match isCells (af E i)with|true=>.ptr i o|false=>.undef))
 | .bg i s x o=>(match wx φ i with|true=>.bg i s x o|false=>.undef)
 | .vec i s o n=>(match wx φ i with|true=>.vec i s o n|false=>.undef)
 | .mp i=>.undef
 | .hp _ _=>.undef
 | .hm _ _=>.undef
 | v=>v
def ky (f:AV->AV) (φ:List Nat):Nat->List Chunk->List Chunk->List Chunk
 | _,[],_=>[]
 | k,c::r,d::s=>(match wx φ k with|true=>dg f c|false=>d)::ky f φ (k+1) r s
 | k,c::r,[]=>(match wx φ k with|true=>dg f c|false=>.none)::ky f φ (k+1) r []
theorem s5 (f:AV->AV) (φ:List Nat):∀ (E ch:List Chunk) (k:Nat),ah (ky f φ k E ch)=ah E
 | [],_,_=>rfl
 | c::r,d::s,k=>by simp[ky,ah,s5 f φ r s]
 | c::r,[],k=>by simp[ky,ah,s5 f φ r []]
theorem wB (f:AV->AV) (φ:List Nat):∀ (E ch:List Chunk) (k i:Nat),ah ch<=ah E->af (ky f φ k E ch) i=if wx φ (k+i)=true then dg f (af E i)else af ch i
 | [],[],_,i,_=>by simp[ky,af,dg]
 | [],_::_,_,i,h=>by simp[ah]at h
 | c::r,d::s,k,0,h=>by
  simp only[ky,af,aa6];cases wx φ k <;> simp
 | c::r,d::s,k,i+1,h=>by
  simp only[ky,af];rw[wB f φ r s (k+1) i (by simp[ah]at h;omega)];rw[show k+1+i=k+(i+1) by omega]
 | c::r,[],k,0,h=>by
  simp only[ky,af,aa6];cases wx φ k <;> simp
 | c::r,[],k,i+1,h=>by
  simp only[ky,af];rw[wB f φ r [] (k+1) i (by simp[ah])];rw[show k+1+i=k+(i+1) by omega];simp[af]
theorem Inv.F9 {B:bS} {g:Gh} {env:Env} {E:List Chunk} {tmps:Array Value} {w:World} {l:Nat} (h:Inv B g env E tmps w) (o:Obj) (hΦ:g.Φ l=none) (hb:∀ i b,(af E i).own g i b->b≠l) (hl:l<w.heap.size) :
  Inv ⟨B.g,B.E,B.w.putObj l o⟩ g env E tmps (w.putObj l o):=by
 have ho:∀ b,b≠l->(w.putObj l o).heap[b]?=w.heap[b]?:=fun b hb=>World.putObj_heap_other hb;refine⟨h.er,⟨h.aW.len,fun b o' dw=>?_,fun i=>Chunk.fj (fun _ _ _ h=>h) (fun _ _ h=>h) rfl rfl rfl rfl rfl rfl (fun b dw=>ho b (hb i b dw)) (h.aW.sat i),h.aW.lf,h.aW.dE⟩,
  ⟨h.ext.os,h.ext.tape,⟨h.ext.output.o,h.ext.output.d⟩,by simp only[World.putObj_size];exact h.ext.size,fun b h1 h2=>?_,h.ext.dn,fun b o' dw=>?_,fun i b hi=>?_,h.ext.n,h.ext.ids,h.ext.kk,h.ext.mY,h.ext.rC,h.ext.qi⟩⟩
 .rw[ho b (fun e=>by subst e;rw[hΦ]at dw;cases dw)];exact h.aW.dn b o' dw
 .have xB:b<B.w.heap.size:=by simpa using h1
  by_cases BH:b=l
  .subst BH
   rw[World.putObj_heap_same hl];exact(World.putObj_heap_same xB).symm
  .rw[ho b BH];exact(h.ext.cz b xB h2).trans (World.putObj_heap_other BH).symm
 .rcases h.ext.fz b o' dw with h1|h1|h1
  .exact .inl h1
  .exact .inr (.inl (by simpa using h1))
  .exact .inr (.inr h1)
 .rcases h.ext.own i b hi with h1|h1
  .exact .inl (by simpa using h1)
  .exact .inr h1
theorem eE.grown {g:Gh} {E:List Chunk} {w w':World} (h:eE g E w) (hw:Grown w w'):eE g E w' :=
 ⟨h.len,fun b o hb=>by have:=h.dn b o hb;rw[hw.same b (bo this)];exact this,fun i=>Chunk.fj (fun _ _ _ h=>h) (fun _ _ h=>h) rfl rfl rfl rfl rfl rfl (fun b hb=>hw.same b (eQ (h.sat i) hb)) (h.sat i),h.lf,h.dE⟩
theorem Ext.grow {B:bS} {g:Gh} {E:List Chunk} {w w':World} (h:Ext B g E w) (hw:Grown w w'):Ext B g E w' :=
 ⟨hw.os.trans h.os,hw.tape.trans h.tape,hw.output.trans h.output,aaA h.size hw.size,fun b h1 h2=>by rw[hw.same b (aag h1 h.size)];exact h.cz b h1 h2,h.dn,h.fz,h.own,h.n,h.ids,h.kk,h.mY,h.rC,h.qi⟩
theorem Grown.alloc (w:World) (o:Obj):Grown w (w.alloc o):=⟨rfl,rfl,⟨rfl,Z8 _⟩,by simp,fun b hb=>Below.heap_alloc w o b hb⟩
theorem Grown.trans {a b c:World} (h:Grown a b) (h':Grown b c):Grown a c:=⟨h'.os.trans h.os,h'.tape.trans h.tape,h'.output.trans h.output,aaA h.size h'.size,fun k hk=>by rw[h'.same k (aag hk h.size)];exact h.same k hk⟩
theorem mE {g:Gh} {i:Nat} {w:World} {c:Chunk} {b:Nat} (h:c.sat g i w) (hb:c.own g i b):∃ o,w.heap[b]?=some o/\Fe o=true:=by
 cases c with
 | none=>cases hb
 | jd k ks us=>obtain⟨es,cl,h1,_⟩:=h;cases hb;exact⟨_,h1,rfl⟩
 | row T t xs =>
  obtain⟨_,_,h3⟩:=h;cases hV:g.V i with
  | none=>simp[Chunk.own,hV]at hb
  | some cap =>
   obtain⟨vs,h4,_⟩:=h3 cap hV;simp[Chunk.own,hV]at hb;subst hb;exact⟨_,h4,rfl⟩
 | count k=>cases hb
 | heap hp =>
  obtain⟨k,hk,rfl⟩:=hb;obtain⟨ob,h1,h2⟩:=h.2.2 k hk;refine⟨ob,h1,?_⟩;cases ho:(hp ()).o k with
  | cells T n c=>rw[ho]at h2;obtain⟨vs,rfl,_⟩:=h2;rfl
  | map es cl=>rw[ho]at h2;obtain⟨ms,rfl,_⟩:=h2;rfl
 | je x a b l=>obtain⟨r,_,h1⟩:=h;cases hb;exact⟨_,h1,rfl⟩
 | iZ T cs=>obtain⟨vs,h1,_⟩:=h;cases hb;exact⟨_,h1,rfl⟩
 | bq q=>obtain⟨k,hk⟩:=hb;exact h.2.1 b k hk
 | cells T cs=>obtain⟨vs,h1,_⟩:=h;cases hb;exact⟨_,h1,rfl⟩
 | aq T t xs =>
  obtain⟨_,_,h3⟩:=h;cases hV:g.V i with
  | none=>simp[Chunk.own,hV]at hb
  | some cap =>
   obtain⟨vs,h4,_⟩:=h3 cap hV;simp[Chunk.own,hV]at hb;subst hb;exact⟨_,h4,rfl⟩
end Go.Proofs.YthnefnlhcijekaaGreat.Fw
