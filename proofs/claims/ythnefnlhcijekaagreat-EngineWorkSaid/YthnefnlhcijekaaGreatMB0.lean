/- What the laws of this chapter rest on, for every input; part 1. -/
import Derived.WalkKit
import Derived.StillTail
import Derived.Laws.Cells
import Derived.Lib.Builder
import Derived.Lib.UnsafeStr
import Derived.Laws.StructEq
import Derived.LaidEql
import Derived.MapKept
import Derived.Below
import Derived.Maps.AppendAt
import Derived.Lib.ConvBytes
import Derived.Maps.RangeRun
set_option linter.unusedVariables false
set_option linter.unusedSimpArgs false
namespace Go.Proofs.YthnefnlhcijekaaGreat
abbrev abi:=@List.getD_eq_getElem?_getD
abbrev abj:=@List.getElem?_eq_getElem
abbrev abk:=@List.getElem?_eq_some_iff
abbrev abl:=@Nat.eq_of_beq_eq_true
abbrev abm:=@Int.toNat_natCast
abbrev abn:=@List.mem_cons_of_mem
abbrev abo:=@List.take_of_length_le
abbrev abp:=@List.length_append
abbrev abq:=@List.mem_cons_self
abbrev abr:=@Nat.le_refl
abbrev abt:=@List.length_cons
abbrev abu:=@List.mem_iff_getElem?
abbrev abv:=@List.take_length
abbrev abw:=@Nat.zero_le
abbrev abx:=@Nat.zero_add
abbrev aby:=@List.length_take
abbrev abz:=@Int.le_refl
abbrev abA:=@List.drop_zero
abbrev abB:=@Nat.lt_of_lt_of_le
abbrev abC:=@List.length_set
abbrev abD:=@Bool.and_eq_true
abbrev abE:=@List.mem_cons
abbrev abG:=@List.length_drop
abbrev abH:=@List.map_cons
abbrev abI:=@List.getElem?_drop
abbrev abJ:=@Array.getD_eq_getD_getElem?
abbrev abK:=@List.getElem?_take
abbrev abL:=@Int.tdiv_eq_ediv_of_nonneg
abbrev abM:=@List.length_replicate
abbrev abO:=@List.getElem_mem
abbrev abP:=@List.length_nil
abbrev abQ:=@Int.mul_nonneg
abbrev abR:=@List.mem_map
abbrev abS:=@List.getElem?_eq_none
abbrev abT:=@List.getElem?_append
abbrev abU:=@Nat.mul_le_mul_right
abbrev abV:=@Classical.byContradiction
abbrev abW:=@Nat.le_trans
abbrev abX:=@Int.toNat_of_nonneg
abbrev abY:=@List.take_add_one
abbrev abZ:=@Int.mul_le_mul
abbrev ab0:=@List.getElem?_replicate
abbrev ab1:=@List.mem_append
abbrev ab2:=@Option.isSome_iff_exists
abbrev ab3:=@Nat.le_of_ble_eq_true
abbrev ab4:=@List.length_map
abbrev ab5:=@List.nodup_iff_pairwise_ne
abbrev ab6:=@Option.some.injEq
abbrev ab7:=@List.getD_cons_succ
abbrev ab8:=@Nat.add_zero
abbrev ab9:=@List.length_eq_zero_iff
abbrev aca:=@Array.getElem?_eq_getElem
abbrev acb:=@Option.map_some
abbrev acd:=@List.nodup_nil
abbrev ace:=@Nat.add_mul
abbrev acf:=@List.Nodup.mem_erase_iff
abbrev acg:=@List.eq_nil_of_length_eq_zero
abbrev ach:=@List.getElem?_map
abbrev aci:=@List.nodup_cons
abbrev acj:=@List.drop_eq_getElem_cons
abbrev ack:=@Int.emod_nonneg
abbrev acm:=@List.mem_of_mem_take
abbrev acn:=@Nat.one_le_two_pow
abbrev aco:=@List.sum_cons
abbrev acp:=@List.dropWhile_cons
abbrev acq:=@Nat.min_eq_left
abbrev acr:=@List.mem_filter
abbrev acs:=@Nat.mod_eq_of_lt
abbrev acu:=@Nat.lt_succ_self
abbrev acv:=@Bool.not_eq_true'
abbrev acw:=@List.length_erase_of_mem
abbrev acx:=@Array.eq_empty_of_size_eq_zero
abbrev acy:=@Int.mul_le_mul_of_nonneg_right
abbrev acz:=@List.take_succ_cons
abbrev acA:=@List.all_eq_true
abbrev acB:=@Int.tmod_eq_emod_of_nonneg
abbrev acC:=@Nat.testBit_mod_two_pow
abbrev acD:=@Int.toNat_zero
abbrev acE:=@List.map_congr_left
abbrev acF:=@Nat.sub_lt_sub_left
abbrev acG:=@List.getElem?_set
abbrev acH:=@Bool.eq_false_iff
abbrev acI:=@Int.emod_eq_emod_iff_emod_sub_eq_zero
abbrev acJ:=@Nat.testBit_div_two_pow
abbrev acK:=@Nat.testBit_mul_two_pow
abbrev acL:=@Int.toNat_one
abbrev acM:=@Nat.mod_lt
abbrev acN:=@Nat.eq_of_testBit_eq
abbrev acO:=@List.mem_singleton
abbrev acP:=@Bool.eq_iff_iff
abbrev acQ:=@List.pairwise_cons
abbrev acR:=@List.cons_append
abbrev acS:=@Array.ext'
abbrev acT:=@Nat.lt_trichotomy
abbrev acU:=@List.length_singleton
abbrev acV:=@List.mem_range
abbrev acW:=@List.Pairwise.imp_of_mem
abbrev acX:=@Int.emod_lt_of_pos
abbrev acY:=@Option.getD_some
abbrev acZ:=@BitVec.ofInt_natCast
abbrev ac0:=@Int.fdiv_eq_ediv_of_nonneg
abbrev ac1:=@Array.getElem?_setIfInBounds_ne
abbrev ac2:=@Nat.testBit_or
abbrev ac3:=@Int.add_mul
abbrev ac4:=@List.length_pos_of_mem
abbrev ac5:=@List.ext_getElem?
abbrev ac6:=@List.nodup_append
abbrev ac7:=@List.pairwise_map
abbrev ac8:=@Nat.not_lt_zero
abbrev ac9:=@Option.some.inj
abbrev ada:=@Array.getElem?_toList
abbrev adb:=@List.erase_of_not_mem
abbrev ade:=@Int.mul_ediv_add_emod
abbrev adf:=@Int.mul_le_mul_of_nonneg_left
abbrev adg:=@List.eq_of_mem_replicate
abbrev adh:=@Nat.le_succ
abbrev adi:=@List.take_zero
abbrev adj:=@List.mem_append_left
abbrev adk:=@Nat.pow_le_pow_right
abbrev adl:=@List.mem_of_getElem?
abbrev adm:=@Bool.or_eq_true
abbrev adn:=@Nat.one_mul
abbrev ado:=@Int.add_zero
abbrev adp:=@List.getElem?_append_right
abbrev adq:=@Int.mul_tdiv_add_tmod
abbrev adr:=@List.take_append_drop
abbrev ads:=@List.getElem?_append_left
abbrev adt:=@List.getElem?_eq_none_iff
abbrev adu:=@List.nil_append
abbrev adv:=@Nat.le_of_eq
abbrev adw:=@Nat.and_two_pow_sub_one_eq_mod
abbrev adx:=@Int.le_trans
abbrev ady:=@Nat.add_assoc
abbrev adz:=@List.filter_sublist
abbrev adA:=@Decidable.by_contra
abbrev adB:=@List.dropLast_concat_getLast
abbrev adC:=@Nat.eq_zero_or_pos
abbrev adD:=@Go.wpIn_mono
abbrev adE:=@Nat.testBit_two_pow_sub_one
abbrev adF:=@BitVec.toNat_ofNat
abbrev adG:=@Int.tdiv_one
abbrev adH:=@List.map_append
abbrev adI:=@List.length_filter_le
abbrev adJ:=@List.extract_eq_drop_take'
abbrev adK:=@Eq.trans
abbrev adL:=@Array.getElem?_append_left
abbrev adM:=@Bool.true_and
abbrev adN:=@List.mem_or_eq_of_mem_set
abbrev adO:=@List.mem_of_mem_drop
abbrev adP:=@Nat.pow_add
abbrev adQ:=@Int.mul_add
abbrev adR:=@List.drop_drop
abbrev adS:=@List.take_take
abbrev adT:=@Nat.pow_succ
abbrev adU:=@Int.mul_comm
abbrev adV:=@Int.ediv_le_self
abbrev adW:=@List.flatten_append
abbrev adX:=@Nat.lt_of_le_of_lt
abbrev adY:=@Int.tmod_nonneg
abbrev adZ:=@BitVec.toNat_ofInt
abbrev ad0:=@Int.tdiv_nonneg
abbrev ad1:=@List.drop_eq_nil_of_le
abbrev ad2:=@Int.one_mul
abbrev ad3:=@Nat.div_div_eq_div_mul
abbrev ad4:=@List.getLast?_eq_some_getLast
abbrev ad5:=@Nat.succ_mul
abbrev ad6:=@Nat.div_lt_iff_lt_mul
abbrev ad7:=@List.getElem?_toArray
abbrev ad8:=@Int.le_of_lt
abbrev ad9:=@Bool.not_eq_true
abbrev aea:=@List.mem_of_getLast?
abbrev aeb:=@List.getElem?_set_ne
abbrev aec:=@Option.ne_none_iff_exists'
abbrev aed:=@Array.getElem?_eq_some_iff
abbrev aee:=@Bool.and_self
abbrev aef:=@List.replicate_succ
abbrev aeg:=@List.getElem?_range
abbrev aeh:=@Int.natCast_mul
abbrev aei:=@List.getLast?_eq_getElem?
abbrev aej:=@Nat.shiftRight_eq_div_pow
abbrev aek:=@List.getLast?_eq_none_iff
abbrev ael:=@Int.ediv_nonneg
abbrev aem:=@List.sum_append
abbrev aen:=@Nat.mul_comm
abbrev aeo:=@Nat.sub_self
abbrev aep:=@List.set_cons_zero
abbrev aeq:=@Int.natCast_nonneg
abbrev aer:=@Option.toList_some
abbrev aes:=@List.flatten_cons
abbrev aet:=@List.append_assoc
abbrev aeu:=@List.Sublist.refl
abbrev aev:=@Int.lt_trichotomy
abbrev aew:=@Nat.mul_one
abbrev aex:=@List.sublist_cons_self
abbrev aey:=@List.getElem?_set_self
abbrev aez:=@List.ext_getElem
abbrev aeA:=@Int.max_eq_right
abbrev aeB:=@List.drop_length
abbrev aeC:=@List.filter_cons
end Go.Proofs.YthnefnlhcijekaaGreat
namespace Go.Proofs.YthnefnlhcijekaaGreat.Fw
open Go
inductive Ty|int (k:IntKind)|bool|str|list (e:Ty)|pair (a b:Ty)
 deriving DecidableEq
@[reducible] def Ty.den:Ty→Type
 | .int _=>Int|.bool=>Bool|.str=>List UInt8|.list e=>List e.den|.pair a b=>a.den×b.den
def Ty.a8:(t:Ty)→t.den
 | .int _=>(0:Int)|.bool=>false|.str=>([]:List UInt8)|.list e=>([]:List e.den)|.pair a b=>(a.a8,b.a8)
def Ty.size:Ty→Nat
 | .pair a b=>a.size+b.size|_=>1
inductive AV
 | undef|skip
 | int (k:IntKind) (n:Unit→Int)|bool (b:Unit→Bool)|tt|ff|str (s:Unit→List UInt8)
 | aG (t:Ty) (xs:Unit→List t.den)
 | agg (cs:List AV)|bM (cs:List AV)
 | bZ|ptr (i off:Nat)|bl (i sz:Nat) (idx:Unit→Nat) (off:Nat)|dI (t:Ty) (x:Unit→t.den) (off:Nat)|cL (cs:List AV) (off:Nat)
 | aY|vec (i sz:Nat) (off n:Unit→Nat)
 | fn (f:Fn) (first captured:List AV)|gV
 | ot (t:Nat) (v:AV)|j9
 | mp (i:Nat)|ka
 | hp (i:Nat) (f:Unit→Option (Nat×Nat))
 | hm (i:Nat) (f:Unit→Nat)
inductive HV|iq (t:Ty) (x:t.den)|hp (f:Option (Nat×Nat))|hm (k:Nat)
inductive HO|cells (T:TypeId) (n:Nat) (c:Nat→HV)|map (es:List (Nat×Int×HV)) (clock:Nat)
structure Hp where
 m:Nat
 o:Nat→HO
def TA (Φ:Nat→Option Obj) (b off:Nat) (u:Value):Prop:=∃ cs T fr,Φ b=some (.cells cs T fr)∧cs[off]?=some u
structure OQ where
 h:(Nat→Option Obj)→Nat→(Nat→Prop)→(Nat→Option Obj)→Prop
 mono:∀ (Φ Φ':Nat→Option Obj) (b:Nat) (S:Nat→Prop) (hp Jm:Nat→Option Obj),(∀ b off u,TA Φ b off u→TA Φ' b off u)→(∀ k,S k→Jm k=hp k)→h Φ b S hp→h Φ' b S Jm
inductive Chunk
 | none
 | cells (T:TypeId) (cs:List AV)
 | au (T:TypeId) (t:Ty) (xs:Unit→List t.den)
 | count (k:Unit→Nat)
 | jC (k:IntKind) (ks:List Int) (vs:List AV)
 | row (T:TypeId) (t:Ty) (xs:Unit→List t.den)
 | heap (h:Unit→Hp)
 | jD (x:AV) (since last:Nat) (seen:Unit→List Nat)
 | jy (T:TypeId) (cs:List AV)
 | bg (q:OQ)
def dj:Chunk→Bool
 | .cells _ _=>true|.jC _ _ _=>true|.row _ _ _=>true|.heap _=>true|.jD _ _ _ _=>true|.bg _=>true|_=>false
structure Ob (p:Unit→Prop):Prop where h:p ()
def enc:(t:Ty)→(Unit→t.den)→List AV→List AV
 | .int k,n,r=>.int k n::r|.bool,b,r=>.bool b::r|.str,s,r=>.str s::r|.list e,xs,r=>.aG e xs::r
 | .pair a b,x,r=>enc a (fun u=>(x u).1) (enc b (fun u=>(x u).2) r)
def HV.av (i:Nat):HV→AV
 | .iq t x=>(match enc t (fun _=>x) []with|[v]=>v|l=>.agg l)
 | .hp f=>.hp i (fun _=>f)
 | .hm k=>.hm i (fun _=>k)
inductive fo (i:Nat):AV→HV→Prop
 | eq (v:HV):fo i (v.av i) v
 | bZ:fo i .bZ (.hp none)
 | tt:fo i .tt (.iq .bool true)
 | ff:fo i .ff (.iq .bool false)
 | aY (t:Ty):fo i .aY (.iq (.list t) [])
def aO {α:Type} (es:List (Nat×Int×α)) (n:Int):Option α:=match es with
 | []=>none|(_,k,v)::r=>if k=n then some v else aO r n
def bY {α:Type} (es:List (Nat×Int×α)) (clock:Nat) (n:Int) (v:α):List (Nat×Int×α):=match es with
 | []=>[(clock,n,v)]|(b,k,x)::r=>if k=n then(b,n,v)::r else(b,k,x)::bY r clock n v
def b8 {α:Type} (es:List (Nat×Int×α)) (n:Int):List (Nat×Int×α):=match es with
 | []=>[]|(b,k,x)::r=>if k=n then r else(b,k,x)::b8 r n
def vc (es:List (Nat×Int×HV)) (clock:Nat) (n:Int) (v:HV):HO:=.map (bY es clock n v) (match aO es n with|some _=>clock|none=>clock+1)
def HO.eb:HO→HO→Prop
 | .cells T n c,.cells T' n' c'=>T=T'∧n=n'∧∀ j,j<n→c j=c' j
 | .map es c,.map Um c'=>es=Um∧c=c'
 | _,_=>False
structure Hp.eb (h h':Hp):Prop where
 m:h.m=h'.m
 o:∀ k,k<h.m→(h.o k).eb (h'.o k)
theorem HO.aJ:∀ o:HO,o.eb o
 | .cells _ _ _=>⟨rfl,rfl,fun _ _=>rfl⟩
 | .map _ _=>⟨rfl,rfl⟩
theorem Hp.aJ (h:Hp):h.eb h:=⟨rfl,fun _ _=>HO.aJ _⟩
def Hp.set (h:Hp) (k:Nat) (o:HO):Hp:=⟨h.m,fun j=>if j=k then o else h.o j⟩
def nR {t' t:Ty} (h:t'=t) (xs:Unit→List t'.den) (K:(Unit→List t.den)→Prop):Prop :=
 Eq.rec (motive:=fun t _=>((Unit→List t.den)→Prop)→Prop) (fun K=>K xs) h K
theorem FX {t' t:Ty} (h:t'=t) (xs:Unit→List t'.den) (K:(Unit→List t.den)→Prop):nR h xs K=K (h▸xs):=by subst h;rfl
def LR {t' t:Ty} (h:t'=t) (x:Unit→t'.den) (K:(Unit→t.den)→Prop):Prop :=
 Eq.rec (motive:=fun t _=>((Unit→t.den)→Prop)→Prop) (fun K=>K x) h K
def dec:(t:Ty)→List AV→((Unit→t.den)→List AV→Prop)→Prop
 | .int k,.int k' n::r,K=>match decEq k k' with|isTrue _=>K n r|isFalse _=>False
 | .bool,.bool b::r,K=>K b r
 | .bool,.tt::r,K=>K (fun _=>true) r
 | .bool,.ff::r,K=>K (fun _=>false) r
 | .str,.str s::r,K=>K s r
 | .list e,.aG e' xs::r,K=>match decEq e' e with|isTrue h=>nR h xs fun xs=>K xs r|isFalse _=>False
 | .list e,.aY::r,K=>K (fun _=>[]) r
 | .pair a b,r,K=>dec a r fun x r=>dec b r fun y r=>K (fun u=>(x u,y u)) r
 | _,_,_=>False
def wH (t:Ty) (cs:List AV) (K:(Unit→t.den)→Prop):Prop:=dec t cs fun x r=>match r with|[]=>K x|_=>False
def Cc:(t:Ty)→t.den→t.den→Bool
 | .int _,a,b=>@BEq.beq Int _ a b
 | .bool,a,b=>@BEq.beq Bool _ a b
 | .str,a,b=>@BEq.beq (List UInt8) _ a b
 | .list _,_,_=>false
 | .pair a b,x,y=>Cc a x.1 y.1 && Cc b x.2 y.2
structure Ck (b:Bool):Prop where h:b=true
def fN (n:Nat) (K:Nat→Prop):Prop:=match n with
 | 0=>K 0|1=>K 1|2=>K 2|3=>K 3|4=>K 4|5=>K 5|6=>K 6|7=>K 7|8=>K 8|9=>K 9|10=>K 10|11=>K 11|12=>K 12|13=>K 13|14=>K 14|15=>K 15
 | 16=>K 16|17=>K 17|18=>K 18|19=>K 19|20=>K 20|21=>K 21|22=>K 22|23=>K 23|24=>K 24|25=>K 25|26=>K 26|27=>K 27|28=>K 28|29=>K 29|30=>K 30|31=>K 31
 | 32=>K 32|33=>K 33|34=>K 34|35=>K 35|36=>K 36|37=>K 37|38=>K 38|39=>K 39|40=>K 40|41=>K 41|42=>K 42|43=>K 43|44=>K 44|45=>K 45|46=>K 46|47=>K 47
 | n=>K n
theorem fz (n:Nat) (K:Nat→Prop):fN n K=K n:=by unfold fN;split <;> rfl
def fV (v:AV) (K:AV→Prop):Prop:=match v with
 | .undef=>K .undef|.skip=>K .skip
 | .int k n=>K (.int k n)|.bool b=>K (.bool b)|.tt=>K .tt|.ff=>K .ff|.str s=>K (.str s)|.aG t xs=>K (.aG t xs)
 | .agg cs=>K (.agg cs)|.bM cs=>K (.bM cs)|.bZ=>K .bZ|.ptr i o=>fN i fun i=>K (.ptr i o)|.bl i s j o=>fN i fun i=>K (.bl i s j o)|.dI t x o=>K (.dI t x o)|.cL cs o=>K (.cL cs o)
 | .aY=>K .aY|.vec i s o n=>fN i fun i=>K (.vec i s o n)|.fn f a b=>K (.fn f a b)|.gV=>K .gV|.ot t v=>K (.ot t v)|.j9=>K .j9|.mp i=>fN i fun i=>K (.mp i)|.ka=>K .ka|.hp i f=>fN i fun i=>K (.hp i f)|.hm i f=>fN i fun i=>K (.hm i f)
theorem gu (v:AV) (K:AV→Prop):fV v K=K v:=by cases v <;> simp only[fV,fz]
def fL (l:List AV) (K:List AV→Prop):Prop:=match l with
 | []=>K []|c::r=>fV c fun c=>fL r fun r=>K (c::r)
theorem fA (l:List AV) (K:List AV→Prop):fL l K=K l:=by
 induction l generalizing K with
 | nil=>rfl
 | cons c r ih=>simp only[fL,gu,ih]
def fC (c:Chunk) (K:Chunk→Prop):Prop:=match c with
 | .none=>K .none|.cells T cs=>fL cs fun cs=>K (.cells T cs)|.au T t xs=>K (.au T t xs)|.count k=>K (.count k)|.jC k ks vs=>fL vs fun vs=>K (.jC k ks vs)|.row T t xs=>K (.row T t xs)|.heap h=>K (.heap h)|.jD x a b l=>fV x fun x=>K (.jD x a b l)|.jy T cs=>fL cs fun cs=>K (.jy T cs)|.bg q=>K (.bg q)
theorem Qi (c:Chunk) (K:Chunk→Prop):fC c K=K c:=by cases c <;> simp[fC,fA,gu]
abbrev Env:=List (Nat×AV)
def look (env:Env) (t:Nat):AV:=match env with
 | []=>.undef
 | (k,v)::r=>match Nat.beq k t with|true=>v|false=>look r t
def FY:Value→AV
 | .int k n=>.int k (fun _=>n)|.bool true=>.tt|.bool false=>.ff|.string s=>.str (fun _=>s.data.toList)
 | .pointer none=>.bZ|.slice none 0 0=>.aY|.map none=>.ka|.nilFunc=>.gV|.nilIface=>.j9|_=>.undef
def Cd:List Value→List AV
 | []=>[]|c::r=>FY c::Cd r
def yf:Value→AV
 | .agg ⟨cs⟩=>.agg (Cd cs)|.tuple ⟨cs⟩=>.bM (Cd cs)|.iface t v=>.ot t (FY v)|v=>FY v
def ev (env:Env):Operand→AV
 | .tmp t=>look env t
 | .const v=>yf v
 | .func f=>.fn (.func f) [] []
 | _=>.undef
def qF (env:Env):List Operand→List AV
 | []=>[]|x::r=>ev env x::qF env r
def nth {α:Type}:List α→Nat→Option α
 | [],_=>none|x::_,0=>some x|_::r,n+1=>nth r n
theorem gX {α:Type} (l:List α) (n:Nat):nth l n=l[n]?:=by
 induction l generalizing n with
 | nil=>simp[nth]
 | cons x r ih=>cases n <;> simp[nth,ih]
def af (E:List Chunk) (i:Nat):Chunk:=match E with|[]=>.none|c::r=>match i with|0=>c|i+1=>af r i
def bh (E:List Chunk) (i:Nat) (c':Chunk):List Chunk:=match E with|[]=>[]|c::r=>match i with|0=>c'::r|i+1=>c::bh r i c'
def ah:List Chunk→Nat
 | []=>0|_::r=>ah r+1
def dz:List Chunk→Chunk→List Chunk
 | [],c=>[c]|d::r,c=>d::dz r c
theorem JH (E:List Chunk):ah E=E.length:=by induction E <;> simp[ah, *]
theorem JI (E:List Chunk) (i:Nat):af E i=E[i]?.getD .none:=by
 induction E generalizing i with
 | nil=>simp[af]
 | cons c r ih=>cases i <;> simp[af,ih]
def lB:Nat→List AV→Option (List AV)
 | 0,_=>some []|n+1,[]=>none|n+1,c::r=>match lB n r with|some l=>some (c::l)|none=>none
def lX:Nat→List AV→List AV
 | 0,l=>l|n+1,[]=>[]|n+1,_::r=>lX n r
def lJ:Nat→List AV→List AV→Option (List AV)
 | 0,l,[]=>some l
 | 0,[],_::_=>none
 | 0,_::l,v::vs=>match lJ 0 l vs with|some r=>some (v::r)|none=>none
 | n+1,[],_=>none
 | n+1,c::l,vs=>match lJ n l vs with|some r=>some (c::r)|none=>none
section
variable (P:Program)
def gK (t:Nat):Option TypeInfo:=nth P.types.toList t
def aT (t:Nat):Option TypeDesc:=match gK P t with
 | some i=>(match i.desc with|.named _ u=>(match gK P u with|some j=>some j.desc|none=>none)|d=>some d)
 | none=>none
def bT (t:Nat):Option Nat:=match gK P t with|some i=>some i.size|none=>none
def iT (t:Nat):Option Nat:=match gK P t with|some i=>some i.bytes|none=>none
def gv (t:Nat):Option Value:=match gK P t with|some i=>i.zero|none=>none
def vd (g:Nat→Option Ty):List Field→Option Ty
 | []=>none
 | [f]=>g f.type
 | f::h::r=>match g f.type,vd g (h::r)with|some a,some b=>some (.pair a b)|_,_=>none
def vx:Nat→Ty→Option Ty
 | 0,_=>none|1,y=>some y|n+2,y=>match vx (n+1) y with|some z=>some (.pair y z)|none=>none
def gL:Nat→Nat→Option Ty
 | 0,_=>none
 | d+1,t=>match aT P t with
  | some (.int k)=>some (.int k)
  | some .bool=>some .bool
  | some .string=>some .str
  | some (.slice e)=>(match gL d e with|some y=>some (.list y)|none=>none)
  | some (.struct fs)=>vd (gL d) fs.toList
  | some (.array n e)=>(match gL d e with|some y=>vx n y|none=>none)
  | _=>none
end
def DY:List AV→Nat
 | []=>0|_::r=>DY r+1
theorem Cf (l:List AV):DY l=l.length:=by induction l <;> simp[DY, *]
section
variable (P:Program)
def LS (t:Nat) (cs:List AV) (g:Nat) (K:AV→Prop):Prop :=
 match aT P t with
 | some (.struct _)|some (.array _ _)=>(match bT P t with
  | some n=>(match lB n (lX g cs)with|some l=>fL l fun l=>K (.agg l)|none=>False)
  | none=>False)
 | some _=>(match lX g cs with|v::_=>fV v K|[]=>False)
 | none=>False
def TB (E:List Chunk) (p:AV) (K:List AV→Nat→Prop):Prop :=
 match p with
 | .ptr i g=>(match af E i with|.cells _ cs=>K cs g|_=>False)
 | .bl i sz j g=>(match af E i with
  | .au _ t xs=>(match Nat.beq t.size sz with|true=>K (enc t (fun u=>(xs u).getD (j u) t.a8) []) g|false=>False)
  | .row _ t xs=>(match Nat.beq t.size sz with|true=>K (enc t (fun u=>(xs u).getD (j u) t.a8) []) g|false=>False)
  | _=>False)
 | .dI t x g=>K (enc t x []) g
 | .cL cs g=>K cs g
 | _=>False
def nb:AV→AV
 | .tt=>.ff|.ff=>.tt|.bool b=>.bool (fun u=>!b u)|.hp _ _=>.undef|.hm _ _=>.undef|v=>v
def FZ (h:Nat→Option Ty) (g:Nat→Bool):List Field→Nat→Bool
 | [],_=>true
 | f::r,k=>(match Nat.beq f.offset k,bT P f.type,h f.type with
  | true,some n,some ty=>Nat.beq n ty.size && !(f.name == "_") && g f.type && FZ h g r (k+n)
  | _,_,_=>false)
def yn:Nat→Nat→Bool
 | 0,_=>false
 | d+1,t=>match aT P t with
  | some (.int _)=>true|some .bool=>true|some .string=>true
  | some (.struct fs)=>!P.stoodInHeld t && FZ P (gL P d) (yn d) fs.toList 0
  | _=>false
def ph (P:Program) (t:Nat):Bool:=match aT P t with
 | some (.struct _)|some (.array _ _)=>false|some _=>true|none=>false
structure FI (P:Program) (t i:Nat) (h:Unit→Hp) (f:Unit→Option (Nat×Nat)) (K:AV→Prop):Prop where
 h:∃ k off T n c v,f ()=some (k,off)∧(h ()).o k=.cells T n c∧off<n∧c off=v∧ph P t=true∧K (v.av i)
structure WT (h:Unit→Hp) (f g:Unit→Option (Nat×Nat)) (K:AV→Prop):Prop where
 h:(∀ x,f ()=some x→∃ T n c,(h ()).o x.1=.cells T n c)∧(∀ x,g ()=some x→∃ T n c,(h ()).o x.1=.cells T n c)∧K (.bool fun u=>f u == g u)
def iU (P:Program) (t:Nat):Option Value:=match aT P t with
 | some (.map kt et)=>(match aT P kt with|some (.int .i64)=>gv P et|_=>none)
 | _=>none
structure PR (P:Program) (t:Nat) (ok:Bool) (i:Nat) (h:Unit→Hp) (f:Unit→Nat) (n:Unit→Int) (K:AV→Prop):Prop where
 h:∃ es clock z,(h ()).o (f ())=.map es clock∧iU P t=some z ∧
  (∀ v,aO es (n ())=some v→K (match ok with|true=>.bM [v.av i,.tt]|false=>v.av i))∧(aO es (n ())=none→K (match ok with|true=>.bM [yf z,.ff]|false=>yf z))
structure Un (h:Unit→Hp) (f:Unit→Nat) (K:AV→Prop):Prop where
 h:∃ es clock,(h ()).o (f ())=.map es clock∧K (.int .i64 fun _=>(es.length:Int))
def TC (dU:Nat) (x y:Operand) (E:List Chunk) (a b:AV) (K:AV→Prop):Prop :=
 match a,b with
 | .int k a,.int k' b=>(match decEq k k' with|isTrue _=>K (.bool fun u=>a u == b u)|isFalse _=>False)
 | .str a,.str b=>K (.bool fun u=>a u == b u)
 | .bool a,.bool b=>(match aT P dU with|some .bool=>K (.bool fun u=>a u == b u)|_=>False)
 | .bool a,.tt=>(match aT P dU with|some .bool=>K (.bool a)|_=>False)
 | .bool a,.ff=>(match aT P dU with|some .bool=>K (.bool fun u=>!a u)|_=>False)
 | .tt,.tt|.ff,.ff=>(match aT P dU with|some .bool=>K .tt|_=>False)
 | .tt,.ff|.ff,.tt=>(match aT P dU with|some .bool=>K .ff|_=>False)
 | .bZ,.bZ=>(match aT P dU with|some (.pointer _)=>K .tt|_=>False)
 | .ptr _ _,.bZ|.bl _ _ _ _,.bZ|.dI _ _ _,.bZ|.cL _ _,.bZ|.bZ,.ptr _ _|.bZ,.bl _ _ _ _|.bZ,.dI _ _ _|.bZ,.cL _ _=>(match aT P dU with|some (.pointer _)=>K .ff|_=>False)
 | .hp i f,.bZ|.bZ,.hp i f=>(match aT P dU with|some (.pointer _)=>K (.bool fun u=>(f u).isNone)|_=>False)
 | .hp i f,.hp j g=>(match aT P dU with
  | some (.pointer te)=>(match bT P te,Nat.beq i j,af E i with|some (_+1),true,.heap h=>WT h f g K|_,_,_=>False)
  | _=>False)
 | .aY,.aY=>(match aT P dU with|some (.slice _)=>K .tt|_=>False)
 | .aG t xs,.aY=>(match aT P dU with|some (.slice _)=>(∀ b:Bool,(b=true→xs ()=[])→K (.bool fun _=>b))|_=>False)
 | .vec i s o n,.aY=>(match aT P dU with|some (.slice _)=>(∀ b:Bool,(b=true→n ()=0)→K (.bool fun _=>b))|_=>False)
 | .gV,.gV=>(match aT P dU with|some (.func _ _ _)=>K .tt|_=>False)
 | .fn _ _ _,.gV=>(match aT P dU with|some (.func _ _ _)=>K .ff|_=>False)
 | .agg cs,.agg ds=>(match aT P dU,gL P 6 dU with
  | some (.struct _),some ty=>Ck (yn P 6 dU && !P.eqGuardType P.depth dU)∧wH ty cs fun x=>wH ty ds fun y=>K (.bool fun u=>Cc ty (x u) (y u))
  | _,_=>False)
 | .ptr i g,.ptr j o=>(match aT P dU with
  | some (.pointer te)=>(match gK P te,Nat.beq i j,Nat.beq g o with|some _,true,true=>K .tt|_,_,_=>False)
  | _=>False)
 | _,_=>False
def JJ (op:BinOp) (k:IntKind) (a b:Unit→Int) (K:AV→Prop):Prop :=
 match op with
 | .add=>K (.int k fun u=>k.wrap (a u+b u))
 | .sub=>K (.int k fun u=>k.wrap (a u - b u))
 | .mul=>K (.int k fun u=>k.wrap (a u*b u))
 | .quo=>Ob (fun u=>b u≠0)∧K (.int k fun u=>k.wrap ((a u).tdiv (b u)))
 | .rem=>Ob (fun u=>b u≠0)∧K (.int k fun u=>(a u).tmod (b u))
 | .and=>K (.int k fun u=>k.wrap (BitVec.ofInt k.bits (a u) &&& BitVec.ofInt k.bits (b u)).toNat)
 | .or=>K (.int k fun u=>k.wrap (BitVec.ofInt k.bits (a u) ||| BitVec.ofInt k.bits (b u)).toNat)
 | .xor=>K (.int k fun u=>k.wrap (BitVec.ofInt k.bits (a u) ^^^ BitVec.ofInt k.bits (b u)).toNat)
 | .andNot=>K (.int k fun u=>k.wrap (BitVec.ofInt k.bits (a u) &&& ~~~ BitVec.ofInt k.bits (b u)).toNat)
 | .eql=>K (.bool fun u=>a u == b u)
 | .neq=>K (.bool fun u=>a u != b u)
 | .lss=>K (.bool fun u=>decide (a u<b u))
 | .leq=>K (.bool fun u=>decide (a u≤b u))
 | .gtr=>K (.bool fun u=>decide (b u<a u))
 | .geq=>K (.bool fun u=>decide (b u≤a u))
 | _=>False
def M0 (op:BinOp) (a b:Unit→List UInt8) (K:AV→Prop):Prop :=
 match op with
 | .add=>Ob (fun u=>(a u).length+(b u).length≤9223372036854775807)∧K (.str fun u=>a u++b u)
 | .eql=>K (.bool fun u=>a u == b u)
 | .neq=>K (.bool fun u=>!(a u == b u))
 | .lss=>K (.bool fun u=>Op.bytesLess (a u) (b u))
 | .leq=>K (.bool fun u=>Op.bytesLess (a u) (b u) || a u == b u)
 | .gtr=>K (.bool fun u=>!(Op.bytesLess (a u) (b u) || a u == b u))
 | .geq=>K (.bool fun u=>!Op.bytesLess (a u) (b u))
 | _=>False
def LU (op:BinOp) (k k':IntKind) (a b:Unit→Int) (K:AV→Prop):Prop :=
 match op with
 | .shl=>Ob (fun u=>0≤b u)∧K (.int k fun u=>k.wrap (a u*2 ^ (min (b u).toNat k.bits)))
 | .shr=>Ob (fun u=>0≤b u)∧K (.int k fun u=>(a u).fdiv (2 ^ (min (b u).toNat k.bits)))
 | op=>(match decEq k k' with|isTrue _=>JJ op k a b K|isFalse _=>False)
def M8 (op:BinOp) (dU:Nat) (x y:Operand) (E:List Chunk) (a b:AV) (K:AV→Prop):Prop :=
 match a,b with
 | .int k a,.int k' b=>LU op k k' a b K
 | .str a,.str b=>M0 op a b K
 | a,b=>(match op with
  | .eql=>TC P dU x y E a b K
  | .neq=>TC P dU x y E a b fun r=>K (nb r)
  | _=>False)
def vy (env:Env) (x:Option Operand) (d:Unit→Int) (K:(Unit→Int)→Prop):Prop :=
 match x with
 | none=>K d
 | some x=>(match ev env x with|.int _ n=>K n|_=>False)
def F0 (b a:AV) (K:AV→Prop):Prop:=match b,a with
 | .int _ b,.int k a=>K (.int k fun u=>if b u<a u then b u else a u)|_,_=>False
def F1 (b a:AV) (K:AV→Prop):Prop:=match b,a with
 | .int _ b,.int k a=>K (.int k fun u=>if b u>a u then b u else a u)|_,_=>False
def M9:List AV→AV→(AV→Prop)→Prop
 | [],a,K=>K a
 | b::r,a,K=>F0 b a fun c=>M9 r c K
def Na:List AV→AV→(AV→Prop)→Prop
 | [],a,K=>K a
 | b::r,a,K=>F1 b a fun c=>Na r c K
def nS (place:Nat→Option (Nat×Nat)) (cells:List AV):List (Nat×List AV)→Option (List AV)
 | []=>some cells
 | (i,v)::rest=>match place i with
  | some (off,size)=>(match Nat.beq v.length size with
   | true=>(match lJ off cells v with|some cs=>nS place cs rest|none=>none)
   | false=>none)
  | none=>none
def gY:AV→Option (List AV)
 | .undef|.skip|.bM _=>none|.agg cs=>some cs|v=>some [v]
def ou (env:Env):List (Nat×Operand)→Option (List (Nat×List AV))
 | []=>some []|(i,x)::r=>match gY (ev env x),ou env r with|some c,some l=>some ((i,c)::l)|_,_=>none
def pj:List Field→Option (List (Nat×Nat))
 | []=>some []
 | f::r=>match bT P f.type,pj r with|some s,some l=>some ((f.offset,s)::l)|_,_=>none
def AK (t:Nat) (ps:List (Nat×List AV)) (K:AV→Prop):Prop :=
 match gv P t with
 | some z=>(match gY (yf z)with
  | some cs=>(match aT P t with
   | some (.struct fs)=>(match pj P fs.toList with
    | some pl=>(match nS (nth pl) cs ps with|some cs=>fL cs fun cs=>K (.agg cs)|none=>False)
    | none=>False)
   | some (.array _ e)=>(match bT P e with
    | some s=>(match nS (fun i=>some (i*s,s)) cs ps with|some cs=>fL cs fun cs=>K (.agg cs)|none=>False)
    | none=>False)
   | _=>False)
  | none=>False)
 | none=>False
def Nb (t:Nat) (a:AV) (K:AV→Prop):Prop :=
 match a with
 | .str s=>(match aT P t with|some .string=>K (.int .i64 fun u=>((s u).length:Int))|_=>False)
 | .aG _ xs=>(match aT P t with|some (.slice _)=>K (.int .i64 fun u=>((xs u).length:Int))|_=>False)
 | .vec _ _ _ n=>(match aT P t with|some (.slice _)=>K (.int .i64 fun u=>(n u:Int))|_=>False)
 | .aY=>(match aT P t with|some (.slice _)=>K (.int .i64 fun _=>0)|_=>False)
 | .agg _=>(match aT P t with|some (.array n _)=>K (.int .i64 fun _=>(n:Int))|_=>False)
 | _=>False
def Nc (t:Nat) (a:AV) (K:AV→Prop):Prop :=
 match a with
 | .vec _ _ _ n=>(match aT P t with|some (.slice _)=>(∀ c:Nat,n ()≤c→K (.int .i64 fun _=>(c:Int)))|_=>False)
 | .aY=>(match aT P t with|some (.slice _)=>K (.int .i64 fun _=>0)|_=>False)
 | _=>False
def sP (b:Builtin) (t:Nat) (az:List AV) (E:List Chunk) (K:AV→Prop):Prop :=
 match az with
 | []=>False
 | a::r=>(match b with
  | .len=>(match r with
   | []=>(match a with
    | .hm i f=>(match aT P t,af E i with|some (.map _ _),.heap h=>Un h f K|_,_=>False)
    | a=>Nb P t a K)
   | _=>False)
  | .cap=>(match r with|[]=>Nc P t a K|_=>False)
  | .min=>M9 r a K
  | .max=>Na r a K
  | .unsafeSliceData=>(match r,a with
   | [],.vec i 1 o n=>Ob (fun u=>o u=0∧n u≠0)∧K (.bl i 1 (fun _=>0) 0)
   | _,_=>False)
  | _=>False)
def Qj:List Int→List AV→(Unit→Int)→(AV→Prop)→Prop→Prop
 | [],[],_,_,D=>D
 | k::ks,v::vs,n,K,D=>(n ()=k→fV v K)∧(n ()≠k→Qj ks vs n K D)
 | _,_,_,_,_=>False
def F2 (t:Nat) (ok:Bool) (x k:AV) (E:List Chunk) (K:AV→Prop):Prop :=
 match x,k with
 | .hm i f,.int .i64 n=>(match af E i with|.heap h=>PR P t ok i h f n K|_=>False)
 | .mp i,.int kk n=>(match aT P t,af E i with
  | some (.map kt et),.jC k' ks vs=>(match aT P kt,decEq kk k',gv P et with
   | some (.int _),isTrue _,some z=>(match ok with
    | true=>Qj ks vs n (fun v=>K (.bM [v,.tt])) (K (.bM [yf z,.ff]))
    | false=>Qj ks vs n K (K (yf z)))
   | _,_,_=>False)
  | _,_=>False)
 | _,_=>False
def qV (op:Op) (env:Env) (E:List Chunk) (K:AV→Prop):Prop :=
 match op with
 | .move x|.assign x=>K (ev env x)
 | .pick c a b=>(match ev env c with
  | .bool c=>(c ()=true→K (ev env a))∧(c ()=false→K (ev env b))
  | .tt=>K (ev env a)|.ff=>K (ev env b)|_=>False)
 | .load t x=>(match ev env x with
  | .hp i f=>(match af E i with|.heap h=>FI P t i h f K|_=>False)
  | p=>TB E p fun cs g=>LS P t cs g K)
 | .nilCheck x=>(match ev env x with
  | .ptr i g=>K (.ptr i g)|.bl i s j g=>K (.bl i s j g)|.dI t x g=>K (.dI t x g)|.cL cs g=>K (.cL cs g)|.fn (.func f) a b=>K (.fn (.func f) a b)
  | .hp i f=>Ob (fun u=>f u≠none)∧K (.hp i f)|_=>False)
 | .fieldAddr s x f=>(match aT P s with
  | some (.struct fs)=>(match nth fs.toList f with
   | some fd=>(match bT P fd.type with
    | some (_+1)=>(match ev env x with
     | .ptr i g=>fN (g+fd.offset) fun g=>K (.ptr i g)
     | .bl i sz j g=>fN (g+fd.offset) fun g=>K (.bl i sz j g)
     | .dI t x g=>fN (g+fd.offset) fun g=>K (.dI t x g)
     | .cL cs g=>fN (g+fd.offset) fun g=>K (.cL cs g)
     | .hp i f=>Ob (fun u=>f u≠none)∧K (.hp i fun u=>(f u).map fun x=>(x.1,x.2+fd.offset))
     | _=>False)
    | _=>False)
   | none=>False)
  | _=>False)
 | .field s x f=>(match aT P s with
  | some (.struct fs)=>(match nth fs.toList f with
   | some fd=>(match ev env x with|.agg cs=>LS P fd.type cs fd.offset K|_=>False)
   | none=>False)
  | _=>False)
 | .indexAddr t x ix=>(match ev env ix with
  | .int _ j=>(match aT P t with
   | some (.slice e)=>(match bT P e with
    | some sz=>(match ev env x with
     | .aG ty xs=>(match Nat.beq ty.size sz with|true=>Ob (fun u=>0≤j u∧j u<(xs u).length)∧K (.dI ty (fun u=>(xs u).getD (j u).toNat ty.a8) 0)|false=>False)
     | .vec i s o n=>(match Nat.beq s sz with
      | true=>Ob (fun u=>0≤j u∧j u<n u)∧(match af E i with
       | .au _ _ _=>K (.bl i s (fun u=>o u+(j u).toNat) 0)
       | .row _ _ _=>K (.bl i s (fun u=>o u+(j u).toNat) 0)
       | .cells _ _=>fN ((o ()+(j ()).toNat)*s) fun g=>K (.ptr i g)
       | _=>False)
      | false=>False)
     | _=>False)
    | none=>False)
   | some (.array len e)=>(match bT P e with
    | some sz=>(match ev env x with
     | .ptr i g=>Ob (fun u=>0≤j u∧j u<len)∧fN (g+(j ()).toNat*sz) fun g=>K (.ptr i g)
     | .bl i s q g=>Ob (fun u=>0≤j u∧j u<len)∧fN (g+(j ()).toNat*sz) fun g=>K (.bl i s q g)
     | .dI ty y g=>Ob (fun u=>0≤j u∧j u<len)∧fN (g+(j ()).toNat*sz) fun g=>K (.dI ty y g)
     | .hp i f=>Ob (fun u=>f u≠none∧0≤j u∧j u<len)∧K (.hp i fun u=>(f u).map fun x=>(x.1,x.2+(j u).toNat*sz))
     | _=>False)
    | none=>False)
   | _=>False)
  | _=>False)
 | .index t x ix=>(match ev env ix with
  | .int _ j=>(match aT P t with
   | some .string=>(match ev env x with
    | .str s=>Ob (fun u=>0≤j u∧j u<(s u).length)∧K (.int .u8 fun u=>(((s u).getD (j u).toNat 0).toNat:Int))
    | _=>False)
   | some (.array len e)=>(match bT P e with
    | some sz=>(match ev env x with
     | .agg cs=>Ob (fun u=>0≤j u∧j u<len)∧LS P e cs ((j ()).toNat*sz) K
     | _=>False)
    | none=>False)
   | _=>False)
  | _=>False)
 | .slice t x lo hi none=>(match aT P t with
  | some .string=>(match ev env x with
   | .str s=>vy env lo (fun _=>0) fun l=>vy env hi (fun u=>(s u).length) fun h =>
    Ob (fun u=>0≤l u∧l u≤h u∧h u≤(s u).length)∧K (.str fun u=>((s u).take (h u).toNat).drop (l u).toNat)
   | _=>False)
  | some (.slice e)=>(match ev env x with
   | .aG ty xs=>(match bT P e with
    | some sz=>(match Nat.beq ty.size sz with
     | true=>vy env lo (fun _=>0) fun l=>vy env hi (fun u=>(xs u).length) fun h =>
      Ob (fun u=>0≤l u∧l u≤h u∧h u≤(xs u).length)∧K (.aG ty fun u=>((xs u).take (h u).toNat).drop (l u).toNat)
     | false=>False)
    | none=>False)
   | .vec i s o n=>(match bT P e with
    | some sz=>(match Nat.beq s sz with
     | true=>vy env lo (fun _=>0) fun l=>vy env hi (fun u=>n u) fun h =>
      Ob (fun u=>0≤l u∧l u≤h u∧h u≤n u)∧K (.vec i s (fun u=>o u+(l u).toNat) (fun u=>(h u).toNat - (l u).toNat))
     | false=>False)
    | none=>False)
   | .aY=>(match bT P e with
    | some _=>vy env lo (fun _=>0) fun l=>vy env hi (fun _=>0) fun h=>Ob (fun u=>l u=0∧h u=0)∧K .aY
    | none=>False)
   | _=>False)
  | _=>False)
 | .slice t x none (some hi) (some mx)=>(match ev env hi,ev env mx with
  | .int _ h,.int _ m=>(match aT P t with
   | some (.slice e)=>(match bT P e with
    | some sz=>(match ev env x with
     | .aG ty xs=>(match Nat.beq ty.size sz with
      | true=>Ob (fun u=>h u=(xs u).length∧m u=(xs u).length)∧K (.aG ty xs)
      | false=>False)
     | .aY=>Ob (fun u=>h u=0∧m u=0)∧K .aY
     | _=>False)
    | none=>False)
   | _=>False)
  | _,_=>False)
 | .binOp op dU x y _=>M8 P op dU x y E (ev env x) (ev env y) K
 | .unOp op _ x=>(match op,ev env x with
  | .not,.bool b=>K (.bool fun u=>!b u)|.not,.tt=>K .ff|.not,.ff=>K .tt
  | .neg,.int k n=>K (.int k fun u=>k.wrap (0 - n u))
  | .xor,.int k n=>K (.int k fun u=>k.wrap (BitVec.ofInt k.bits (if k.signed then -1 else k.max) ^^^ BitVec.ofInt k.bits (n u)).toNat)
  | _,_=>False)
 | .convert src dst x=>(match aT P src,aT P dst,ev env x with
  | some _,some (.int k),.int _ n=>K (.int k fun u=>k.wrap (n u))
  | some _,some .string,.str s=>K (.str s)
  | some (.slice e),some .string,.aG (.int .u8) xs=>(match aT P e with|some (.int .u8)=>K (.str fun u=>(xs u).map fun z=>UInt8.ofNat z.toNat)|_=>False)
  | some (.slice e),some .string,.aY=>(match aT P e with|some (.int .u8)=>K (.str fun _=>[])|_=>False)
  | some (.slice e),some .string,.vec i 1 o n=>(match aT P e,af E i with
   | some (.int .u8),.au _ (.int .u8) xs=>K (.str fun u=>((xs u).drop (o u) |>.take (n u)).map fun z=>UInt8.ofNat z.toNat)
   | _,_=>False)
  | some (.pointer t),some .unsafePointer,.ptr i g=>(match bT P t,af E i with
   | some (_+1),.cells _ cs=>(match Nat.blt g (DY cs)with|true=>K (.ptr i g)|false=>False)
   | _,_=>False)
  | some .unsafePointer,some (.pointer t),.ptr i g=>(match gK P t,af E i with
   | some _,.cells T cs=>fN (DY cs) fun n=>Ck (liesAt P P.depth T (n / P.cellsOf T) g t 1)∧K (.ptr i g)
   | _,_=>False)
  | _,_,_=>False)
 | .makeInterface t x=>(match aT P t with|some (.interface _)=>False|some _=>K (.ot t (ev env x))|none=>False)
 | .makeFunc f a b=>fL (qF env a.toList) fun a=>fL (qF env b.toList) fun b=>K (.fn f a b)
 | .extract x i=>(match ev env x with|.bM cs=>(match nth cs i with|some v=>fV v K|none=>False)|_=>False)
 | .lookup t x k ok=>F2 P t ok (ev env x) (ev env k) E K
 | .build t parts=>(match ou env parts.toList with|some ps=>AK P t ps K|none=>False)
 | .call { callee:=.builtin b,args,argTypes }=>(match argTypes.toList with
  | t::_=>sP P b t (qF env args.toList) E K
  | []=>False)
 | _=>False
end
structure Gh where
 n:Nat
 Φ:Nat→Option Obj
 B:Nat→Nat
 V:Nat→Option Nat
 L:Nat→Nat
 k:Nat
 W:Nat→Nat→Nat
 M:Nat→Nat
def At (g:Gh) (A:Option Addr) (k:Nat) (u:Value):Prop :=
 ∃ b off cells T fr,A=some ⟨b,off,none⟩∧g.Φ b=some (.cells cells T fr)∧cells[off+k]?=some u
inductive R (g:Gh):AV→Value→Prop
 | undef (v):R g .undef v
 | skip:R g .skip Go.undef
 | int (k n):R g (.int k n) (.int k (n ()))
 | bool (b):R g (.bool b) (.bool (b ()))
 | tt:R g .tt (.bool true)
 | ff:R g .ff (.bool false)
 | str (s):R g (.str s) (.string ⟨(s ()).toArray⟩)
 | aG (t) (xs:Unit→List (Ty.den t)) (A) (c) (u:Nat→Nat→Value) (hc:(xs ()).length≤c) (hm:(xs ()).length≤9223372036854775807)
   (ha:∀ (i:Nat) (x:Ty.den t) (j:Nat) (y:AV),(xs ())[i]?=some x→(enc t (fun _=>x) [])[j]?=some y→At g A (i*t.size+j) (u i j))
   (hr:∀ (i:Nat) (x:Ty.den t) (j:Nat) (y:AV),(xs ())[i]?=some x→(enc t (fun _=>x) [])[j]?=some y→R g y (u i j)):R g (.aG t xs) (.slice A (xs ()).length c)
 | agg (cs) (vs:Array Value) (hl:cs.length=vs.size) (hr:∀ (i:Nat) (y:AV) (u:Value),cs[i]?=some y→vs[i]?=some u→R g y u):R g (.agg cs) (.agg vs)
 | bM (cs) (vs:Array Value) (hl:cs.length=vs.size) (hr:∀ (i:Nat) (y:AV) (u:Value),cs[i]?=some y→vs[i]?=some u→R g y u):R g (.bM cs) (.tuple vs)
 | bZ:R g .bZ (.pointer none)
 | ptr (i off) (hi:i<g.n):R g (.ptr i off) (.pointer (some ⟨g.B i,off,none⟩))
 | bl (i sz idx off) (hi:i<g.n) (h:idx ()<g.L i):R g (.bl i sz idx off) (.pointer (some ⟨g.B i,idx ()*sz+off,none⟩))
 | dI (t) (x:Unit→Ty.den t) (off b o:Nat) (u:Nat→Value)
   (ha:∀ (j:Nat) (y:AV),(enc t x [])[j]?=some y→At g (some ⟨b,o,none⟩) j (u j))
   (hr:∀ (j:Nat) (y:AV),(enc t x [])[j]?=some y→R g y (u j)):R g (.dI t x off) (.pointer (some ⟨b,o+off,none⟩))
 | cL (cs:List AV) (off b o:Nat) (u:Nat→Value) (ha:∀ (j:Nat) (y:AV),cs[j]?=some y→At g (some ⟨b,o,none⟩) j (u j)) (hr:∀ (j:Nat) (y:AV),cs[j]?=some y→R g y (u j)):R g (.cL cs off) (.pointer (some ⟨b,o+off,none⟩))
 | aY:R g .aY (.slice none 0 0)
 | vec (i sz off n) (A c) (hi:i<g.n) (hL:off ()+n ()≤g.L i) (hn:g.V i=none→A=none∧n ()=0∧c=0∧off ()=0)
   (hs:∀ cap,g.V i=some cap→cap≤9223372036854775807∧off ()+n ()≤cap∧off ()+c=cap∧(off ()<cap∨off ()=0→A=some ⟨g.B i,off ()*sz,none⟩)∧A≠none):R g (.vec i sz off n) (.slice A (n ()) c)
 | fn (f az bs) (vs ws:Array Value) (hl:az.length=vs.size) (lK:bs.length=ws.size) (hr:∀ (i:Nat) (y:AV) (u:Value),az[i]?=some y→vs[i]?=some u→R g y u)
   (rG:∀ (i:Nat) (y:AV) (u:Value),bs[i]?=some y→ws[i]?=some u→R g y u):R g (.fn f az bs) (.func f vs ws)
 | gV:R g .gV .nilFunc
 | ot (t v u) (h:R g v u):R g (.ot t v) (.iface t u)
 | j9:R g .j9 .nilIface
 | mp (i) (hi:i<g.n):R g (.mp i) (.map (some (g.B i)))
 | ka:R g .ka (.map none)
 | hp (i f) (hi:i<g.n) (hf:∀ x,f ()=some x→x.1<g.M i):R g (.hp i f) (.pointer ((f ()).map fun x=>⟨g.W i x.1,x.2,none⟩))
 | hm (i f) (hi:i<g.n) (hf:f ()<g.M i):R g (.hm i f) (.map (some (g.W i (f ()))))
def RL (g:Gh):List AV→List Value→Prop
 | [],[]=>True
 | c::r,u::us=>R g c u∧RL g r us
 | _,_=>False
theorem RL.length {g:Gh}:∀ {cs:List AV} {us:List Value},RL g cs us→cs.length=us.length
 | [],[],_=>rfl
 | c::r,u::us,h=>by simp[RL.length h.2]
theorem RL.at_ {g:Gh}:∀ {cs:List AV} {us:List Value},RL g cs us→∀ (i:Nat) (y:AV) (u:Value),cs[i]?=some y→us[i]?=some u→R g y u
 | [],[],_,i,y,u,h,_=>by simp at h
 | c::r,v::us,h,0,y,u,h1,h2=>by simp at h1 h2;subst h1 h2;exact h.1
 | c::r,v::us,h,i+1,y,u,h1,h2=>RL.at_ h.2 i y u (by simpa using h1) (by simpa using h2)
theorem RL.mk {g:Gh}:∀ {cs:List AV} {us:List Value},cs.length=us.length→(∀ (i:Nat) (y:AV) (u:Value),cs[i]?=some y→us[i]?=some u→R g y u)→RL g cs us
 | [],[],_,_=>trivial
 | [],_::_,h,_=>by simp at h
 | _::_,[],h,_=>by simp at h
 | c::r,u::us,h,hr=>⟨hr 0 c u rfl rfl,RL.mk (by simpa using h) fun i y v h1 h2=>hr (i+1) y v (by simpa using h1) (by simpa using h2)⟩
theorem RL.append {g:Gh}:∀ {cs:List AV} {us:List Value} {ds vs},RL g cs us→RL g ds vs→RL g (cs++ds) (us++vs)
 | [],[],_,_,_,h=>h
 | c::r,u::us,_,_,h,h'=>⟨h.1,RL.append h.2 h'⟩
theorem RL.get {g:Gh} {cs:List AV} {us:List Value} (h:RL g cs us) {i:Nat} {y:AV} (hy:cs[i]?=some y):∃ u,us[i]?=some u∧R g y u:=by
 have hl:=h.length
 have hi:i<cs.length:=(abk.1 hy).1
 exact⟨us[i]'(by omega),abj (by omega),h.at_ i y _ hy (abj (by omega))⟩
theorem R.gF {g:Gh} {cs:List AV} {v:Value} (h:R g (.agg cs) v):∃ vs,v=.agg vs∧RL g cs vs.toList:=by
 cases h with|agg _ vs hl hr=>exact⟨vs,rfl,RL.mk (by simpa using hl) fun i y u h1 h2=>hr i y u h1 (by simpa using h2)⟩
theorem R.sw {g:Gh} {cs:List AV} {v:Value} (h:R g (.bM cs) v):∃ vs,v=.tuple vs∧RL g cs vs.toList:=by
 cases h with|bM _ vs hl hr=>exact⟨vs,rfl,RL.mk (by simpa using hl) fun i y u h1 h2=>hr i y u h1 (by simpa using h2)⟩
theorem R.iV {g:Gh} {cs:List AV} {vs:List Value} (h:RL g cs vs):R g (.agg cs) (.agg vs.toArray) :=
 .agg _ _ (by simpa using h.length) fun i y u h1 h2=>h.at_ i y u h1 (by simpa using h2)
theorem R.il {g:Gh} {cs:List AV} {vs:List Value} (h:RL g cs vs):R g (.bM cs) (.tuple vs.toArray) :=
 .bM _ _ (by simpa using h.length) fun i y u h1 h2=>h.at_ i y u h1 (by simpa using h2)
theorem R.DZ {g:Gh} {az bs:List AV} {vs ws:List Value} {f:Fn} (h:RL g az vs) (h':RL g bs ws):R g (.fn f az bs) (.func f vs.toArray ws.toArray) :=
 .fn _ _ _ _ _ (by simpa using h.length) (by simpa using h'.length) (fun i y u h1 h2=>h.at_ i y u h1 (by simpa using h2)) (fun i y u h1 h2=>h'.at_ i y u h1 (by simpa using h2))
theorem cR:∀ (t:Ty) (x:Unit→t.den) (r:List AV),enc t x r=enc t x []++r
 | .int _,_,_|.bool,_,_|.str,_,_|.list _,_,_=>rfl
 | .pair a b,x,r=>by
  simp only[enc]
  rw[cR a _ (enc b _ r),cR b _ r,cR a _ (enc b _ [])]
  simp
theorem bz:∀ (t:Ty) (x:Unit→t.den),(enc t x []).length=t.size
 | .int _,_|.bool,_|.str,_|.list _,_=>rfl
 | .pair a b,x=>by
  simp only[enc]
  rw[cR a,abp,bz a,bz b]
  rfl
theorem Ty.size_pos:∀ t:Ty,0<t.size
 | .int _|.bool|.str|.list _=>Nat.one_pos
 | .pair a b=>Nat.add_pos_left (Ty.size_pos a) _
section
variable {P:Program}
theorem bA {t:Nat} {i:TypeInfo} (h:gK P t=some i):P.info? t=some i:=by
 unfold gK at h
 rw[gX]at h
 have hl:t<P.types.size:=by
  have:=(abk.1 h).1
  simpa using this
 show Tables.info? _ _=_
 unfold Tables.info?
 rw[if_pos hl]
 simpa using h
theorem aw {t:Nat} {d:TypeDesc} (h:aT P t=some d):P.underlying t=some d:=by
 unfold aT at h
 split at h
 ·rename_i i hi
  have eH:=bA hi
  unfold Program.underlying
  rw[eH]
  cases i with
  | mk desc str size bytes hp al fa zero comp ms =>
   cases desc <;> simp only at h ⊢ <;> try exact h
   rename_i nm u
   split at h
   ·rename_i j hj
    rw[bA hj];exact h
   ·cases h
 ·cases h
theorem aW {t n:Nat} (h:bT P t=some n) (w:World):(sizeOf t).run P w=.ok n w:=by
 unfold bT at h
 split at h
 ·rename_i i hi
  simp only[ab6]at h
  simp[sizeOf,typeInfo,bA hi,h]
 ·cases h
theorem ed {t:Nat} {z:Value} (h:gv P t=some z) (w:World):(zeroValue t).run P w=.ok z w:=by
 unfold gv at h
 split at h
 ·rename_i i hi
  simp[zeroValue,typeInfo,bA hi,h]
 ·cases h
theorem ag {t:Nat} {d:TypeDesc} (h:aT P t=some d) (w:World):(underlying t).run P w=.ok d w:=run_underlying (aw h) w
end
def gZ (g:Gh) (i:Nat):List (Nat×Int×HV)→List MapEntry→Prop
 | [],[]=>True
 | (b,n,v)::r,e::es=>e.born=b∧e.key=.int .i64 n∧R g (v.av i) e.val∧gZ g i r es
 | _,_=>False
def HO.sat (g:Gh) (i:Nat) (ob:Obj):HO→Prop
 | .cells T n c=>∃ vs:Array Value,ob=.cells vs T (0,0)∧vs.size=n∧∀ (j:Nat) (u:Value),vs[j]?=some u→R g ((c j).av i) u
 | .map es clock=>∃ ms:Array MapEntry,ob=.map ms clock∧gZ g i es ms.toList
def F3:Obj→Bool
 | .cells _ _ _=>true|.map _ _=>true|.mapIter _ _ _ _=>true|_=>false
def Chunk.sat (g:Gh) (i:Nat) (w:World):Chunk→Prop
 | .none=>True
 | .cells T cs=>∃ vs:Array Value,w.heap[g.B i]?=some (.cells vs T (0,0))∧RL g cs vs.toList
 | .au T t xs=>(xs ()).length=g.L i∧(g.V i=Option.none→xs ()=[])∧∀ cap,g.V i=some cap →
   ∃ vs:Array Value,w.heap[g.B i]?=some (.cells vs T (0,0))∧vs.size=cap*t.size∧(xs ()).length≤cap ∧
    ∀ (k:Nat) (x:t.den),(xs ())[k]?=some x→RL g (enc t (fun _=>x) []) ((vs.toList.drop (k*t.size)).take t.size)
 | .row T t xs=>(xs ()).length=g.L i∧(g.V i=Option.none→xs ()=[])∧∀ cap,g.V i=some cap →
   ∃ vs:Array Value,w.heap[g.B i]?=some (.cells vs T (0,0))∧vs.size=cap*t.size∧(xs ()).length≤cap ∧
    ∀ (k:Nat) (x:t.den),(xs ())[k]?=some x→RL g (enc t (fun _=>x) []) ((vs.toList.drop (k*t.size)).take t.size)
 | .count k=>k ()=g.k
 | .heap h=>g.M i=(h ()).m∧(∀ k k',k<g.M i→k'<g.M i→g.W i k=g.W i k'→k=k')∧∀ k,k<g.M i→∃ ob,w.heap[g.W i k]?=some ob∧((h ()).o k).sat g i ob
 | .jD x since last seen=>∃ b,R g x (.map (some b))∧w.heap[g.B i]?=some (.mapIter (some b) since (seen ()).toArray last)
 | .jy T cs=>∃ vs:Array Value,w.heap[g.B i]?=some (.cells vs T (0,0))∧RL g cs vs.toList
 | .bg q=>g.M i=0∧(∀ b k,g.W i k=b+1→∃ o,w.heap[b]?=some o∧F3 o=true)∧q.h g.Φ (g.B i) (fun b=>∃ k,g.W i k=b+1) (fun b=>w.heap[b]?)
 | .jC k ks vs=>∃ (es:Array MapEntry) (clock:Nat),w.heap[g.B i]?=some (.map es clock)∧es.toList.map (·.key)=ks.map (Value.int k)∧RL g vs (es.toList.map (·.val))
def Chunk.own (g:Gh) (i:Nat) (c:Chunk) (b:Nat):Prop:=match c with
 | .none=>False
 | .cells _ _=>g.B i=b
 | .au _ _ _=>g.V i≠Option.none∧g.B i=b
 | .row _ _ _=>g.V i≠Option.none∧g.B i=b
 | .count _=>False
 | .jC _ _ _=>g.B i=b
 | .heap _=>∃ k,k<g.M i∧g.W i k=b
 | .jD _ _ _ _=>g.B i=b
 | .jy _ _=>g.B i=b
 | .bg _=>∃ k,g.W i k=b+1
structure fg (g:Gh) (E:List Chunk) (w:World):Prop where
 len:ah E=g.n
 dA:∀ b o,g.Φ b=some o→w.heap[b]?=some o
 sat:∀ i,(af E i).sat g i w
 lL:∀ i j b,(af E i).own g i b→(af E j).own g j b→i=j
 dQ:∀ i b,(af E i).own g i b→g.Φ b=none
def ER (g:Gh) (env:Env) (tmps:Array Value):Prop:=∀ t,R g (look env t) (tmps.getD t Go.undef)
theorem AL (g:Gh) (v:Value):R g (FY v) v:=by
 unfold FY
 split <;> constructor
theorem wI (g:Gh):∀ l:List Value,RL g (Cd l) l
 | []=>trivial
 | c::r=>⟨AL g c,wI g r⟩
theorem nT (g:Gh) (v:Value):R g (yf v) v:=by
 unfold yf
 split
 ·exact R.iV (wI g _)
 ·exact R.il (wI g _)
 ·exact R.ot _ _ _ (AL g _)
 ·exact AL g _
theorem ER.ev {g:Gh} {env:Env} {a:Act} (h:ER g env a.tmps) (x:Operand):R g (ev env x) (a.eval x):=by
 cases x with
 | tmp t=>exact h t
 | const v=>exact nT g v
 | global n=>exact R.undef _
 | func f=>exact R.DZ (az:=[]) (bs:=[]) (vs:=[]) (ws:=[]) trivial trivial
theorem ER.qF {g:Gh} {env:Env} {a:Act} (h:ER g env a.tmps):∀ l:List Operand,RL g (qF env l) (l.map a.eval)
 | []=>trivial
 | x::r=>⟨h.ev x,ER.qF h r⟩
theorem RL.lX {g:Gh}:∀ {n:Nat} {cs:List AV} {us:List Value},RL g cs us→RL g (lX n cs) (us.drop n)
 | 0,_,_,h=>by simpa [Fw.lX]using h
 | n+1,[],[],_=>by simp[Fw.lX,RL]
 | n+1,_::_,_::_,h=>by simpa [Fw.lX]using RL.lX (n:=n) h.2
theorem RL.lB {g:Gh}:∀ {n:Nat} {cs r:List AV} {us:List Value},RL g cs us→lB n cs=some r→RL g r (us.take n)∧n≤us.length
 | 0,_,r,us,_,hr=>by simp[Fw.lB]at hr;subst hr;simp[RL]
 | n+1,[],_,_,_,hr=>by simp[Fw.lB]at hr
 | n+1,c::cs,r,u::us,h,hr=>by
  simp only[Fw.lB]at hr
  split at hr
  ·rename_i l hl
   simp only[ab6]at hr
   subst hr
   obtain⟨h1,h2⟩:=RL.lB h.2 hl
   exact⟨⟨h.1,h1⟩,by simp;omega⟩
  ·cases hr
def Cg (w:World) (a:Addr) (us:List Value):Prop:=a.spot=none∧∀ j u,us[j]?=some u→w.cell? ⟨a.block,a.off+j,none⟩=some u
theorem b7 {a:Addr} (h:a.spot=none) (n:Nat):a.add n=⟨a.block,a.off+n,none⟩:=by
 cases a with
 | mk b o s =>
  simp only at h
  subst h
  unfold Addr.add
  split <;> simp_all
section
variable {P:Program}
theorem yo {g:Gh} {t:Nat} {cs:List AV} {n:Nat} {K:AV→Prop} {w:World} {a:Addr} {us:List Value} (h:LS P t cs n K) (hr:RL g cs us) (ha:Cg w a (us.drop n)) :
  ∃ v u,(loadVar t a).run P w=.ok u w∧R g v u∧K v:=by
 have hd:=hr.lX (n:=n)
 unfold LS at h
 split at h
 ·rename_i fs ht
  split at h
  ·rename_i m hm
   split at h
   ·rename_i l hl
    rw[fA]at h
    obtain⟨h1,h2⟩:=hd.lB hl
    refine⟨_,_,?_,R.iV h1,h⟩
    have hlen:((us.drop n).take m).length=m:=by rw[aby];omega
    have:=run_loadCells_list (P:=P) w a ((us.drop n).take m) (fun j v hv=>by
     rw[b7 ha.1]
     refine ha.2 j v ?_
     rw[abK]at hv
     split at hv <;> simp_all)
    rw[hlen]at this
    simp[loadVar,isAgg,ag ht,aW hm,this]
   ·exact h.elim
  ·exact h.elim
 ·rename_i k e ht
  split at h
  ·rename_i m hm
   split at h
   ·rename_i l hl
    rw[fA]at h
    obtain⟨h1,h2⟩:=hd.lB hl
    refine⟨_,_,?_,R.iV h1,h⟩
    have hlen:((us.drop n).take m).length=m:=by rw[aby];omega
    have:=run_loadCells_list (P:=P) w a ((us.drop n).take m) (fun j v hv=>by
     rw[b7 ha.1]
     refine ha.2 j v ?_
     rw[abK]at hv
     split at hv <;> simp_all)
    rw[hlen]at this
    simp[loadVar,isAgg,ag ht,aW hm,this]
   ·exact h.elim
  ·exact h.elim
 ·rename_i d WU LV ht
  split at h
  ·rename_i v r hv
   rw[gu]at h
   rw[hv]at hd
   cases hu:us.drop n with
   | nil=>rw[hu]at hd;exact hd.elim
   | cons u r' =>
    rw[hu]at hd
    refine⟨v,u,?_,hd.1,h⟩
    have hc:=ha.2 0 u (by simp[hu])
    have D2:w.cell? a=some u:=by
     have e:(⟨a.block,a.off+0,none⟩:Addr)=a:=by cases a;simp at *;exact ha.1.symm
     rwa [e]at hc
    have pn:(isAgg t).run P w=.ok false w:=by
     simp only[isAgg,Sem.run_bind,ag ht,Result.andThen_ok]
     cases d <;> simp_all
    simp[loadVar,pn,D2]
  ·exact h.elim
 ·exact h.elim
theorem yp {g:Gh} {t:Nat} {cs:List AV} {n:Nat} {K:AV→Prop} {w:World} {us:Array Value} (h:LS P t cs n K) (hr:RL g cs us.toList) :
  ∃ v u,(part t us n).run P w=.ok u w∧R g v u∧K v:=by
 have hd:=hr.lX (n:=n)
 unfold LS at h
 split at h
 ·rename_i fs ht
  split at h
  ·rename_i m hm
   split at h
   ·rename_i l hl
    rw[fA]at h
    obtain⟨h1,h2⟩:=hd.lB hl
    refine⟨_,_,?_,R.iV h1,h⟩
    simp only[part,isAgg,Sem.run_bind,ag ht,aW hm,Result.andThen_ok,Sem.run_pure,if_true,Sem.run_ite,Sem.run_map]
    congr 2
    apply acS
    simp[adJ]
   ·exact h.elim
  ·exact h.elim
 ·rename_i k e ht
  split at h
  ·rename_i m hm
   split at h
   ·rename_i l hl
    rw[fA]at h
    obtain⟨h1,h2⟩:=hd.lB hl
    refine⟨_,_,?_,R.iV h1,h⟩
    simp only[part,isAgg,Sem.run_bind,ag ht,aW hm,Result.andThen_ok,Sem.run_pure,if_true,Sem.run_ite,Sem.run_map]
    congr 2
    apply acS
    simp[adJ]
   ·exact h.elim
  ·exact h.elim
 ·rename_i d WU LV ht
  split at h
  ·rename_i v r hv
   rw[gu]at h
   rw[hv]at hd
   cases hu:us.toList.drop n with
   | nil=>rw[hu]at hd;exact hd.elim
   | cons u r' =>
    rw[hu]at hd
    refine⟨v,u,?_,hd.1,h⟩
    have hn:us[n]?=some u:=by
     have:(us.toList.drop n)[0]?=some u:=by rw[hu];rfl
     simpa using this
    have pn:(isAgg t).run P w=.ok false w:=by
     simp only[isAgg,Sem.run_bind,ag ht,Result.andThen_ok]
     cases d <;> simp_all
    simp[part,pn,hn]
  ·exact h.elim
 ·exact h.elim
end
section
variable {P:Program}
theorem F4 {α:Type} (f:Unit→α):(fun _=>f ())=f:=by funext u;cases u;rfl
theorem iJ (t:Ty) (x:Unit→t.den):enc t (fun _=>x ()) []=enc t x []:=by rw[F4]
theorem qH {g:Gh} (cs:List AV) (u:Nat→Value) (h:∀ (j:Nat) (y:AV),cs[j]?=some y→R g y (u j)):RL g cs ((List.range cs.length).map u) :=
 RL.mk (by simp) fun i y v h1 h2=>by
  have hi:i<cs.length:=(abk.1 h1).1
  simp[hi]at h2
  subst h2
  exact h i y h1
theorem At.cell {g:Gh} {E:List Chunk} {w:World} (hS:fg g E w) {b o k:Nat} {u:Value} (h:At g (some ⟨b,o,none⟩) k u):w.cell? ⟨b,o+k,none⟩=some u:=by
 obtain⟨b',off,cells,T,fr,h1,h2,h3⟩:=h
 simp only[ab6,Addr.mk.injEq]at h1
 obtain⟨rfl,rfl,_⟩:=h1
 have:=hS.dA _ _ h2
 simp[World.cell?,this,h3]
theorem R.kK {g:Gh} {i:Nat} {f:Unit→Option (Nat×Nat)} {v:Value} (h:R g (.hp i f) v):v=.pointer ((f ()).map fun x=>⟨g.W i x.1,x.2,none⟩)∧i<g.n∧∀ x,f ()=some x→x.1<g.M i:=by
 cases h with|hp _ _ hi hf=>exact⟨rfl,hi,hf⟩
theorem R.ov {g:Gh} {i:Nat} {f:Unit→Nat} {v:Value} (h:R g (.hm i f) v):v=.map (some (g.W i (f ())))∧i<g.n∧f ()<g.M i:=by
 cases h with|hm _ _ hi hf=>exact⟨rfl,hi,hf⟩
theorem fg.ow {g:Gh} {E:List Chunk} {w:World} (hS:fg g E w) {i k n:Nat} {h:Unit→Hp} {T:TypeId} {c:Nat→HV} (hE:af E i=.heap h) (hk:k<g.M i) (ho:(h ()).o k=.cells T n c) :
  ∃ vs:Array Value,w.heap[g.W i k]?=some (.cells vs T (0,0))∧vs.size=n∧∀ (j:Nat) (u:Value),vs[j]?=some u→R g ((c j).av i) u:=by
 have hs:=hS.sat i
 rw[hE]at hs
 obtain⟨ob,h1,h2⟩:=hs.2.2 k hk
 rw[ho]at h2
 obtain⟨vs,rfl,h3,h4⟩:=h2
 exact⟨vs,h1,h3,h4⟩
theorem fg.AM {g:Gh} {E:List Chunk} {w:World} (hS:fg g E w) {i k clock:Nat} {h:Unit→Hp} {es:List (Nat×Int×HV)} (hE:af E i=.heap h) (hk:k<g.M i) (ho:(h ()).o k=.map es clock) :
  ∃ ms:Array MapEntry,w.heap[g.W i k]?=some (.map ms clock)∧gZ g i es ms.toList:=by
 have hs:=hS.sat i
 rw[hE]at hs
 obtain⟨ob,h1,h2⟩:=hs.2.2 k hk
 rw[ho]at h2
 obtain⟨ms,rfl,h3⟩:=h2
 exact⟨ms,h1,h3⟩
theorem gZ.length {g:Gh} {i:Nat}:∀ {es:List (Nat×Int×HV)} {ms:List MapEntry},gZ g i es ms→es.length=ms.length
 | [],[],_=>rfl
 | (_,_,_)::_,_::_,h=>by simp[gZ.length h.2.2.2]
theorem gZ.find {g:Gh} {i:Nat} {d:IntKind} {n:Int}:∀ {es:List (Nat×Int×HV)} {ms:List MapEntry} (j:Nat),gZ g i es ms →
  (∃ v k u,aO es n=some v∧Instr.findNow (.int d) (.int .i64 n) ms j=some (some (k,u))∧R g (v.av i) u)∨(aO es n=none∧Instr.findNow (.int d) (.int .i64 n) ms j=some none)
 | [],[],j,_=>.inr ⟨rfl,rfl⟩
 | (b,m,v)::es,e::ms,j,h=>by
  obtain⟨h1,h2,h3,h4⟩:=h
  by_cases hn:m=n
  ·exact .inl ⟨v,j,e.val,by simp[aO,hn],by simp[Instr.findNow,h2,Instr.sameNow,hn],h3⟩
  ·have hb:(n == m)=false:=by simpa using fun e=>hn e.symm
   have e1:Instr.findNow (.int d) (.int .i64 n) (e::ms) j=Instr.findNow (.int d) (.int .i64 n) ms (j+1):=by simp[Instr.findNow,h2,Instr.sameNow,hb]
   rw[e1]
   rcases gZ.find (d:=d) (n:=n) (j+1) h4 with⟨v',k,u,g1,g2,g3⟩|⟨g1,g2⟩
   ·exact .inl ⟨v',k,u,by simp[aO,hn,g1],g2,g3⟩
   ·exact .inr ⟨by simp[aO,hn,g1],g2⟩
theorem F5 {P:Program} {t:Nat} (h:ph P t=true) (w:World):(isAgg t).run P w=.ok false w:=by
 unfold ph at h
 split at h <;> first|(cases h;done)|skip
 rename_i d WU LV ht
 simp only[isAgg,Sem.run_bind,ag ht,Result.andThen_ok]
 cases d <;> simp_all
theorem cell_of_heap {w:World} {b:Nat} {vs:Array Value} {T:TypeId} {fr:Nat×Nat} (h:w.heap[b]?=some (.cells vs T fr)) (k:Nat):w.cell? ⟨b,k,none⟩=vs[k]?:=by
 simp[World.cell?,h]
theorem vz {g:Gh} {E:List Chunk} {w:World} {p:AV} {v:Value} {K:List AV→Nat→Prop} (hS:fg g E w) (hr:R g p v) (h:TB E p K) :
  ∃ cs n us a,v=.pointer (some a)∧RL g cs us∧Cg w a (us.drop n)∧K cs n:=by
 unfold TB at h
 split at h
 ·rename_i i off
  split at h
  ·rename_i T cs hE
   have hs:=hS.sat i
   rw[hE]at hs
   obtain⟨vs,hv,hl⟩:=hs
   cases hr
   exact⟨cs,off,vs.toList,_,rfl,hl,⟨rfl,fun j u hu=>by rw[cell_of_heap hv];simpa using hu⟩,h⟩
  ·exact h.elim
 ·rename_i i sz j off
  split at h
  ·rename_i T t xs hE
   split at h
   ·rename_i cv
    have AN:t.size=sz:=abl cv
    have hs:=hS.sat i
    rw[hE]at hs
    obtain⟨hL,hn,hc⟩:=hs
    cases hr with
    | bl _ _ _ _ _ hj =>
    have lM:j ()<(xs ()).length:=by omega
    cases hV:g.V i with
    | none=>rw[hn hV]at lM;simp at lM
    | some cap =>
     obtain⟨vs,hv,Ch,cX,hx⟩:=hc cap hV
     have hk:=hx (j ()) _ (abj lM)
     have e:(fun u=>(xs u).getD (j u) t.a8)=(fun _=>(xs ())[j ()]'lM):=by
      funext u;cases u;simp[List.getD,abj lM]
     rw[e]at h
     refine⟨_,_,_,_,rfl,hk,⟨rfl,fun k u hu=>?_⟩,h⟩
     rw[cell_of_heap hv]
     subst AN
     rw[abI,abK]at hu
     split at hu
     ·simpa [abI,ady]using hu
     ·cases hu
   ·exact h.elim
  ·rename_i T t xs hE
   split at h
   ·rename_i cv
    have AN:t.size=sz:=abl cv
    have hs:=hS.sat i
    rw[hE]at hs
    obtain⟨hL,hn,hc⟩:=hs
    cases hr with
    | bl _ _ _ _ _ hj =>
    have lM:j ()<(xs ()).length:=by omega
    cases hV:g.V i with
    | none=>rw[hn hV]at lM;simp at lM
    | some cap =>
     obtain⟨vs,hv,Ch,cX,hx⟩:=hc cap hV
     have hk:=hx (j ()) _ (abj lM)
     have e:(fun u=>(xs u).getD (j u) t.a8)=(fun _=>(xs ())[j ()]'lM):=by
      funext u;cases u;simp[List.getD,abj lM]
     rw[e]at h
     refine⟨_,_,_,_,rfl,hk,⟨rfl,fun k u hu=>?_⟩,h⟩
     rw[cell_of_heap hv]
     subst AN
     rw[abI,abK]at hu
     split at hu
     ·simpa [abI,ady]using hu
     ·cases hu
   ·exact h.elim
  ·exact h.elim
 ·rename_i t x off
  cases hr with
  | dI _ _ _ b o u ha hr =>
  refine⟨_,off,_,_,rfl,qH _ u hr,⟨rfl,fun j v hv=>?_⟩,h⟩
  have:off+j<(enc t x []).length:=by
   have:=(abk.1 hv).1
   simp at this
   omega
  have h1:=(ha (off+j) _ (abj this)).cell hS
  simp[abI,this]at hv
  subst hv
  show w.cell? ⟨b,o+off+j,none⟩=_
  rw[ady];exact h1
 ·rename_i cs off
  cases hr with
  | cL _ _ b o u ha hr =>
  refine⟨_,off,_,_,rfl,qH _ u hr,⟨rfl,fun j v hv=>?_⟩,h⟩
  have:off+j<cs.length:=by
   have:=(abk.1 hv).1
   simp at this
   omega
  have h1:=(ha (off+j) _ (abj this)).cell hS
  simp[abI,this]at hv
  subst hv
  show w.cell? ⟨b,o+off+j,none⟩=_
  rw[ady];exact h1
 ·exact h.elim
theorem fp {g:Gh} {w:World} {s:Sem Value} {K:AV→Prop} (h:∃ v u,s.run P w=.ok u w∧R g v u∧K v) :
  ∃ v u,(do pure (Next.value (←s)):Sem Next).run P w=.ok (.value u) w∧R g v u∧K v:=by
 obtain⟨v,u,h1,h2,h3⟩:=h
 exact⟨v,u,by simp[h1],h2,h3⟩
theorem R.bS {g:Gh} {k:IntKind} {n:Unit→Int} {v:Value} (h:R g (.int k n) v):v=.int k (n ()):=by cases h;rfl
theorem R.dq {g:Gh} {n:Unit→Bool} {v:Value} (h:R g (.bool n) v):v=.bool (n ()):=by cases h;rfl
theorem R.kM {g:Gh} {v:Value} (h:R g .tt v):v=.bool true:=by cases h;rfl
theorem R.lY {g:Gh} {v:Value} (h:R g .ff v):v=.bool false:=by cases h;rfl
theorem R.ir {g:Gh} {n:Unit→List UInt8} {v:Value} (h:R g (.str n) v):v=.string ⟨(n ()).toArray⟩:=by cases h;rfl
theorem R.po {g:Gh} {b:Unit→Bool} {c:Bool} (h:b ()=c):R g (.bool b) (.bool c):=by subst h;exact .bool b
theorem R.ve {g:Gh} {k:IntKind} {b:Unit→Int} {c:Int} (h:b ()=c):R g (.int k b) (.int k c):=by subst h;exact .int k b
theorem R.AO {g:Gh} {b:Unit→List UInt8} {c:ByteArray} (h:c=⟨(b ()).toArray⟩):R g (.str b) (.string c):=by subst h;exact .str b
theorem JK {g:Gh} {w:World} {op:BinOp} {k:IntKind} {a b:Unit→Int} {K:AV→Prop} (hs:op≠.shl) (sQ:op≠.shr) (h:JJ op k a b K) :
  ∃ v u,(match op with
   | .add|.sub|.mul=>Op.intArith op k (a ()) (b ())
   | .quo|.rem=>Op.intDiv op k (a ()) (b ())
   | .and|.or|.xor|.andNot=>Op.intBits op k (a ()) (b ())
   | _=>Op.intCmp op (a ()) (b ())).run P w=.ok u w∧R g v u∧K v:=by
 cases op <;> simp only[JJ]at h
 case add=>exact⟨_,_,rfl,.int k _,h⟩
 case sub=>exact⟨_,_,rfl,.int k _,h⟩
 case mul=>exact⟨_,_,rfl,.int k _,h⟩
 case quo=>exact⟨_,_,by simp[Op.intDiv,h.1.h],.int k _,h.2⟩
 case rem=>exact⟨_,_,by simp[Op.intDiv,h.1.h],.int k _,h.2⟩
 case and=>exact⟨_,_,rfl,.int k _,h⟩
 case or=>exact⟨_,_,rfl,.int k _,h⟩
 case xor=>exact⟨_,_,rfl,.int k _,h⟩
 case andNot=>exact⟨_,_,rfl,.int k _,h⟩
 case eql=>exact⟨_,_,rfl,.bool _,h⟩
 case neq=>exact⟨_,_,rfl,.bool _,h⟩
 case lss=>exact⟨_,_,rfl,.bool _,h⟩
 case leq=>exact⟨_,_,rfl,.bool _,h⟩
 case gtr=>exact⟨_,_,rfl,.bool _,h⟩
 case geq=>exact⟨_,_,rfl,.bool _,h⟩
theorem toList_mk (l:List UInt8):(ByteArray.mk l.toArray).toList=l:=by
 rw[ByteArray.toList_eq]
theorem JL {g:Gh} {w:World} {op:BinOp} {a b:Unit→List UInt8} {K:AV→Prop} (h:M0 op a b K) :
  ∃ v u,(Op.stringOp op ⟨(a ()).toArray⟩ ⟨(b ()).toArray⟩).run P w=.ok u w∧R g v u∧K v:=by
 cases op <;> simp only[M0]at h <;> try exact h.elim
 case add =>
  refine⟨_,_,?_,.str _,h.2⟩
  have:=h.1.h
  have h1:(ByteArray.mk (a ()).toArray).size=(a ()).length:=by simp[ByteArray.size]
  have h2:(ByteArray.mk (b ()).toArray).size=(b ()).length:=by simp[ByteArray.size]
  simp only[Op.stringOp,h1,h2]
  rw[if_neg (by simp[IntKind.max,IntKind.signed,IntKind.bits];omega)]
  simp only[Sem.run_pure]
  congr 2
 all_goals
  simp only[Op.stringOp,toList_mk,Sem.run_pure]
  exact⟨_,_,rfl,.bool _,h⟩
theorem R.nb {g:Gh} {r:AV} {b:Bool} (h:R g r (.bool b)):R g (nb r) (.bool !b):=by
 cases h with
 | tt=>exact .ff
 | ff=>exact .tt
 | bool c=>exact .bool (fun u=>!c u)
 | undef=>exact .undef _
section
variable {t:Nat} (n:Nat) (w:World)
theorem fD (h:aT P t=some .bool) (a b:Bool):(Op.equalIn (n+1) t (.bool a) (.bool b)).run P w=.ok (a == b) w:=by simp[Op.equalIn,ag h]
theorem cw {e:Nat} (h:aT P t=some (.pointer e)) (b:Option Addr):(Op.equalIn (n+1) t (.pointer none) (.pointer b)).run P w=.ok b.isNone w:=by simp[Op.equalIn,ag h]
theorem eJ {e:Nat} (h:aT P t=some (.pointer e)) (b:Addr):(Op.equalIn (n+1) t (.pointer (some b)) (.pointer none)).run P w=.ok false w:=by simp[Op.equalIn,ag h]
theorem nU {e:Nat} {i:TypeInfo} (h:aT P t=some (.pointer e)) (hi:gK P e=some i) (a:Addr):(Op.equalIn (n+1) t (.pointer (some a)) (.pointer (some a))).run P w=.ok true w:=by
 simp[Op.equalIn,ag h,sizeOf,typeInfo,bA hi,run_sameAddr_same]
theorem sR {e:Nat} {i:TypeInfo} {a b:Addr} {ca cb:Array Value} {ta tb:TypeId} (h:aT P t=some (.pointer e)) (hi:gK P e=some i) (cv:i.size≠0) (bE:a≠b)
  (ha:w.heap[a.block]?=some (.cells ca ta (0,0))) (hb:w.heap[b.block]?=some (.cells cb tb (0,0))):(Op.equalIn (n+1) t (.pointer (some a)) (.pointer (some b))).run P w=.ok false w:=by
 simp[Op.equalIn,ag h,sizeOf,typeInfo,bA hi,cv,run_sameAddr_other w bE ha hb]
theorem lZ {e:Nat} (h:aT P t=some (.slice e)) (A:Option Addr) (l c:Nat):(Op.equalIn (n+1) t (.slice A l c) (.slice none 0 0)).run P w=.ok A.isNone w:=by
 cases A <;> simp[Op.equalIn,ag h]
theorem yq {a b c} (h:aT P t=some (.func a b c)) (f x y):(Op.equalIn (n+1) t (.func f x y) .nilFunc).run P w=.ok false w:=by simp[Op.equalIn,ag h]
theorem wJ {a b c} (h:aT P t=some (.func a b c)):(Op.equalIn (n+1) t .nilFunc .nilFunc).run P w=.ok true w:=by simp[Op.equalIn,ag h]
end
theorem qI (g:Gh) (t:Ty):R g (.aG t fun _=>[]) (.slice none 0 0) :=
 .aG t (fun _=>[]) none 0 (fun _ _=>.nilIface) (abr _) (by show 0≤_;omega) (fun i x j y h _=>by simp at h) (fun i x j y h _=>by simp at h)
theorem wK {g:Gh}:∀ (t:Ty) (cs:List AV) (us:List Value) (K:(Unit→t.den)→List AV→Prop),dec t cs K→RL g cs us →
  ∃ (y:Unit→t.den) (rest:List AV) (WV WW:List Value),us=WV++WW∧RL g (enc t y []) WV∧RL g rest WW∧K y rest
 | .int k,cs,us,K,h,hr=>by
  obtain _|⟨c,cs⟩:=cs
  ·simp[dec]at h
  obtain _|⟨u,us⟩:=us
  ·exact hr.elim
  cases c <;> simp only[dec]at h <;> try exact h.elim
  split at h
  ·rename_i hk _
   subst hk
   exact⟨_,_,[u],us,rfl,⟨hr.1,trivial⟩,hr.2,h⟩
  ·exact h.elim
 | .bool,cs,us,K,h,hr=>by
  obtain _|⟨c,cs⟩:=cs
  ·simp[dec]at h
  obtain _|⟨u,us⟩:=us
  ·exact hr.elim
  cases c <;> simp only[dec]at h <;> try exact h.elim
  ·exact⟨_,_,[u],us,rfl,⟨hr.1,trivial⟩,hr.2,h⟩
  ·have:=hr.1.kM
   subst this
   exact⟨fun _=>true,_,[_],us,rfl,⟨.bool (fun _=>true),trivial⟩,hr.2,h⟩
  ·have:=hr.1.lY
   subst this
   exact⟨fun _=>false,_,[_],us,rfl,⟨.bool (fun _=>false),trivial⟩,hr.2,h⟩
 | .str,cs,us,K,h,hr=>by
  obtain _|⟨c,cs⟩:=cs
  ·simp[dec]at h
  obtain _|⟨u,us⟩:=us
  ·exact hr.elim
  cases c <;> simp only[dec]at h <;> try exact h.elim
  exact⟨_,_,[u],us,rfl,⟨hr.1,trivial⟩,hr.2,h⟩
 | .list e,cs,us,K,h,hr=>by
  obtain _|⟨c,cs⟩:=cs
  ·simp[dec]at h
  obtain _|⟨u,us⟩:=us
  ·exact hr.elim
  cases c <;> simp only[dec]at h <;> try exact h.elim
  ·split at h
   ·rename_i hk _
    subst hk
    exact⟨_,_,[u],us,rfl,⟨hr.1,trivial⟩,hr.2,h⟩
   ·exact h.elim
  ·have hu:u=.slice none 0 0:=by have:=hr.1;cases this;rfl
   subst hu
   exact⟨fun _=>[],_,[_],us,rfl,⟨qI g e,trivial⟩,hr.2,h⟩
 | .pair a b,cs,us,K,h,hr=>by
  simp only[dec]at h
  obtain⟨x,r1,u1,u2,rfl,h1,h2,h3⟩:=wK a cs us _ h hr
  obtain⟨y,r2,u3,u4,rfl,h4,h5,h6⟩:=wK b r1 u2 _ h3 h2
  refine⟨fun u=>(x u,y u),r2,u1++u3,u4,by simp,?_,h5,h6⟩
  simp only[enc]
  rw[cR]
  exact h1.append h4
theorem kN {g:Gh} {t:Ty} {cs:List AV} {us:List Value} {K:(Unit→t.den)→Prop} (h:wH t cs K) (hr:RL g cs us):∃ y,RL g (enc t y []) us∧K y:=by
 unfold wH at h
 obtain⟨y,rest,u1,u2,rfl,h1,h2,h3⟩:=wK t cs us _ h hr
 cases rest with
 | nil =>
  cases u2 with
  | nil=>exact⟨y,by simpa using h1,h3⟩
  | cons _ _=>exact h2.elim
 | cons _ _=>exact h3.elim
section
variable {w:World}
theorem D3 {t:Nat} {d:TypeDesc} (ht:aT P t=some d) (hs:∀ fs,d≠.struct fs) (ha:∀ n e,d≠.array n e) {us:Array Value} {n:Nat} {u:Value} (hu:us[n]?=some u):(part t us n).run P w=.ok u w:=by
 have LV:(isAgg t).run P w=.ok false w:=by
  simp only[isAgg,Sem.run_bind,ag ht,Result.andThen_ok]
  cases d <;> simp_all
 simp[part,LV,hu]
theorem yr {t:Nat} {fs:Array Field} (ht:aT P t=some (.struct fs)) {m:Nat} (hm:bT P t=some m) (us:Array Value) (n:Nat):(part t us n).run P w=.ok (.agg (us.extract n (n+m))) w:=by
 simp only[part,isAgg,Sem.run_bind,ag ht,aW hm,Result.andThen_ok,Sem.run_pure,if_true,Sem.run_ite,Sem.run_map]
def JM (P:Program) (t:Nat) (us:List Value):Value:=match aT P t with|some (.struct _)=>.agg us.toArray|_=>us.headD .nilIface
theorem Ci {g:Gh}:∀ (d:Nat) (t:Nat) (ty:Ty),gL P d t=some ty→yn P d t=true→∀ (n:Nat) (us vs:List Value) (x y:Unit→ty.den),RL g (enc ty x []) us→RL g (enc ty y []) vs→d≤n →
  (Op.equalIn n t (JM P t us) (JM P t vs)).run P w=.ok (Cc ty (x ()) (y ())) w
 | 0,_,_,h,_=>by simp[gL]at h
 | d+1,t,ty,h,ho=>by
  intro n us vs x y hu hv hn
  obtain⟨m,rfl⟩:∃ m,n=m+1:=⟨n - 1,by omega⟩
  simp only[gL]at h
  simp only[yn]at ho
  split at h
  ·rename_i k ht
   cases h
   obtain _|⟨u,us⟩:=us <;> obtain _|⟨v,vs⟩:=vs <;> try exact hu.elim
   ·exact hv.elim
   rw[hu.1.bS,hv.1.bS]
   simp only[JM,ht,List.headD_cons]
   rw[run_equalIn_int w m t k k _ _ (aw ht)];rfl
  ·rename_i ht
   cases h
   obtain _|⟨u,us⟩:=us <;> obtain _|⟨v,vs⟩:=vs <;> try exact hu.elim
   ·exact hv.elim
   rw[hu.1.dq,hv.1.dq]
   simp only[JM,ht,List.headD_cons]
   rw[fD m w ht];rfl
  ·rename_i ht
   cases h
   obtain _|⟨u,us⟩:=us <;> obtain _|⟨v,vs⟩:=vs <;> try exact hu.elim
   ·exact hv.elim
   rw[hu.1.ir,hv.1.ir]
   simp only[JM,ht,List.headD_cons]
   rw[run_equalIn_string w m t _ _ (aw ht),ByteArray.toList_eq,ByteArray.toList_eq];rfl
  ·rename_i e ht
   rw[ht]at ho;cases ho
  ·rename_i fs ht
   rw[ht]at ho
   simp only[abD,acv]at ho
   have WX:P.fieldsOf t=fs:=by unfold Program.fieldsOf;rw[aw ht]
   simp only[JM,ht]
   rw[run_equalIn_struct w m t _ _ (by rw[WX];exact aw ht) ho.1,WX]
   have go:∀ (l:List Field) (k:Nat) (ty:Ty) (x y:Unit→ty.den),vd (gL P d) l=some ty→FZ P (gL P d) (yn P d) l k=true→RL g (enc ty x []) (us.drop k)→RL g (enc ty y []) (vs.drop k) →
     (Op.eqFields m us.toArray vs.toArray l).run P w=.ok (Cc ty (x ()) (y ())) w:=by
    intro l
    induction l with
    | nil=>intro k ty x y h;simp[vd]at h
    | cons f r ih =>
     intro k ty x y h he hu hv
     simp only[FZ]at he
     obtain⟨fn,yg,hk,cv,AA,h1,h2,h3,h4⟩:∃ fn yg,Nat.beq f.offset k=true∧bT P f.type=some fn∧gL P d f.type=some yg∧Nat.beq fn yg.size=true∧f.name ≠ "_" ∧ yn P d f.type=true∧FZ P (gL P d) (yn P d) r (k+fn)=true:=by
      cases hk:Nat.beq f.offset k with
      | false=>rw[hk]at he;cases he
      | true =>
       cases cv:bT P f.type with
       | none=>rw[hk,cv]at he;cases he
       | some fn =>
        cases AA:gL P d f.type with
        | none=>rw[hk,cv,AA]at he;cases he
        | some yg =>
         rw[hk,cv,AA]at he
         simp only[abD,acv,beq_eq_false_iff_ne]at he
         exact⟨fn,yg,rfl,rfl,rfl,he.1.1.1,he.1.1.2,he.1.2,he.2⟩
     have hk:=abl hk
     have h1:=abl h1
     subst hk
     have field:∀ (us:List Value) (z:Unit→yg.den),RL g (enc yg z []) ((us.drop f.offset).take fn)→(part f.type us.toArray f.offset).run P w=.ok (JM P f.type ((us.drop f.offset).take fn)) w:=by
      intro us z hz
      unfold JM
      cases hd:aT P f.type with
      | none=>cases d <;> simp[gL,hd]at AA
      | some dd =>
       by_cases dm:∃ TD,dd=.struct TD
       ·obtain⟨TD,rfl⟩:=dm
        simp only[]
        rw[yr hd cv]
        congr 2
        apply acS
        simp[adJ]
       ·have LV:∀ n e,dd≠.array n e:=by
         rintro n e rfl
         cases d <;> simp[yn,hd]at h3
        have hlen:=hz.length
        rw[bz]at hlen
        have sS:=Ty.size_pos yg
        obtain⟨u,Jn⟩:∃ u,((us.drop f.offset).take fn)[0]?=some u:=⟨_,abj (by omega)⟩
        rw[D3 hd (fun TD e=>dm ⟨TD,e⟩) LV (u:=u) (by
         rw[abK]at Jn
         split at Jn
         ·simpa using Jn
         ·cases Jn)]
        have:((us.drop f.offset).take fn).headD .nilIface=u:=by
         cases hl:(us.drop f.offset).take fn with
         | nil=>rw[hl]at Jn;cases Jn
         | cons a b=>rw[hl]at Jn;simpa using Jn
        cases dd <;> first|(exfalso;exact dm ⟨_,rfl⟩)|(simp only[this])
     have step:∀ (zx zy:Unit→yg.den),RL g (enc yg zx []) ((us.drop f.offset).take fn)→RL g (enc yg zy []) ((vs.drop f.offset).take fn) →
       (Op.eqFields m us.toArray vs.toArray (f::r)).run P w=if Cc yg (zx ()) (zy ())=true then(Op.eqFields m us.toArray vs.toArray r).run P w else .ok false w:=by
      intro zx zy WY WZ
      simp only[Op.eqFields]
      rw[if_pos h2]
      simp only[Sem.run_bind,field us zx WY,field vs zy WZ,Result.andThen_ok,Ci d f.type yg AA h3 m _ _ zx zy WY WZ (by omega)]
      cases Cc yg (zx ()) (zy ()) <;> simp
     cases r with
     | nil =>
      simp only[vd]at h
      rw[AA]at h
      cases h
      have Jo:=hu.length
      have AP:=hv.length
      rw[bz]at Jo AP
      rw[step x y (by rw[abo (by omega)];exact hu) (by rw[abo (by omega)];exact hv)]
      simp only[Op.eqFields,Sem.run_pure]
      generalize Cc _ (x ()) (y ())=b
      cases b <;> simp
     | cons f2 r2 =>
      simp only[vd]at h
      rw[AA]at h
      split at h <;> try cases h
      rename_i ta tb Uo u5
      cases Uo
      simp only[enc]at hu hv
      rw[cR yg]at hu hv
      have sp:∀ {us:List Value} {a b:List AV},RL g (a++b) us→a.length=fn→RL g a (us.take fn)∧RL g b (us.drop fn):=by
       intro us a b r8 hl
       refine⟨RL.mk ?_ (fun i z u h1 h2=>?_),RL.mk ?_ (fun i z u h1 h2=>?_)⟩
       ·have:=r8.length;simp at this ⊢;omega
       ·rw[abK]at h2
        split at h2
        ·exact r8.at_ i z u (by rw[ads (by omega)];exact h1) h2
        ·cases h2
       ·have:=r8.length;simp at this ⊢;omega
       ·exact r8.at_ (fn+i) z u (by rw[adp (by omega),hl,Nat.add_sub_cancel_left];exact h1) (by simpa using h2)
      have hl:∀ z:Unit→yg.den,(enc yg z []).length=fn:=fun z=>by rw[bz,h1]
      obtain⟨Up,D4⟩:=sp hu (hl _)
      obtain⟨Qk,F6⟩:=sp hv (hl _)
      rw[adR]at D4 F6
      rw[step _ _ Up Qk,ih (f.offset+fn) tb _ _ u5 h4 D4 F6]
      simp only[Cc]
      cases Cc yg (x ()).1 (y ()).1 <;> simp
   have:=go fs.toList 0 ty x y h ho.2 (by simpa using hu) (by simpa using hv)
   exact this
  ·rename_i n' e ht
   rw[ht]at ho;cases ho
  ·cases h
end
theorem F7 {g:Gh} {E:List Chunk} {w:World} {t:Nat} {x y:Operand} {a b:AV} {va vb:Value} {K:AV→Prop} (hS:fg g E w) (ha:R g a va) (hb:R g b vb) (h:TC P t x y E a b K) :
  ∃ r c,K r∧R g r (.bool c)∧(eqGuard .eql t x y va vb).run P w=.ok () w∧(eqGuard .neq t x y va vb).run P w=.ok () w ∧
   (binOp .eql t va vb).run P w=.ok (.bool c) w∧(binOp .neq t va vb).run P w=.ok (.bool !c) w:=by
 unfold TC at h
 have H:∀ (c:Bool) (r:AV),K r→R g r (.bool c)→(∀ k n k' m,va=.int k n→vb=.int k' m→False)→(∀ s s',va=.string s→vb=.string s'→False)→(va=.nilIface→vb=.nilIface→False)→(∀ p q,va=.agg p→vb=.agg q→False) →
   (∀ f k p q,va=.float f k→vb=.float p q→False)→(∀ f k l p q m,va=.complex f k l→vb=.complex p q m→False) →
   (Op.equalIn 10000 t va vb).run P w=.ok c w→∃ r c,K r∧R g r (.bool c)∧(eqGuard .eql t x y va vb).run P w=.ok () w∧(eqGuard .neq t x y va vb).run P w=.ok () w ∧
   (binOp .eql t va vb).run P w=.ok (.bool c) w∧(binOp .neq t va vb).run P w=.ok (.bool !c) w:=by
  intro c r hK hR h1 h2 h3 h4 h5 h6 he
  refine⟨r,c,hK,hR,?_,?_,?_,?_⟩
  ·unfold eqGuard;cases va <;> cases vb <;> first|rfl|exact(h3 rfl rfl).elim|exact(h4 _ _ rfl rfl).elim
  ·unfold eqGuard;cases va <;> cases vb <;> first|rfl|exact(h3 rfl rfl).elim|exact(h4 _ _ rfl rfl).elim
  ·have hb:binOp .eql t va vb=(do pure (.bool (←Op.equal t va vb))):=by
    unfold binOp;cases va <;> cases vb <;> first|rfl|exact(h1 _ _ _ _ rfl rfl).elim|exact(h2 _ _ rfl rfl).elim|exact(h5 _ _ _ _ rfl rfl).elim|exact(h6 _ _ _ _ _ _ rfl rfl).elim
   rw[hb];simp[Op.equal,Op.maxDepth,he]
  ·have hb:binOp .neq t va vb=(do pure (.bool (!(←Op.equal t va vb)))):=by
    unfold binOp;cases va <;> cases vb <;> first|rfl|exact(h1 _ _ _ _ rfl rfl).elim|exact(h2 _ _ rfl rfl).elim|exact(h5 _ _ _ _ rfl rfl).elim|exact(h6 _ _ _ _ _ _ rfl rfl).elim
   rw[hb];simp[Op.equal,Op.maxDepth,he]
 split at h
 ·
  split at h
  ·rename_i hk _
   subst hk
   cases ha;cases hb
   refine⟨_,_,h,.bool _,rfl,rfl,?_,?_⟩ <;> simp[binOp,Op.intCmp,bne]
  ·exact h.elim
 ·cases ha;cases hb
  refine⟨_,_,h,.bool _,rfl,rfl,?_,?_⟩ <;> simp[binOp,Op.stringOp,toList_mk]
 all_goals
  first
  | exact h.elim
  | (split at h <;> try exact h.elim)
 all_goals rename_i ht
 ·cases ha;cases hb;exact H _ _ h (.bool _) (by simp) (by simp) (by simp) (by simp) (by simp) (by simp) (fD 9999 w ht _ _)
 ·cases ha;cases hb;exact H _ _ h (R.po (by simp)) (by simp) (by simp) (by simp) (by simp) (by simp) (by simp) (fD 9999 w ht _ _)
 ·cases ha;cases hb;exact H _ _ h (R.po (by simp)) (by simp) (by simp) (by simp) (by simp) (by simp) (by simp) (fD 9999 w ht _ _)
 ·cases ha;cases hb;exact H _ _ h .tt (by simp) (by simp) (by simp) (by simp) (by simp) (by simp) (fD 9999 w ht _ _)
 ·cases ha;cases hb;exact H _ _ h .tt (by simp) (by simp) (by simp) (by simp) (by simp) (by simp) (fD 9999 w ht _ _)
 ·cases ha;cases hb;exact H _ _ h .ff (by simp) (by simp) (by simp) (by simp) (by simp) (by simp) (fD 9999 w ht _ _)
 ·cases ha;cases hb;exact H _ _ h .ff (by simp) (by simp) (by simp) (by simp) (by simp) (by simp) (fD 9999 w ht _ _)
 ·cases ha;cases hb;exact H _ _ h .tt (by simp) (by simp) (by simp) (by simp) (by simp) (by simp) (cw 9999 w ht _)
 ·cases ha;cases hb;exact H _ _ h .ff (by simp) (by simp) (by simp) (by simp) (by simp) (by simp) (eJ 9999 w ht _)
 ·cases ha;cases hb;exact H _ _ h .ff (by simp) (by simp) (by simp) (by simp) (by simp) (by simp) (eJ 9999 w ht _)
 ·cases ha;cases hb;exact H _ _ h .ff (by simp) (by simp) (by simp) (by simp) (by simp) (by simp) (eJ 9999 w ht _)
 ·cases ha;cases hb;exact H _ _ h .ff (by simp) (by simp) (by simp) (by simp) (by simp) (by simp) (eJ 9999 w ht _)
 ·cases ha;cases hb;exact H _ _ h .ff (by simp) (by simp) (by simp) (by simp) (by simp) (by simp) (cw 9999 w ht _)
 ·cases ha;cases hb;exact H _ _ h .ff (by simp) (by simp) (by simp) (by simp) (by simp) (by simp) (cw 9999 w ht _)
 ·cases ha;cases hb;exact H _ _ h .ff (by simp) (by simp) (by simp) (by simp) (by simp) (by simp) (cw 9999 w ht _)
 ·cases ha;cases hb;exact H _ _ h .ff (by simp) (by simp) (by simp) (by simp) (by simp) (by simp) (cw 9999 w ht _)
 ·rename_i i f _ _
  obtain⟨rfl,_,_⟩:=ha.kK
  cases hb
  refine H _ _ h (.bool _) (by simp) (by simp) (by simp) (by simp) (by simp) (by simp) ?_
  cases hf:f ()with
  | none=>simpa using cw 9999 w ht none
  | some x=>simpa using eJ 9999 w ht ⟨g.W i x.1,x.2,none⟩
 ·rename_i i f _ _
  obtain⟨rfl,_,_⟩:=hb.kK
  cases ha
  refine H _ _ h (.bool _) (by simp) (by simp) (by simp) (by simp) (by simp) (by simp) ?_
  cases hf:f ()with
  | none=>simpa using cw 9999 w ht none
  | some x=>simpa using cw 9999 w ht (some ⟨g.W i x.1,x.2,none⟩)
 ·rename_i i f j q _ te
  split at h <;> try exact h.elim
  rename_i sz hp cv cD hE
  have cD:=abl cD
  subst cD
  obtain⟨rfl,hi,h1⟩:=ha.kK
  obtain⟨rfl,_,h2⟩:=hb.kK
  obtain⟨h3,h4,h5⟩:=h.h
  refine H _ _ h5 (.bool _) (by simp) (by simp) (by simp) (by simp) (by simp) (by simp) ?_
  cases hf:f ()with
  | none =>
   cases hq:q ()with
   | none=>simpa using cw 9999 w ht none
   | some y=>simpa using cw 9999 w ht (some ⟨g.W i y.1,y.2,none⟩)
  | some x =>
   cases hq:q ()with
   | none=>simpa using eJ 9999 w ht ⟨g.W i x.1,x.2,none⟩
   | some y =>
    obtain⟨T,n,c,g1⟩:=h3 x hf
    obtain⟨T',n',c',g2⟩:=h4 y hq
    obtain⟨vs,g3,_⟩:=hS.ow hE (h1 x hf) g1
    obtain⟨Uq,g4,_⟩:=hS.ow hE (h2 y hq) g2
    have Nd:=(by have:=hS.sat i;rw[hE]at this;exact this.2.1:∀ k k',k<g.M i→k'<g.M i→g.W i k=g.W i k'→k=k')
    obtain⟨ti,wL,gU⟩:∃ ti,gK P te=some ti∧ti.size=sz+1:=by
     unfold bT at cv
     split at cv
     ·rename_i ti wL;exact⟨ti,wL,by simpa using cv⟩
     ·cases cv
    by_cases JN:x=y
    ·subst JN
     have:=nU 9999 w ht wL ⟨g.W i x.1,x.2,none⟩
     simpa using this
    ·have bE:(⟨g.W i x.1,x.2,none⟩:Addr)≠⟨g.W i y.1,y.2,none⟩:=fun e=>by
      simp only[Addr.mk.injEq,and_true]at e
      exact JN (Prod.ext (Nd _ _ (h1 x hf) (h2 y hq) e.1) e.2)
     have hb:(some x == some y)=false:=by simpa using JN
     rw[hb]
     exact sR 9999 w ht wL (by omega) bE g3 g4
 ·cases ha;cases hb;exact H _ _ h .tt (by simp) (by simp) (by simp) (by simp) (by simp) (by simp) (lZ 9999 w ht _ _ _)
 ·rename_i ty xs _ _
  cases ha with
  | aG _ _ A c u hc hm ha hr =>
   cases hb
   refine H _ _ (h A.isNone fun hn=>?_) (.bool _) (by simp) (by simp) (by simp) (by simp) (by simp) (by simp) (lZ 9999 w ht _ _ _)
   cases hx:xs ()with
   | nil=>rfl
   | cons x r =>
    have hp:=Ty.size_pos ty
    have he:0<(enc ty (fun _=>x) []).length:=by rw[bz];exact hp
    obtain⟨b,off,cells,T,fr,h1,_⟩:=ha 0 x 0 _ (by rw[hx];rfl) (abj he)
    rw[h1]at hn
    simp at hn
 ·rename_i i sz off n _ _
  cases ha with
  | vec _ _ _ _ A c _ hL hn hs =>
   cases hb
   refine H _ _ (h A.isNone fun rH=>?_) (.bool _) (by simp) (by simp) (by simp) (by simp) (by simp) (by simp) (lZ 9999 w ht _ _ _)
   cases hV:g.V i with
   | none=>exact(hn hV).2.1
   | some cap =>
    have:=(hs cap hV).2.2.2.2
    simp at rH
    exact(this rH).elim
 ·cases ha;cases hb;exact H _ _ h .tt (by simp) (by simp) (by simp) (by simp) (by simp) (by simp) (wJ 9999 w ht)
 ·cases ha;cases hb;exact H _ _ h .ff (by simp) (by simp) (by simp) (by simp) (by simp) (by simp) (yq 9999 w ht _ _ _)
 ·rename_i ty _
  obtain⟨rI,h⟩:=h
  obtain⟨us,rfl,hu⟩:=ha.gF
  obtain⟨vs,rfl,hv⟩:=hb.gF
  have hc:=rI.h
  rw[abD,acv]at hc
  obtain⟨x',hx,h⟩:=kN h hu
  obtain⟨y',hy,h⟩:=kN h hv
  have he:=Ci (w:=w) 6 t ty ‹_› hc.1 10000 _ _ x' y' hx hy (by omega)
  have nW:∃ fs,aT P t=some (.struct fs):=⟨_,‹_›⟩
  obtain⟨fs,nW⟩:=nW
  simp only[JM,nW]at he
  have e1:us.toList.toArray=us:=by simp
  have e2:vs.toList.toArray=vs:=by simp
  rw[e1,e2]at he
  refine⟨_,_,h,.bool _,run_eqGuard_agg w _ _ _ _ _ _ hc.2,run_eqGuard_agg w _ _ _ _ _ _ hc.2,?_,?_⟩
  ·rw[run_eql_struct,he];rfl
  ·rw[run_neq_struct,he];rfl
 ·rename_i i p j q _ te
  split at h <;> try exact h.elim
  rename_i ti wL hi hg
  have hi:=abl hi
  have hg:=abl hg
  subst hi hg
  cases ha;cases hb
  exact H _ _ h .tt (by simp) (by simp) (by simp) (by simp) (by simp) (by simp) (nU 9999 w ht wL _)
end
section
variable {P:Program}
theorem ox (op:BinOp) (t:Nat) (x y:Operand) (k k':IntKind) (a b:Int) (w:World):(eqGuard op t x y (.int k a) (.int k' b)).run P w=.ok () w:=by
 unfold eqGuard;cases op <;> rfl
theorem AQ (op:BinOp) (t:Nat) (x y:Operand) (a b:ByteArray) (w:World):(eqGuard op t x y (.string a) (.string b)).run P w=.ok () w:=by
 unfold eqGuard;cases op <;> rfl
theorem F8 {g:Gh} {w:World} {op:BinOp} {t:Nat} {x y:Operand} {k k':IntKind} {a b:Unit→Int} {K:AV→Prop} (h:LU op k k' a b K) :
  ∃ r c,(do eqGuard op t x y (.int k (a ())) (.int k' (b ()));binOp op t (.int k (a ())) (.int k' (b ())):Sem Value).run P w=.ok c w∧R g r c∧K r:=by
 have H:op≠.shl→op≠.shr→(match decEq k k' with|isTrue _=>JJ op k a b K|isFalse _=>False) →
   ∃ r c,(do eqGuard op t x y (.int k (a ())) (.int k' (b ()));binOp op t (.int k (a ())) (.int k' (b ())):Sem Value).run P w=.ok c w∧R g r c∧K r:=by
  clear h
  intro n1 n2 h
  split at h
  ·rename_i hk _
   subst hk
   obtain⟨r,u,h1,h2,h3⟩:=JK (P:=P) (g:=g) (w:=w) n1 n2 h
   refine⟨r,u,?_,h2,h3⟩
   simp only[Sem.run_bind,ox,Result.andThen_ok]
   rw[←h1]
   cases op <;> first|exact(n1 rfl).elim|exact(n2 rfl).elim|(simp[binOp])
  ·exact h.elim
 cases op
 case shl =>
  have h1:=h.1.h
  refine⟨_,_,?_,.int k _,h.2⟩
  simp only[Sem.run_bind,ox,Result.andThen_ok,binOp,Op.shift]
  rw[if_neg (by omega)];rfl
 case shr =>
  have h1:=h.1.h
  refine⟨_,_,?_,.int k _,h.2⟩
  simp only[Sem.run_bind,ox,Result.andThen_ok,binOp,Op.shift]
  rw[if_neg (by omega)];rfl
 all_goals exact H (by simp) (by simp) h
theorem JO {g:Gh} {E:List Chunk} {w:World} {op:BinOp} {t:Nat} {x y:Operand} {a b:AV} {va vb:Value} {K:AV→Prop} (hS:fg g E w) (ha:R g a va) (hb:R g b vb) (h:M8 P op t x y E a b K) :
  ∃ r c,(do eqGuard op t x y va vb;binOp op t va vb:Sem Value).run P w=.ok c w∧R g r c∧K r:=by
 unfold M8 at h
 split at h
 ·cases ha;cases hb
  exact F8 h
 ·cases ha;cases hb
  obtain⟨r,u,h1,h2,h3⟩:=JL (P:=P) (g:=g) (w:=w) h
  refine⟨r,u,?_,h2,h3⟩
  simp only[Sem.run_bind,AQ,Result.andThen_ok]
  rw[←h1]
  cases op <;> rfl
 ·split at h
  ·obtain⟨r,c,hK,hR,g1,_,b1,_⟩:=F7 (P:=P) (w:=w) hS ha hb h
   exact⟨r,_,by simp[g1,b1],hR,hK⟩
  ·obtain⟨r,c,hK,hR,_,g1,_,b1⟩:=F7 (P:=P) (w:=w) hS ha hb h
   exact⟨nb r,_,by simp[g1,b1],hR.nb,hK⟩
  ·exact h.elim
theorem F9 {g:Gh} {w:World} {b a:AV} {v u:Value} {K:AV→Prop} (hb:R g b v) (ha:R g a u) (h:F0 b a K):∃ r c,(Builtin.min2 u v).run P w=.ok c w∧R g r c∧K r:=by
 unfold F0 at h
 split at h
 ·cases hb;cases ha;exact⟨_,_,by simp[Builtin.min2],R.ve rfl,h⟩
 ·exact h.elim
theorem Ga {g:Gh} {w:World} {b a:AV} {v u:Value} {K:AV→Prop} (hb:R g b v) (ha:R g a u) (h:F1 b a K):∃ r c,(Builtin.max2 u v).run P w=.ok c w∧R g r c∧K r:=by
 unfold F1 at h
 split at h
 ·cases hb;cases ha;exact⟨_,_,by simp[Builtin.max2],R.ve rfl,h⟩
 ·exact h.elim
theorem Cj {g:Gh} {w:World}:∀ (l:List AV) (us:List Value) (a:AV) (u:Value) (K:AV→Prop),RL g l us→R g a u→M9 l a K→∃ r c,(us.foldlM Builtin.min2 u).run P w=.ok c w∧R g r c∧K r
 | [],[],a,u,K,_,ha,h=>⟨a,u,rfl,ha,h⟩
 | b::l,v::us,a,u,K,hl,ha,h=>by
  obtain⟨r,c,h1,h2,h3⟩:=F9 (P:=P) (w:=w) hl.1 ha h
  obtain⟨r',c',h4,h5,h6⟩:=Cj (w:=w) l us r c K hl.2 h2 h3
  exact⟨r',c',by simp[h1,h4],h5,h6⟩
theorem Cm {g:Gh} {w:World}:∀ (l:List AV) (us:List Value) (a:AV) (u:Value) (K:AV→Prop),RL g l us→R g a u→Na l a K→∃ r c,(us.foldlM Builtin.max2 u).run P w=.ok c w∧R g r c∧K r
 | [],[],a,u,K,_,ha,h=>⟨a,u,rfl,ha,h⟩
 | b::l,v::us,a,u,K,hl,ha,h=>by
  obtain⟨r,c,h1,h2,h3⟩:=Ga (P:=P) (w:=w) hl.1 ha h
  obtain⟨r',c',h4,h5,h6⟩:=Cm (w:=w) l us r c K hl.2 h2 h3
  exact⟨r',c',by simp[h1,h4],h5,h6⟩
theorem JP {g:Gh} {w:World} {t:Nat} {ts:List Nat} {ty:Nat} {cs:Array Bool} {a:AV} {u:Value} {K:AV→Prop} (hr:R g a u) (h:Nb P t a K) :
  ∃ r c,(builtin .len (t::ts).toArray ty cs #[u]).run P w=.ok (.value c) w∧R g r c∧K r:=by
 unfold Nb at h
 split at h <;> try exact h.elim
 all_goals
  split at h <;> try exact h.elim
  rename_i ht
  cases hr
  exact⟨_,_,by simp[builtin,Builtin.len_,ag ht];rfl,R.ve (by simp[goInt,ByteArray.size]),h⟩
theorem JQ {g:Gh} {w:World} {t:Nat} {ts:List Nat} {ty:Nat} {cs:Array Bool} {a:AV} {u:Value} {K:AV→Prop} (hr:R g a u) (h:Nc P t a K) :
  ∃ r c,(builtin .cap (t::ts).toArray ty cs #[u]).run P w=.ok (.value c) w∧R g r c∧K r:=by
 cases a <;> simp only[Nc]at h <;> try exact h.elim
 ·split at h <;> try exact h.elim
  rename_i ht
  cases hr
  exact⟨_,_,by simp[builtin,Builtin.cap_,ag ht];rfl,R.ve (by simp[goInt]),h⟩
 ·rename_i i sz off n
  split at h <;> try exact h.elim
  rename_i ht
  cases hr with|vec _ _ _ _ A c hi hL hn hs =>
  have hle:n ()≤c:=by
   cases hV:g.V i with
   | none=>have:=hn hV;omega
   | some cap=>have:=hs cap hV;omega
  exact⟨_,_,by simp[builtin,Builtin.cap_,ag ht];rfl,R.ve (by simp[goInt]),h c hle⟩
theorem yt {g:Gh} {E:List Chunk} {w:World} {b:Builtin} {t:Nat} {ts:List Nat} {ty:Nat} {cs:Array Bool} {az:List AV} {us:List Value} {K:AV→Prop} (hS:fg g E w) (hr:RL g az us) (h:sP P b t az E K) :
  ∃ r c,(builtin b (t::ts).toArray ty cs us.toArray).run P w=.ok (.value c) w∧R g r c∧K r:=by
 unfold sP at h
 split at h
 ·exact h.elim
 ·obtain _|⟨u,us⟩:=us <;> simp only[RL]at hr
  split at h
  ·split at h
   ·obtain _|⟨u',us⟩:=us
    ·split at h
     ·rename_i i f
      split at h <;> try exact h.elim
      rename_i ht hE
      obtain⟨es,cl,h1,h2⟩:=h.h
      obtain⟨rfl,hi,hf⟩:=hr.1.ov
      obtain⟨ms,h3,h4⟩:=hS.AM hE hf h1
      have hl:(ms.size:Int)=(es.length:Int):=by rw[h4.length];simp
      exact⟨_,_,by simp[builtin,Builtin.len_,ag ht,MapKept.run_getObj_map h3];rfl,R.ve (by simp[goInt,hl]),h2⟩
     ·exact JP hr.1 h
    ·exact hr.2.elim
   ·exact h.elim
  ·split at h
   ·obtain _|⟨u',us⟩:=us
    ·exact JQ hr.1 h
    ·exact hr.2.elim
   ·exact h.elim
  ·obtain⟨r,c,h1,h2,h3⟩:=Cj (P:=P) (w:=w) _ us _ u K hr.2 hr.1 h
   exact⟨r,c,by simp[builtin,Builtin.min_,h1],h2,h3⟩
  ·obtain⟨r,c,h1,h2,h3⟩:=Cm (P:=P) (w:=w) _ us _ u K hr.2 hr.1 h
   exact⟨r,c,by simp[builtin,Builtin.max_,h1],h2,h3⟩
  ·split at h <;> try exact h.elim
   rename_i i o n
   obtain _|⟨u',us⟩:=us
   ·have hr:=hr.1
    obtain⟨dZ,hk⟩:=h
    obtain⟨h0,h1⟩:=dZ.h
    cases hr with|vec _ _ _ _ A c hi hL hn hs =>
    cases hV:g.V i with
    | none=>exact(h1 (hn hV).2.1).elim
    | some cap =>
     obtain⟨h2,h3,h4,h5,h6⟩:=hs cap hV
     have hA:=h5 (.inr h0)
     rw[h0]at hA
     subst hA
     refine⟨_,.pointer (some ⟨g.B i,0,none⟩),?_,?_,hk⟩
     ·have:=Lib.run_unsafeSliceData_row (P:=P) w (t::ts).toArray ty ⟨g.B i,0*1,none⟩ (n ()) c (by omega)
      simp[builtin,this]
     ·have:=R.bl (g:=g) i 1 (fun _=>0) 0 hi (by show 0<g.L i;omega)
      simpa using this
   ·exact hr.2.elim
  ·exact h.elim
end
section
variable {P:Program}
theorem mX {g:Gh}:∀ (n:Nat) (cs vs r:List AV) (us ws:List Value),lJ n cs vs=some r→RL g cs us→RL g vs ws→RL g r (us.take n++ws++us.drop (n+ws.length))∧n+ws.length≤us.length
 | 0,cs,[],r,us,ws,h,h1,h2=>by
  cases ws with
  | cons _ _=>exact h2.elim
  | nil =>
   cases cs <;> simp[lJ]at h <;> subst h <;> simpa using h1
 | 0,[],_::_,r,us,ws,h,h1,h2=>by simp[lJ]at h
 | 0,c::cs,v::vs,r,us,ws,h,h1,h2=>by
  simp only[lJ]at h
  split at h
  ·rename_i r' hr
   simp only[ab6]at h
   subst h
   cases us with
   | nil=>exact h1.elim
   | cons u us =>
    cases ws with
    | nil=>exact h2.elim
    | cons x ws =>
     obtain⟨h3,h4⟩:=mX 0 cs vs r' us ws hr h1.2 h2.2
     simp only[adi,adu,abx]at h3 h4 ⊢
     exact⟨⟨h2.1,by simpa using h3⟩,by simpa using h4⟩
  ·cases h
 | n+1,[],vs,r,us,ws,h,h1,h2=>by simp[lJ]at h
 | n+1,c::cs,vs,r,us,ws,h,h1,h2=>by
  simp only[lJ]at h
  split at h
  ·rename_i r' hr
   simp only[ab6]at h
   subst h
   cases us with
   | nil=>exact h1.elim
   | cons u us =>
    obtain⟨h3,h4⟩:=mX n cs vs r' us ws hr h1.2 h2
    refine⟨?_,by simp;omega⟩
    rw[show n+1+ws.length=n+ws.length+1 by omega]
    exact⟨h1.1,h3⟩
  ·cases h
theorem yu (off:Nat):∀ (l:List Value) (k:Nat) (arr:Array Value),off+k+l.length≤arr.size →
  ((l.zipIdx k).foldl (fun cs (cj:Value×Nat)=>cs.setIfInBounds (off+cj.2) cj.1) arr).toList=arr.toList.take (off+k)++l++arr.toList.drop (off+k+l.length)
 | [],k,arr,h=>by simp
 | c::l,k,arr,h=>by
  simp only[List.zipIdx_cons,List.foldl_cons,abt]at h ⊢
  rw[yu off l (k+1) _ (by simp;omega)]
  simp only[Array.toList_setIfInBounds]
  apply ac5
  intro i
  have hs:arr.toList.length=arr.size:=by simp
  rcases acT i (off+k)with hi|hi|hi
  ·simp[abT,abK,acG,hs,show i<off+(k+1) by omega,show i<arr.size by omega,hi,show¬off+k=i by omega,show min (off+(k+1)) arr.size=off+(k+1) by omega,show min (off+k) arr.size=off+k by omega]
  ·subst hi
   simp[abT,abK,acG,hs,show min (off+(k+1)) arr.size=off+(k+1) by omega,show min (off+k) arr.size=off+k by omega]
  ·obtain⟨j,rfl⟩:∃ j,i=off+k+1+j:=⟨i - (off+k+1),by omega⟩
   simp[abT,abK,acG,hs,show min (off+(k+1)) arr.size=off+(k+1) by omega,show min (off+k) arr.size=off+k by omega,show¬(off+k+1+j<off+(k+1)) by omega,show¬(off+k+1+j<off+k) by omega,
    show off+k+1+j - (off+(k+1))=j by omega,show off+k+1+j - (off+k)=j+1 by omega]
   by_cases hj:j<l.length
   ·simp[hj]
   ·simp[hj,abI,acG] <;> (try (rw[if_neg (by omega)];congr 1;omega))
theorem R.cells {g:Gh} {v:AV} {u:Value} {cs:List AV} (h:R g v u) (hc:gY v=some cs):RL g cs u.cells.toList:=by
 cases h <;> simp only[gY,ab6]at hc <;> try (cases hc;done)
 case agg mY vs hl hr=>subst hc;exact(R.gF (.agg mY vs hl hr)).elim fun Uq ⟨e,h⟩=>by cases e;exact h
 case hp i f hi hf=>subst hc;exact⟨.hp i f hi hf,trivial⟩
 case hm i f hi hf=>subst hc;exact⟨.hm i f hi hf,trivial⟩
 all_goals (subst hc;exact⟨by constructor <;> assumption,trivial⟩)
theorem qJ {g:Gh} {env:Env} {a:Act} (hE:ER g env a.tmps):∀ (l:List (Nat×Operand)) (ps:List (Nat×List AV)),ou env l=some ps →
  ps.length=l.length∧∀ (i:Nat) (c:Nat×List AV),ps[i]?=some c→∃ (j:Nat) (x:Operand),l[i]?=some (j,x)∧c.1=j∧RL g c.2 (a.eval x).cells.toList
 | [],ps,h=>by simp[ou]at h;subst h;simp
 | (j,x)::l,ps,h=>by
  simp only[ou]at h
  split at h
  ·rename_i c l' hc hl
   simp only[ab6]at h
   subst h
   obtain⟨h1,h2⟩:=qJ hE l l' hl
   refine⟨by simp[h1],fun i c' hi=>?_⟩
   cases i with
   | zero=>simp at hi;subst hi;exact⟨j,x,rfl,rfl,(hE.ev x).cells hc⟩
   | succ i=>simpa using h2 i c' (by simpa using hi)
  ·cases h
theorem pq {g:Gh} (place:Nat→Option (Nat×Nat)):∀ (ps:List (Nat×List AV)) (vs:List (Nat×Value)) (cs r:List AV) (cells:Array Value),nS place cs ps=some r→RL g cs cells.toList →
  ps.length=vs.length→(∀ (i:Nat) (c:Nat×List AV),ps[i]?=some c→∃ u:Value,vs[i]?=some (c.1,u)∧RL g c.2 u.cells.toList)→∃ out,Instr.fill place cells vs=some out∧RL g r out.toList
 | [],[],cs,r,cells,h,hr,_,_=>by simp[nS]at h;subst h;exact⟨cells,rfl,hr⟩
 | [],_::_,_,_,_,_,_,hl,_=>by simp at hl
 | _::_,[],_,_,_,_,_,hl,_=>by simp at hl
 | (i,c)::ps,(j,v)::vs,cs,r,cells,h,hr,hl,hp=>by
  obtain⟨u,hu,hc⟩:=hp 0 (i,c) rfl
  simp at hu
  obtain⟨rfl,rfl⟩:=hu
  simp only[nS]at h
  split at h
  ·rename_i off size wM
   split at h
   ·rename_i cv
    have AN:c.length=size:=abl cv
    split at h
    ·rename_i mY qK
     obtain⟨h1,h2⟩:=mX off cs c mY cells.toList v.cells.toList qK hr hc
     have JR:v.cells.size=size:=by have:=hc.length;simp at this;omega
     have oy:off+v.cells.size≤cells.size:=by simpa using h2
     have yv:=yu off v.cells.toList 0 cells (by simpa using oy)
     simp only[ab8]at yv
     obtain⟨out,h3,h4⟩:=pq place ps vs mY r ((v.cells.toList.zipIdx 0).foldl (fun cs (cj:Value×Nat)=>cs.setIfInBounds (off+cj.2) cj.1) cells) h (by rw[yv];exact h1) (by simpa using hl)
      (fun k c' hk=>by simpa using hp (k+1) c' (by simpa using hk))
     refine⟨out,?_,h4⟩
     simp only[Instr.fill,wM]
     rw[if_neg (by simp[JR];omega)]
     rw[←h3]
     congr 1
     rw[←Array.foldl_toList,Array.toList_zipIdx]
    ·cases h
   ·cases h
  ·cases h
theorem sT (w:World):∀ (fs:List Field) (pl:List (Nat×Nat)),pj P fs=some pl→(fs.mapM fun f=>(do pure (f.offset,←sizeOf f.type):Sem (Nat×Nat))).run P w=.ok pl w
 | [],pl,h=>by simp[pj]at h;subst h;rfl
 | f::r,pl,h=>by
  simp only[pj]at h
  split at h
  ·rename_i s l hs hl
   simp only[ab6]at h
   subst h
   have ih:=sT w r l hl
   simp at ih
   simp[List.mapM_cons,aW hs,ih]
  ·cases h
end
section
variable {P:Program}
theorem D5 {g:Gh} {env:Env} {a:Act} {w:World} {t:Nat} {l:List (Nat×Operand)} {ps:List (Nat×List AV)} {K:AV→Prop} (hE:ER g env a.tmps) (hp:ou env l=some ps) (h:AK P t ps K) :
  ∃ r c,(Instr.build t (l.map fun ix=>(ix.1,a.eval ix.2)).toArray).run P w=.ok c w∧R g r c∧K r:=by
 obtain⟨hl,Ur⟩:=qJ hE l ps hp
 unfold AK at h
 split at h <;> try exact h.elim
 rename_i z hz
 split at h <;> try exact h.elim
 rename_i cs vA
 have hr:=(nT g z).cells vA
 have Jm:∀ (i:Nat) (c:Nat×List AV),ps[i]?=some c→∃ u:Value,(l.map fun ix=>(ix.1,a.eval ix.2))[i]?=some (c.1,u)∧RL g c.2 u.cells.toList:=by
  intro i c hi
  obtain⟨j,x,h1,h2,h3⟩:=Ur i c hi
  exact⟨a.eval x,by simp[h1,h2],h3⟩
 split at h <;> try exact h.elim
 ·rename_i fs ht
  split at h <;> try exact h.elim
  rename_i pl wM
  split at h <;> try exact h.elim
  rename_i mY hf
  rw[fA]at h
  obtain⟨out,h1,h2⟩:=pq (nth pl) ps _ cs mY z.cells hf hr (by simp[hl]) Jm
  refine⟨_,_,?_,R.iV h2,h⟩
  have hm:(fs.mapM fun f=>(do pure (f.offset,←sizeOf f.type):Sem (Nat×Nat))).run P w=.ok pl.toArray w:=by
   have:=sT (P:=P) w fs.toList pl wM
   rw[←Array.toArray_toList (xs:=fs),List.mapM_toArray]
   simp at this
   simp[this]
  simp at hm
  have e:(fun i=>pl.toArray[i]?)=nth pl:=by funext i;simp[gX]
  simp[Instr.build,ed hz,ag ht,hm,gX]
  have yh:Instr.fill (fun x=>pl[x]?) z.cells (l.map fun ix=>(ix.1,a.eval ix.2))=some out:=by
   rw[←h1];congr 1;funext i;simp[gX]
  simp[yh]
 ·rename_i n e ht
  split at h <;> try exact h.elim
  rename_i s hs
  split at h <;> try exact h.elim
  rename_i mY hf
  rw[fA]at h
  obtain⟨out,h1,h2⟩:=pq (fun i=>some (i*s,s)) ps _ cs mY z.cells hf hr (by simp[hl]) Jm
  refine⟨_,_,?_,R.iV h2,h⟩
  simp[Instr.build,ed hz,ag ht,aW hs,h1]
theorem R.ee {g:Gh} {p:AV} {v:Value} (h:R g p v) (n:Nat):(∀ i o,p=.ptr i o→∃ a,v=.pointer (some a)∧a.spot=none∧R g (.ptr i (o+n)) (.pointer (some (a.add n)))) ∧
  (∀ i s j o,p=.bl i s j o→∃ a,v=.pointer (some a)∧a.spot=none∧R g (.bl i s j (o+n)) (.pointer (some (a.add n)))) ∧
  (∀ t x o,p=.dI t x o→∃ a,v=.pointer (some a)∧a.spot=none∧R g (.dI t x (o+n)) (.pointer (some (a.add n)))) ∧
  (∀ cs o,p=.cL cs o→∃ a,v=.pointer (some a)∧a.spot=none∧R g (.cL cs (o+n)) (.pointer (some (a.add n)))):=by
 refine⟨?_,?_,?_,?_⟩
 ·rintro i o rfl
  cases h with|ptr _ _ hi =>
  refine⟨_,rfl,rfl,?_⟩
  rw[b7 rfl]
  exact .ptr i (o+n) hi
 ·rintro i s j o rfl
  cases h with|bl _ _ _ _ hi hL =>
  refine⟨_,rfl,rfl,?_⟩
  rw[b7 rfl]
  have:=R.bl i s j (o+n) hi hL
  simpa [ady]using this
 ·rintro t x o rfl
  cases h with|dI _ _ _ b ob u ha hr =>
  refine⟨_,rfl,rfl,?_⟩
  rw[b7 rfl]
  have:=R.dI t x (o+n) b ob u ha hr
  simpa [ady]using this
 ·rintro cs o rfl
  cases h with|cL _ _ b ob u ha hr =>
  refine⟨_,rfl,rfl,?_⟩
  rw[b7 rfl]
  have:=R.cL cs (o+n) b ob u ha hr
  simpa [ady]using this
theorem ep {f:Field} {n:Nat} (h:bT P f.type=some (n+1)) (a:Addr) (w:World):(fieldPlace a f).run P w=.ok (a.add f.offset) w:=by
 simp[fieldPlace,aW h]
theorem l4 {g:Gh} {env:Env} {a:Act} {x:Option Operand} {d:Unit→Int} {K:(Unit→Int)→Prop} (hE:ER g env a.tmps) (h:vy env x d K) :
  (x=none∧K d)∨∃ y k n,x=some y∧a.eval y=.int k (n ())∧K n:=by
 unfold vy at h
 split at h
 ·exact .inl ⟨rfl,h⟩
 ·rename_i y
  split at h
  ·rename_i k n he
   have:=hE.ev y
   rw[he]at this
   exact .inr ⟨y,k,n,rfl,this.bS,h⟩
  ·exact h.elim
theorem fh {k:IntKind} {n:Int} {y:Nat} {c:BoundsCode} (w:World) (h0:0≤n) (h1:n≤y):(Instr.sliceBound (.int k n) y c).run P w=.ok n.toNat w:=by
 simp[Instr.sliceBound,asIntOf,h0,h1]
theorem D6 {g:Gh} {ty:Ty} {xs:Unit→List ty.den} {A:Option Addr} {n c l h:Nat} (hr:R g (.aG ty xs) (.slice A n c)) (Yn:l≤h) (hn:h≤n) :
  R g (.aG ty fun u=>((xs u).take h).drop l) (.slice (if c=l then A else A.map (·.add (l*ty.size))) (h - l) (c - l)):=by
 cases hr with|aG _ _ A c u hc hm ha hr =>
 have hlen:(((xs ()).take h).drop l).length=h - l:=by simp;omega
 have:=R.aG (g:=g) ty (fun u=>((xs u).take h).drop l) (if c=l then A else A.map (·.add (l*ty.size))) (c - l) (fun i j=>u (l+i) j) (by show(((xs ()).take h).drop l).length≤_;omega) (by show(((xs ()).take h).drop l).length≤_;omega)
  (fun i x j y hi hj=>?_) (fun i x j y hi hj=>?_)
 ·show R g _ (.slice _ (h - l) _)
  rw[←hlen];exact this
 ·have eH:(((xs ()).take h).drop l)[i]?=some x:=hi
  have bm:i<h - l:=by rw[←hlen];exact(abk.1 eH).1
  have cH:(xs ())[l+i]?=some x:=by
   rw[abI,abK]at eH
   split at eH
   ·exact eH
   ·cases eH
  obtain⟨b,off,cells,T,fr,h1,h2,h3⟩:=ha (l+i) x j y cH hj
  subst h1
  rw[if_neg (by omega)]
  refine⟨b,off+l*ty.size,cells,T,fr,?_,h2,?_⟩
  ·simp[b7 (a:=⟨b,off,none⟩) rfl]
  ·rw[←h3];congr 1;rw[ace];omega
 ·have eH:(((xs ()).take h).drop l)[i]?=some x:=hi
  have cH:(xs ())[l+i]?=some x:=by
   rw[abI,abK]at eH
   split at eH
   ·exact eH
   ·cases eH
  exact hr (l+i) x j y cH hj
theorem D7 {g:Gh} {i s:Nat} {o n:Unit→Nat} {A:Option Addr} {m c l h:Nat} (hr:R g (.vec i s o n) (.slice A m c)) (Yn:l≤h) (hn:h≤m) :
  R g (.vec i s (fun u=>o u+l) (fun u=>h - l)) (.slice (if c=l then A else A.map (·.add (l*s))) (h - l) (c - l)):=by
 cases hr with|vec _ _ _ _ A c hi hL rH hs =>
 refine R.vec i s (fun u=>o u+l) (fun u=>h - l) _ _ hi (by show o ()+l+(h - l)≤_;omega) (fun hV=>?_) (fun cap hV=>?_)
 ·obtain⟨h1,h2,h3,h4⟩:=rH hV
  have:l=0:=by omega
  subst this
  refine⟨by simp[h1,h3],by show h - 0=0;omega,by omega,by show o ()+0=0;omega⟩
 ·obtain⟨h0,h1,h2,h3,h4⟩:=hs cap hV
  refine⟨h0,by show o ()+l+(h - l)≤cap;omega,by show o ()+l+(c - l)=cap;omega,?_,?_⟩
  ·intro bm
   have bm:o ()+l<cap∨o ()+l=0:=bm
   rcases adC l with h0|h0
   ·subst h0
    have hA:=h3 (by simpa using bm)
    subst hA
    split
    ·simp
    ·simp[b7]
   ·have hA:=h3 (Or.inl (by omega))
    subst hA
    rw[if_neg (by omega)]
    simp[b7,ace]
  ·split
   ·exact h4
   ·cases A with
    | none=>exact(h4 rfl).elim
    | some a=>simp
theorem qL {a:Act} {w:World} {t e sz:Nat} {A:Option Addr} {n c:Nat} {lo hi:Option Operand} {L H:Int} (ht:aT P t=some (.slice e)) (hs:bT P e=some sz)
  (u6:(lo=none∧L=0)∨∃ y k,lo=some y∧a.eval y=.int k L) (Us:(hi=none∧H=n)∨∃ y k,hi=some y∧a.eval y=.int k H)
  (h0:0≤L) (h1:L≤H) (h2:H≤n) (hc:n≤c) :
  (Instr.sliceAt t (.slice A n c) (lo.map a.eval) (hi.map a.eval) none).run P w=.ok (.slice (if c=L.toNat then A else A.map (·.add (L.toNat*sz))) (H.toNat - L.toNat) (c - L.toNat)) w:=by
 have hb:(Instr.sliceBounds true n c (lo.map a.eval) (hi.map a.eval) none).run P w=.ok (L.toNat,H.toNat,c) w:=by
  have hH:∀ code,(Instr.sliceBound (.int .i64 H) c code).run P w=.ok H.toNat w:=fun code=>fh w (by omega) (by omega)
  rcases u6 with⟨rfl,rfl⟩|⟨y,k,rfl,hy⟩ <;> rcases Us with⟨rfl,rfl⟩|⟨z,k',rfl,hz⟩
  ·simp[Instr.sliceBounds]
  ·simp[Instr.sliceBounds,hz,fh (k:=k') (c:=.sliceAcap) (P:=P) w (show 0≤H by omega) (show H≤(c:Nat) by omega)]
  ·simp[Instr.sliceBounds,hy,fh (k:=k) (c:=.sliceB) (P:=P) w h0 (show L≤(n:Nat) by omega)]
  ·simp[Instr.sliceBounds,hz,hy,fh (k:=k') (c:=.sliceAcap) (P:=P) w (show 0≤H by omega) (show H≤(c:Nat) by omega),fh (k:=k) (c:=.sliceB) (P:=P) w h0 (show L≤(H.toNat:Nat) by omega)]
 simp[Instr.sliceAt,Instr.slice,ag ht,hb,aW hs]
theorem sU {w:World} {t e sz:Nat} {A:Option Addr} {n c:Nat} {hv mv:Value} {k k':IntKind} (ht:aT P t=some (.slice e)) (hs:bT P e=some sz) (hh:hv=.int k n) (hm:mv=.int k' n) (hc:n≤c) :
  (Instr.sliceAt t (.slice A n c) none (some hv) (some mv)).run P w=.ok (.slice (if n=0 then A else A.map (·.add (0*sz))) n n) w:=by
 subst hh hm
 have hb:(Instr.sliceBounds true n c none (some (.int k n)) (some (.int k' n))).run P w=.ok (0,n,n) w:=by
  have h1:∀ (k:IntKind) (m:Nat) code,n≤m→(Instr.sliceBound (.int k n) m code).run P w=.ok n w:=fun k m code h=>by
   have:=fh (k:=k) (c:=code) (P:=P) w (n:=(n:Int)) (y:=m) (by omega) (by omega)
   simpa using this
  simp[Instr.sliceBounds,h1 _ _ _ hc,h1 _ _ _ (abr n)]
 simp[Instr.sliceAt,Instr.slice,ag ht,hb,aW hs]
theorem D8 {g:Gh} {ty:Ty} {xs:Unit→List ty.den} {A:Option Addr} {n c sz:Nat} (hr:R g (.aG ty xs) (.slice A n c)):R g (.aG ty xs) (.slice (if n=0 then A else A.map (·.add (0*sz))) n n):=by
 cases hr with|aG _ _ A c u hc hm ha hr =>
 have e:(if(xs ()).length=0 then A else A.map (·.add (0*sz)))=A:=by
  split
  ·rfl
  ·cases A with
   | none=>rfl
   | some a=>simp[Addr.add]
 rw[e]
 exact .aG ty xs A _ u (abr _) hm ha hr
theorem vf {a:Act} {w:World} {t:Nat} {s:ByteArray} {lo hi:Option Operand} {L H:Int} (ht:aT P t=some .string)
  (u6:(lo=none∧L=0)∨∃ y k,lo=some y∧a.eval y=.int k L) (Us:(hi=none∧H=s.size)∨∃ y k,hi=some y∧a.eval y=.int k H)
  (h0:0≤L) (h1:L≤H) (h2:H≤s.size) :
  (Instr.sliceAt t (.string s) (lo.map a.eval) (hi.map a.eval) none).run P w=.ok (.string (s.extract L.toNat H.toNat)) w:=by
 have hb:(Instr.sliceBounds false s.size s.size (lo.map a.eval) (hi.map a.eval) none).run P w=.ok (L.toNat,H.toNat,s.size) w:=by
  rcases u6 with⟨rfl,rfl⟩|⟨y,k,rfl,hy⟩ <;> rcases Us with⟨rfl,rfl⟩|⟨z,k',rfl,hz⟩
  ·simp[Instr.sliceBounds]
  ·simp[Instr.sliceBounds,hz,fh (k:=k') (c:=.sliceAlen) (P:=P) w (show 0≤H by omega) (show H≤(s.size:Nat) by omega)]
  ·simp[Instr.sliceBounds,hy,fh (k:=k) (c:=.sliceB) (P:=P) w h0 (show L≤(s.size:Nat) by omega)]
  ·simp[Instr.sliceBounds,hz,hy,fh (k:=k') (c:=.sliceAlen) (P:=P) w (show 0≤H by omega) (show H≤(s.size:Nat) by omega),fh (k:=k) (c:=.sliceB) (P:=P) w h0 (show L≤(H.toNat:Nat) by omega)]
 simp[Instr.sliceAt,Instr.slice,ag ht,hb]
end
section
variable {P:Program}
theorem rJ (w:World):∀ (l:List Int) (s:ByteArray),
  (forIn (m:=Sem) (l.map fun z=>Value.int .u8 z) s fun c s=>(match c with|.int .u8 n=>pure (ForInStep.yield (s.push (UInt8.ofNat n.toNat)))|_=>do let r ←stuck "bytesToString: byte expected";pure (ForInStep.yield r))).run P w
   = .ok (⟨(s.data.toList++l.map fun z=>UInt8.ofNat z.toNat).toArray⟩) w
 | [],s=>by simp
 | z::r,s=>by
  simp only[abH,List.forIn_cons,Sem.run_bind,Sem.run_pure,Result.andThen_ok]
  rw[rJ w r]
  simp[ByteArray.push]
theorem vB {w:World} {A:Option Addr} {n c:Nat} {zs:List Int} (hl:zs.length=n) (h:n=0∨∃ b o,A=some ⟨b,o,none⟩∧∀ i,i<n→w.cell? ⟨b,o+i,none⟩=some (.int .u8 (zs.getD i 0))) :
  (Conv.bytesToString (.slice A n c)).run P w=.ok (.string ⟨(zs.map fun z=>UInt8.ofNat z.toNat).toArray⟩) w:=by
 cases A with
 | none =>
  rcases h with rfl|⟨b,o,h,_⟩
  ·obtain rfl:zs=[]:=acg hl
   rfl
  ·cases h
 | some a =>
  have Ql:(loadCells a n).run P w=.ok (zs.map fun z=>Value.int .u8 z).toArray w:=by
   have:=run_loadCells_list (P:=P) w a (zs.map fun z=>Value.int .u8 z) (fun j v hv=>by
    rcases h with rfl|⟨b,o,e,hc⟩
    ·obtain rfl:zs=[]:=acg hl
     simp at hv
    ·cases e
     have hj:j<zs.length:=by simpa using(abk.1 hv).1
     rw[b7 rfl,hc j (by omega)]
     simp[hj]at hv
     simp[hj,←hv])
   simpa [hl]using this
  have hf:=rJ (P:=P) w zs ByteArray.empty
  simp only[Conv.bytesToString,Sem.run_bind,Ql,Result.andThen_ok]
  rw[List.forIn_toArray]
  simp at hf
  simp[hf]
theorem D9 {g:Gh} {E:List Chunk} {w:World} (hS:fg g E w) {xs:Unit→List Int} {A:Option Addr} {n c:Nat} (hr:R g (.aG (.int .u8) xs) (.slice A n c)) :
  (xs ()).length=n∧(n=0∨∃ b o,A=some ⟨b,o,none⟩∧∀ i,i<n→w.cell? ⟨b,o+i,none⟩=some (.int .u8 ((xs ()).getD i 0))):=by
 cases hr with|aG _ _ A c u hc hm ha hr =>
 refine⟨rfl,?_⟩
 cases hx:(xs ())with
 | nil=>exact .inl rfl
 | cons x r =>
  right
  obtain⟨b,off,cells,T,fr,h1,h2,h3⟩:=ha 0 x 0 (.int .u8 fun _=>x) (by rw[hx];rfl) rfl
  refine⟨b,off,h1,fun i hi=>?_⟩
  have eH:i<(xs ()).length:=by rw[hx];exact hi
  have h4:=ha i _ 0 (.int .u8 fun _=>(xs ())[i]'eH) (abj eH) rfl
  have h5:=hr i _ 0 (.int .u8 fun _=>(xs ())[i]'eH) (abj eH) rfl
  rw[h1]at h4
  have h6:=h4.cell hS
  simp only[Ty.size,aew,ab8]at h6
  rw[h6,h5.bS]
  rw[←hx]
  simp[List.getD,abj eH]
theorem Ea {g:Gh} {E:List Chunk} {w:World} (hS:fg g E w) {i s T:Nat} {xs:Unit→List Int} {o n:Unit→Nat} {A:Option Addr} {m c:Nat} (hE:af E i=.au T (.int .u8) xs) (hr:R g (.vec i s o n) (.slice A m c)) (vC:s=1) :
  (((xs ()).drop (o ())).take (n ())).length=m∧(m=0∨∃ b o',A=some ⟨b,o',none⟩∧∀ k,k<m→w.cell? ⟨b,o'+k,none⟩=some (.int .u8 ((((xs ()).drop (o ())).take (n ())).getD k 0))):=by
 subst vC
 have hs:=hS.sat i
 rw[hE]at hs
 obtain⟨hL,rK,hc⟩:=hs
 cases hr with|vec _ _ _ _ A c _ Ec hn sQ =>
 have hlen:(((xs ()).drop (o ())).take (n ())).length=n ():=by simp;omega
 refine⟨hlen,?_⟩
 cases hV:g.V i with
 | none=>exact .inl (hn hV).2.1
 | some cap =>
  obtain⟨h0,h1,h2,h3,h4⟩:=sQ cap hV
  obtain⟨vs,hv,Ch,cX,hx⟩:=hc cap hV
  rcases adC (n ())with hz|hz
  ·exact .inl hz
  right
  refine⟨_,_,h3 (.inl (by omega)),fun k hk=>?_⟩
  have wO:o ()+k<(xs ()).length:=by omega
  have Qm:=hx (o ()+k) _ (abj wO)
  have cv:(Ty.int IntKind.u8).size=1:=rfl
  rw[cv]at Qm Ch
  cases hd:(vs.toList.drop ((o ()+k)*1)).take 1 with
  | nil=>rw[hd]at Qm;exact Qm.elim
  | cons u r =>
   rw[hd]at Qm
   have hu:=Qm.1
   have Ut:=hu.bS
   have:((vs.toList.drop ((o ()+k)*1)).take 1)[0]?=some u:=by rw[hd];rfl
   rw[cell_of_heap hv]
   simp at this
   rw[show o ()*1+k=o ()+k by omega,this,Ut]
   simp[List.getD,abK,hk,abI,abj wO]
end
section
variable {P:Program}
theorem AR {g:Gh} {k:IntKind} {d:IntKind} {n:Unit→Int}:∀ {ks:List Int} {vs:List AV} {es:List MapEntry} {K:AV→Prop} {D:Prop} (i:Nat),Qj ks vs n K D→es.map (·.key)=ks.map (Value.int k)→RL g vs (es.map (·.val)) →
  (∃ j v u,Instr.findNow (.int d) (.int k (n ())) es i=some (some (j,u))∧R g v u∧K v)∨(Instr.findNow (.int d) (.int k (n ())) es i=some none∧D)
 | [],vs,[],K,D,i,h,hk,hr=>by
  cases vs with
  | nil=>exact .inr ⟨rfl,h⟩
  | cons _ _=>exact h.elim
 | [],_,_::_,_,_,_,_,hk,_=>by simp at hk
 | _::_,_,[],_,_,_,_,hk,_=>by simp at hk
 | k0::ks,[],e::es,_,_,_,h,_,_=>h.elim
 | k0::ks,v::vs,e::es,K,D,i,h,hk,hr=>by
  simp only[abH,List.cons.injEq]at hk
  simp only[Qj,gu]at h
  by_cases hn:n ()=k0
  ·exact .inl ⟨i,v,e.val,by simp[Instr.findNow,hk.1,Instr.sameNow,hn],hr.1,h.1 hn⟩
  ·have ih:=AR (d:=d) (i+1) (h.2 hn) hk.2 hr.2
   have e1:Instr.findNow (.int d) (.int k (n ())) (e::es) i=Instr.findNow (.int d) (.int k (n ())) es (i+1):=by
    have hb:(n () == k0)=false:=by simpa using hn
    simp[Instr.findNow,hk.1,Instr.sameNow,hb]
   rw[e1];exact ih
theorem Gb {g:Gh} {E:List Chunk} {w:World} {t:Nat} {ok:Bool} {x k:AV} {u uk:Value} {K:AV→Prop} (hS:fg g E w) (hx:R g x u) (hk:R g k uk) (h:F2 P t ok x k E K) :
  ∃ r c,(Instr.lookup t u uk ok).run P w=.ok c w∧R g r c∧K r:=by
 unfold F2 at h
 split at h <;> try exact h.elim
 ·rename_i i f n
  split at h <;> try exact h.elim
  rename_i hp hE
  obtain⟨es,cl,z,h1,h2,h3,h4⟩:=h.h
  obtain⟨rfl,hi,hf⟩:=hx.ov
  obtain⟨ms,h5,h6⟩:=hS.AM hE hf h1
  have Uu:=hk.bS
  rw[Uu]
  unfold iU at h2
  split at h2 <;> try (cases h2;done)
  rename_i kt et ht
  split at h2 <;> try (cases h2;done)
  rename_i px
  have rI:(Instr.checkKey ms.isEmpty 10000 kt (.int .i64 (n ()))).run P w=.ok () w:=by
   unfold Instr.checkKey
   simp only[Sem.run_bind,ag px,Result.andThen_ok]
   rfl
  have Ed:=ed (P:=P) (w:=w) h2
  have Qn:=nT g z
  rcases gZ.find (d:=.i64) (n:=n ()) 0 h6 with⟨v,k,u,g1,g2,g3⟩|⟨g1,g2⟩
  ·have hK:=h3 v g1
   cases ok with
   | true =>
    refine⟨_,_,?_,R.il (cs:=[v.av i,.tt]) (vs:=[u,.bool true]) ⟨g3,.tt,trivial⟩,hK⟩
    simp[Instr.lookup,ag ht,MapKept.run_getObj_map h5,rI,MapKept.run_findKey (aw px) g2,Result.andThen]
   | false =>
    refine⟨v.av i,u,?_,g3,hK⟩
    simp[Instr.lookup,ag ht,MapKept.run_getObj_map h5,rI,MapKept.run_findKey (aw px) g2,Result.andThen]
  ·have hK:=h4 g1
   cases ok with
   | true =>
    refine⟨_,_,?_,R.il (cs:=[yf z,.ff]) (vs:=[z,.bool false]) ⟨Qn,.ff,trivial⟩,hK⟩
    simp[Instr.lookup,ag ht,MapKept.run_getObj_map h5,rI,MapKept.run_findKey (aw px) g2,Result.andThen,Ed]
   | false =>
    refine⟨yf z,z,?_,Qn,hK⟩
    simp[Instr.lookup,ag ht,MapKept.run_getObj_map h5,rI,MapKept.run_findKey (aw px) g2,Result.andThen,Ed]
 rename_i i kk n
 split at h <;> try exact h.elim
 rename_i kt et k' ks vs ht hE
 split at h <;> try exact h.elim
 rename_i d e2 z px Yo hz
 subst e2
 have hs:=hS.sat i
 rw[hE]at hs
 obtain⟨es,cl,h1,h2,h3⟩:=hs
 have hu:u=.map (some (g.B i)):=by cases hx;rfl
 have Uu:=hk.bS
 subst hu
 rw[Uu]
 have rI:(Instr.checkKey es.isEmpty 10000 kt (.int kk (n ()))).run P w=.ok () w:=by
  unfold Instr.checkKey
  simp only[Sem.run_bind,ag px,Result.andThen_ok]
  rfl
 have Ed:=ed (P:=P) (w:=w) hz
 have Qn:=nT g z
 cases ok with
 | true =>
  simp only[]at h
  rcases AR (d:=d) 0 h h2 h3 with⟨j,v,u,h4,h5,h6⟩|⟨h4,h5⟩
  ·refine⟨_,_,?_,R.il (cs:=[v,.tt]) (vs:=[u,.bool true]) ⟨h5,.tt,trivial⟩,h6⟩
   simp[Instr.lookup,ag ht,MapKept.run_getObj_map h1,rI,MapKept.run_findKey (aw px) h4,Result.andThen]
  ·refine⟨_,_,?_,R.il (cs:=[yf z,.ff]) (vs:=[z,.bool false]) ⟨Qn,.ff,trivial⟩,h5⟩
   simp[Instr.lookup,ag ht,MapKept.run_getObj_map h1,rI,MapKept.run_findKey (aw px) h4,Result.andThen,Ed]
 | false =>
  simp only[]at h
  rcases AR (d:=d) 0 h h2 h3 with⟨j,v,u,h4,h5,h6⟩|⟨h4,h5⟩
  ·refine⟨v,u,?_,h5,h6⟩
   simp[Instr.lookup,ag ht,MapKept.run_getObj_map h1,rI,MapKept.run_findKey (aw px) h4,Result.andThen]
  ·refine⟨yf z,z,?_,Qn,h5⟩
   simp[Instr.lookup,ag ht,MapKept.run_getObj_map h1,rI,MapKept.run_findKey (aw px) h4,Result.andThen,Ed]
set_option maxHeartbeats 1000000 in
theorem LW {g:Gh} {E:List Chunk} {w:World} {env:Env} {a:Act} {op:Op} {K:AV→Prop} (hS:fg g E w) (hE:ER g env a.tmps) (h:qV P op env E K) (o:Oper) (ho:o.op=op) :
  ∃ r c,(execOp a.eval o).run P w=.ok (.value c) w∧R g r c∧K r:=by
 unfold execOp
 simp only[ho]
 unfold qV at h
 split at h
 ·
  exact⟨_,_,rfl,hE.ev _,h⟩
 ·exact⟨_,_,rfl,hE.ev _,h⟩
 ·
  rename_i c x y
  have hc:=hE.ev c
  split at h
  ·rename_i b e
   rw[e]at hc
   have D2:=hc.dq
   cases hb:b ()
   ·exact⟨_,_,by simp[D2,hb,asBool],hE.ev y,h.2 hb⟩
   ·exact⟨_,_,by simp[D2,hb,asBool],hE.ev x,h.1 hb⟩
  ·rename_i e
   rw[e]at hc
   exact⟨_,_,by simp[hc.kM,asBool],hE.ev x,h⟩
  ·rename_i e
   rw[e]at hc
   exact⟨_,_,by simp[hc.lY,asBool],hE.ev y,h⟩
  ·exact h.elim
 ·
  rename_i t x
  apply fp
  split at h
  ·rename_i i f ex
   split at h <;> try exact h.elim
   rename_i hp Yp
   obtain⟨k,off,T,n,c,v,h1,h2,h3,h4,h5,h6⟩:=h.h
   have hx:=hE.ev x
   rw[ex]at hx
   obtain⟨hv,hi,hf⟩:=hx.kK
   rw[h1]at hv
   obtain⟨vs,h7,h8,h9⟩:=hS.ow Yp (hf _ h1) h2
   have bm:off<vs.size:=by omega
   have hc:=cell_of_heap h7 off
   rw[aca bm]at hc
   refine⟨v.av i,vs[off],?_,by rw[←h4];exact h9 off _ (aca bm),h6⟩
   simp[Instr.loadAt,Instr.sureAddr,hv,loadVar,F5 h5,hc]
  rename_i W0
  obtain⟨cs,n,us,ad,h1,h2,h3,h4⟩:=vz hS (hE.ev x) h
  obtain⟨r,u,h5,h6,h7⟩:=yo h4 h2 h3
  exact⟨r,u,by simp[Instr.loadAt,Instr.sureAddr,h1,h5],h6,h7⟩
 ·
  rename_i x
  have hx:=hE.ev x
  split at h
  ·rename_i i off e
   rw[e]at hx
   obtain⟨ad,h1,_,_⟩:=(hx.ee 0).1 _ _ rfl
   exact⟨_,.pointer (some ad),by simp[h1],by rw[←h1];exact hx,h⟩
  ·rename_i i s j off e
   rw[e]at hx
   obtain⟨ad,h1,_,_⟩:=(hx.ee 0).2.1 _ _ _ _ rfl
   exact⟨_,.pointer (some ad),by simp[h1],by rw[←h1];exact hx,h⟩
  ·rename_i t y off e
   rw[e]at hx
   obtain⟨ad,h1,_,_⟩:=(hx.ee 0).2.2.1 _ _ _ rfl
   exact⟨_,.pointer (some ad),by simp[h1],by rw[←h1];exact hx,h⟩
  ·rename_i cs off e
   rw[e]at hx
   obtain⟨ad,h1,_,_⟩:=(hx.ee 0).2.2.2 _ _ rfl
   exact⟨_,.pointer (some ad),by simp[h1],by rw[←h1];exact hx,h⟩
  ·rename_i f p q e
   rw[e]at hx
   obtain⟨vs,ws,hv,hr⟩:∃ vs ws,a.eval x=.func (.func f) vs ws∧R g (.fn (.func f) p q) (.func (.func f) vs ws):=by
    generalize a.eval x=v at hx
    cases hx with|fn _ _ _ vs ws hl lK hr rG=>exact⟨vs,ws,rfl,.fn _ _ _ vs ws hl lK hr rG⟩
   exact⟨_,.func (.func f) vs ws,by simp[hv],hr,h⟩
  ·rename_i i f e
   rw[e]at hx
   obtain⟨hv,hi,hf⟩:=hx.kK
   obtain⟨x',kO⟩:=aec.1 h.1.h
   rw[kO]at hv
   exact⟨_,.pointer (some ⟨g.W i x'.1,x'.2,none⟩),by simp[hv],by have:=hx;rw[hv]at this;exact this,h.2⟩
  ·exact h.elim
 ·
  rename_i s x f
  apply fp
  split at h <;> try exact h.elim
  rename_i fs ht
  split at h <;> try exact h.elim
  rename_i fd hf
  rw[gX]at hf
  simp only[ada]at hf
  split at h <;> try exact h.elim
  rename_i n hs
  have hx:=hE.ev x
  split at h
  ·rename_i i off e
   rw[e]at hx
   rw[fz]at h
   obtain⟨ad,h1,_,h2⟩:=(hx.ee fd.offset).1 _ _ rfl
   exact⟨_,_,by simp[Instr.fieldAt,ag ht,hf,Instr.sureAddr,h1,ep hs],h2,h⟩
  ·rename_i i s j off e
   rw[e]at hx
   rw[fz]at h
   obtain⟨ad,h1,_,h2⟩:=(hx.ee fd.offset).2.1 _ _ _ _ rfl
   exact⟨_,_,by simp[Instr.fieldAt,ag ht,hf,Instr.sureAddr,h1,ep hs],h2,h⟩
  ·rename_i t y off e
   rw[e]at hx
   rw[fz]at h
   obtain⟨ad,h1,_,h2⟩:=(hx.ee fd.offset).2.2.1 _ _ _ rfl
   exact⟨_,_,by simp[Instr.fieldAt,ag ht,hf,Instr.sureAddr,h1,ep hs],h2,h⟩
  ·rename_i cs off e
   rw[e]at hx
   rw[fz]at h
   obtain⟨ad,h1,_,h2⟩:=(hx.ee fd.offset).2.2.2 _ _ rfl
   exact⟨_,_,by simp[Instr.fieldAt,ag ht,hf,Instr.sureAddr,h1,ep hs],h2,h⟩
  ·rename_i i f' e
   rw[e]at hx
   obtain⟨hv,hi,Nf⟩:=hx.kK
   obtain⟨x',kO⟩:=aec.1 h.1.h
   rw[kO]at hv
   refine⟨_,.pointer (some ⟨g.W i x'.1,x'.2+fd.offset,none⟩),by simp[Instr.fieldAt,ag ht,hf,Instr.sureAddr,hv,ep hs,b7],?_,h.2⟩
   have:=R.hp (g:=g) i (fun u=>(f' u).map fun x=>(x.1,x.2+fd.offset)) hi (fun y hy=>by simp[kO]at hy;rw[←hy];exact Nf x' kO)
   simpa [kO]using this
  ·exact h.elim
 ·
  rename_i s x f
  apply fp
  split at h <;> try exact h.elim
  rename_i fs ht
  split at h <;> try exact h.elim
  rename_i fd hf
  rw[gX]at hf
  simp only[ada]at hf
  have hx:=hE.ev x
  split at h <;> try exact h.elim
  rename_i cs e
  rw[e]at hx
  obtain⟨vs,h1,h2⟩:=hx.gF
  obtain⟨r,u,h5,h6,h7⟩:=yp (w:=w) h h2
  exact⟨r,u,by simp[Instr.field,ag ht,hf,h1,asAgg,h5],h6,h7⟩
 ·
  rename_i t x ix
  apply fp
  have hi:=hE.ev ix
  split at h <;> try exact h.elim
  rename_i k j ej
  rw[ej]at hi
  have eH:=hi.bS
  have hx:=hE.ev x
  split at h <;> try exact h.elim
  ·rename_i e ht
   split at h <;> try exact h.elim
   rename_i sz cv
   split at h <;> try exact h.elim
   ·rename_i ty xs ex
    split at h <;> try exact h.elim
    rename_i hb
    have dJ:ty.size=sz:=abl hb
    rw[ex]at hx
    generalize a.eval x=v at hx ⊢
    cases hx with|aG _ _ A c u hc hm ha hr =>
    have dZ:=h.1.h
    have bm:(j ()).toNat<(xs ()).length:=by omega
    have hp:=Ty.size_pos ty
    have W3:0<(enc ty (fun _=>(xs ())[(j ()).toNat]'bm) []).length:=by rw[bz];exact hp
    obtain⟨b,off,cells,T,fr,h1,h2,h3⟩:=ha (j ()).toNat _ 0 _ (abj bm) (abj W3)
    subst h1
    refine⟨_,_,by simp[Instr.indexAt,eH,asIntOf,ag ht,dZ.1,dZ.2,aW cv];rfl,?_,h.2⟩
    have e:(fun u=>(xs u).getD (j u).toNat ty.a8)=(fun _=>(xs ())[(j ()).toNat]'bm):=by
     funext u;cases u;simp[List.getD,abj bm]
    rw[e,b7 rfl]
    have:=R.dI ty (fun _=>(xs ())[(j ()).toNat]'bm) 0 b (off+(j ()).toNat*sz) (u (j ()).toNat) (fun k y hy=>?_) (fun k y hy=>hr _ _ k y (abj bm) hy)
    ·simpa using this
    ·obtain⟨b',Uv,Ng,T',Qo,g1,g2,g3⟩:=ha (j ()).toNat _ k y (abj bm) hy
     cases g1
     exact⟨b,_,Ng,T',Qo,rfl,g2,by rw[←g3];congr 1;rw[dJ];omega⟩
   ·rename_i i s o n ex
    split at h <;> try exact h.elim
    rename_i hb
    have dJ:s=sz:=abl hb
    rw[ex]at hx
    generalize a.eval x=v at hx ⊢
    cases hx with|vec _ _ _ _ A c hi hL hn hs =>
    have dZ:=h.1.h
    have hV:∃ cap,g.V i=some cap:=by
     cases hV:g.V i with
     | none=>have:=(hn hV).2.1;omega
     | some cap=>exact⟨cap,rfl⟩
    obtain⟨cap,hV⟩:=hV
    obtain⟨h0,h1,h2,h3,h4⟩:=hs cap hV
    have hA:=h3 (.inl (by omega))
    subst hA
    have bn:(Instr.indexAt t (.slice (some ⟨g.B i,o ()*s,none⟩) (n ()) c) (a.eval ix)).run P w=.ok (.pointer (some ⟨g.B i,o ()*s+(j ()).toNat*sz,none⟩)) w:=by
     simp[Instr.indexAt,eH,asIntOf,ag ht,dZ.1,dZ.2,aW cv,b7]
    have h':=h.2
    split at h' <;> try exact h'.elim
    ·refine⟨_,_,bn,?_,h'⟩
     have:=R.bl (g:=g) i s (fun u=>o u+(j u).toNat) 0 hi (by show o ()+(j ()).toNat<_;omega)
     rw[←dJ,←ace]
     simpa using this
    ·refine⟨_,_,bn,?_,h'⟩
     have:=R.bl (g:=g) i s (fun u=>o u+(j u).toNat) 0 hi (by show o ()+(j ()).toNat<_;omega)
     rw[←dJ,←ace]
     simpa using this
    ·rw[fz]at h'
     refine⟨_,_,bn,?_,h'⟩
     rw[←dJ,←ace]
     exact .ptr _ _ hi
  ·rename_i len e ht
   split at h <;> try exact h.elim
   rename_i sz cv
   split at h <;> try exact h.elim
   ·rename_i i off ex
    rw[ex]at hx
    rw[fz]at h
    obtain⟨ad,h1,_,h2⟩:=(hx.ee ((j ()).toNat*sz)).1 _ _ rfl
    have dZ:=h.1.h
    exact⟨_,_,by simp[Instr.indexAt,eH,asIntOf,ag ht,h1,Instr.sureAddr,dZ.1,dZ.2,aW cv],h2,h.2⟩
   ·rename_i i s q off ex
    rw[ex]at hx
    rw[fz]at h
    obtain⟨ad,h1,_,h2⟩:=(hx.ee ((j ()).toNat*sz)).2.1 _ _ _ _ rfl
    have dZ:=h.1.h
    exact⟨_,_,by simp[Instr.indexAt,eH,asIntOf,ag ht,h1,Instr.sureAddr,dZ.1,dZ.2,aW cv],h2,h.2⟩
   ·rename_i ty y off ex
    rw[ex]at hx
    rw[fz]at h
    obtain⟨ad,h1,_,h2⟩:=(hx.ee ((j ()).toNat*sz)).2.2.1 _ _ _ rfl
    have dZ:=h.1.h
    exact⟨_,_,by simp[Instr.indexAt,eH,asIntOf,ag ht,h1,Instr.sureAddr,dZ.1,dZ.2,aW cv],h2,h.2⟩
   ·rename_i i f' ex
    rw[ex]at hx
    obtain⟨hv,hi,Nf⟩:=hx.kK
    have dZ:=h.1.h
    obtain⟨x',kO⟩:=aec.1 dZ.1
    rw[kO]at hv
    refine⟨_,.pointer (some ⟨g.W i x'.1,x'.2+(j ()).toNat*sz,none⟩),by simp[Instr.indexAt,eH,asIntOf,ag ht,hv,Instr.sureAddr,dZ.2.1,dZ.2.2,aW cv,b7],?_,h.2⟩
    have:=R.hp (g:=g) i (fun u=>(f' u).map fun x=>(x.1,x.2+(j u).toNat*sz)) hi (fun y hy=>by simp[kO]at hy;rw[←hy];exact Nf x' kO)
    simpa [kO]using this
 ·
  rename_i t x ix
  apply fp
  have hi:=hE.ev ix
  split at h <;> try exact h.elim
  rename_i k j ej
  rw[ej]at hi
  have eH:=hi.bS
  have hx:=hE.ev x
  split at h <;> try exact h.elim
  ·rename_i ht
   split at h <;> try exact h.elim
   rename_i s ex
   rw[ex]at hx
   have kO:=hx.ir
   have dZ:=h.1.h
   have bm:(j ()).toNat<(s ()).length:=by omega
   refine⟨_,_,?_,.int _ _,h.2⟩
   have hg:(ByteArray.mk (s ()).toArray)[(j ()).toNat]?=some ((s ())[(j ()).toNat]'bm):=by
    rw[getElem?_pos (h:=by simpa [ByteArray.size]using bm)]
    rfl
   simp[Instr.index,eH,kO,asIntOf,ag ht,dZ.1,hg,List.getD,abj bm]
  ·rename_i len e ht
   split at h <;> try exact h.elim
   rename_i sz cv
   split at h <;> try exact h.elim
   rename_i cs ex
   rw[ex]at hx
   obtain⟨vs,h1,h2⟩:=hx.gF
   have dZ:=h.1.h
   obtain⟨r,u,h5,h6,h7⟩:=yp (w:=w) h.2 h2
   exact⟨r,u,by simp[Instr.index,eH,h1,asIntOf,ag ht,dZ.1,dZ.2,aW cv,h5],h6,h7⟩
 ·
  rename_i t x lo hi
  apply fp
  have hx:=hE.ev x
  split at h <;> try exact h.elim
  ·rename_i ht
   split at h <;> try exact h.elim
   rename_i s ex
   rw[ex]at hx
   have kO:=hx.ir
   have cv:(ByteArray.mk (s ()).toArray).size=(s ()).length:=by simp[ByteArray.size]
   have fin:∀ L H:Unit→Int,((lo=none∧L ()=0)∨∃ y k,lo=some y∧a.eval y=.int k (L ()))→((hi=none∧H ()=(s ()).length)∨∃ y k,hi=some y∧a.eval y=.int k (H ())) →
     (Ob (fun u=>0≤L u∧L u≤H u∧H u≤(s u).length)∧K (.str fun u=>((s u).take (H u).toNat).drop (L u).toNat)) →
     ∃ r c,(Instr.sliceAt t (a.eval x) (lo.map a.eval) (hi.map a.eval) none).run P w=.ok c w∧R g r c∧K r:=by
    intro L H hL hH h
    have dZ:=h.1.h
    refine⟨_,_,by rw[kO];exact vf ht hL (by rw[cv];exact hH) dZ.1 dZ.2.1 (by rw[cv];exact dZ.2.2),R.AO ?_,h.2⟩
    apply ByteArray.ext
    simp[ByteArray.data_extract,adJ]
   rcases l4 hE h with⟨rfl,h1⟩|⟨y,k,n,rfl,hy,h1⟩ <;> rcases l4 hE h1 with⟨rfl,h2⟩|⟨z,k',m,rfl,hz,h2⟩
   ·exact fin _ _ (.inl ⟨rfl,rfl⟩) (.inl ⟨rfl,rfl⟩) h2
   ·exact fin _ _ (.inl ⟨rfl,rfl⟩) (.inr ⟨_,_,rfl,hz⟩) h2
   ·exact fin _ _ (.inr ⟨_,_,rfl,hy⟩) (.inl ⟨rfl,rfl⟩) h2
   ·exact fin _ _ (.inr ⟨_,_,rfl,hy⟩) (.inr ⟨_,_,rfl,hz⟩) h2
  ·rename_i e ht
   split at h <;> try exact h.elim
   ·rename_i ty xs ex
    split at h <;> try exact h.elim
    rename_i sz cv
    split at h <;> try exact h.elim
    rename_i hb
    have dJ:ty.size=sz:=abl hb
    rw[ex]at hx
    obtain⟨A,c,hv,hc⟩:∃ A c,a.eval x=.slice A (xs ()).length c∧(xs ()).length≤c:=by
     generalize a.eval x=v at hx
     cases hx with|aG _ _ A c u hc=>exact⟨A,c,rfl,hc⟩
    rw[hv]at hx
    have fin:∀ L H:Unit→Int,((lo=none∧L ()=0)∨∃ y k,lo=some y∧a.eval y=.int k (L ()))→((hi=none∧H ()=(xs ()).length)∨∃ y k,hi=some y∧a.eval y=.int k (H ())) →
      (Ob (fun u=>0≤L u∧L u≤H u∧H u≤(xs u).length)∧K (.aG ty fun u=>((xs u).take (H u).toNat).drop (L u).toNat)) →
      ∃ r c,(Instr.sliceAt t (a.eval x) (lo.map a.eval) (hi.map a.eval) none).run P w=.ok c w∧R g r c∧K r:=by
     intro L H hL hH h
     have dZ:=h.1.h
     refine⟨_,_,by rw[hv];exact qL ht cv hL hH dZ.1 dZ.2.1 dZ.2.2 hc,?_,h.2⟩
     have:=D6 (l:=(L ()).toNat) (h:=(H ()).toNat) hx (by omega) (by omega)
     rw[dJ]at this
     have e:(fun u=>((xs u).take (H u).toNat).drop (L u).toNat)=(fun u=>((xs u).take (H ()).toNat).drop (L ()).toNat):=by funext u;cases u;rfl
     rw[e]
     exact this
    rcases l4 hE h with⟨rfl,h1⟩|⟨y,k,n,rfl,hy,h1⟩ <;> rcases l4 hE h1 with⟨rfl,h2⟩|⟨z,k',m,rfl,hz,h2⟩
    ·exact fin _ _ (.inl ⟨rfl,rfl⟩) (.inl ⟨rfl,rfl⟩) h2
    ·exact fin _ _ (.inl ⟨rfl,rfl⟩) (.inr ⟨_,_,rfl,hz⟩) h2
    ·exact fin _ _ (.inr ⟨_,_,rfl,hy⟩) (.inl ⟨rfl,rfl⟩) h2
    ·exact fin _ _ (.inr ⟨_,_,rfl,hy⟩) (.inr ⟨_,_,rfl,hz⟩) h2
   ·rename_i i s o n ex
    split at h <;> try exact h.elim
    rename_i sz cv
    split at h <;> try exact h.elim
    rename_i hb
    have dJ:s=sz:=abl hb
    rw[ex]at hx
    obtain⟨A,c,hv,hc⟩:∃ A c,a.eval x=.slice A (n ()) c∧n ()≤c:=by
     generalize a.eval x=v at hx
     cases hx with|vec _ _ _ _ A c hi hL hn hs =>
     refine⟨A,c,rfl,?_⟩
     cases hV:g.V i with
     | none=>have:=hn hV;omega
     | some cap=>have:=hs cap hV;omega
    rw[hv]at hx
    have fin:∀ L H:Unit→Int,((lo=none∧L ()=0)∨∃ y k,lo=some y∧a.eval y=.int k (L ()))→((hi=none∧H ()=n ())∨∃ y k,hi=some y∧a.eval y=.int k (H ())) →
      (Ob (fun u=>0≤L u∧L u≤H u∧H u≤n u)∧K (.vec i s (fun u=>o u+(L u).toNat) (fun u=>(H u).toNat - (L u).toNat))) →
      ∃ r c,(Instr.sliceAt t (a.eval x) (lo.map a.eval) (hi.map a.eval) none).run P w=.ok c w∧R g r c∧K r:=by
     intro L H hL hH h
     have dZ:=h.1.h
     refine⟨_,_,by rw[hv];exact qL ht cv hL hH dZ.1 dZ.2.1 dZ.2.2 hc,?_,h.2⟩
     have:=D7 (l:=(L ()).toNat) (h:=(H ()).toNat) hx (by omega) (by omega)
     rw[dJ]at this
     have e1:(fun u=>o u+(L u).toNat)=(fun u=>o u+(L ()).toNat):=by funext u;cases u;rfl
     have e2:(fun u=>(H u).toNat - (L u).toNat)=(fun _:Unit=>(H ()).toNat - (L ()).toNat):=by funext u;cases u;rfl
     rw[e1,e2,dJ]
     exact this
    rcases l4 hE h with⟨rfl,h1⟩|⟨y,k,n,rfl,hy,h1⟩ <;> rcases l4 hE h1 with⟨rfl,h2⟩|⟨z,k',m,rfl,hz,h2⟩
    ·exact fin _ _ (.inl ⟨rfl,rfl⟩) (.inl ⟨rfl,rfl⟩) h2
    ·exact fin _ _ (.inl ⟨rfl,rfl⟩) (.inr ⟨_,_,rfl,hz⟩) h2
    ·exact fin _ _ (.inr ⟨_,_,rfl,hy⟩) (.inl ⟨rfl,rfl⟩) h2
    ·exact fin _ _ (.inr ⟨_,_,rfl,hy⟩) (.inr ⟨_,_,rfl,hz⟩) h2
   ·rename_i ex
    rw[ex]at hx
    have hv:a.eval x=.slice none 0 0:=by generalize a.eval x=v at hx;cases hx;rfl
    split at h <;> try exact h.elim
    rename_i sz cv
    have fin:∀ L H:Unit→Int,((lo=none∧L ()=0)∨∃ y k,lo=some y∧a.eval y=.int k (L ()))→((hi=none∧H ()=0)∨∃ y k,hi=some y∧a.eval y=.int k (H ())) →
      (Ob (fun u=>L u=0∧H u=0)∧K .aY)→∃ r c,(Instr.sliceAt t (a.eval x) (lo.map a.eval) (hi.map a.eval) none).run P w=.ok c w∧R g r c∧K r:=by
     intro L H hL hH h
     have dZ:=h.1.h
     have bn:=qL (P:=P) (a:=a) (w:=w) (A:=none) (n:=0) (c:=0) (lo:=lo) (hi:=hi) (L:=L ()) (H:=H ()) ht cv hL (by simpa using hH) (by omega) (by omega) (by simp;omega) (abr _)
     refine⟨_,_,by rw[hv];exact bn,?_,h.2⟩
     simp[dZ.1,dZ.2]
     exact .aY
    rcases l4 hE h with⟨rfl,h1⟩|⟨y,k,n,rfl,hy,h1⟩ <;> rcases l4 hE h1 with⟨rfl,h2⟩|⟨z,k',m,rfl,hz,h2⟩
    ·exact fin _ _ (.inl ⟨rfl,rfl⟩) (.inl ⟨rfl,rfl⟩) h2
    ·exact fin _ _ (.inl ⟨rfl,rfl⟩) (.inr ⟨_,_,rfl,hz⟩) h2
    ·exact fin _ _ (.inr ⟨_,_,rfl,hy⟩) (.inl ⟨rfl,rfl⟩) h2
    ·exact fin _ _ (.inr ⟨_,_,rfl,hy⟩) (.inr ⟨_,_,rfl,hz⟩) h2
 ·
  rename_i t x hi mx
  apply fp
  have hx:=hE.ev x
  have hh:=hE.ev hi
  have hm:=hE.ev mx
  split at h <;> try exact h.elim
  rename_i k hn k' mn eh em
  rw[eh]at hh
  rw[em]at hm
  have hh:=hh.bS
  have hm:=hm.bS
  split at h <;> try exact h.elim
  rename_i e ht
  split at h <;> try exact h.elim
  rename_i sz cv
  split at h <;> try exact h.elim
  ·rename_i ty xs ex
   split at h <;> try exact h.elim
   rename_i hb
   have dJ:ty.size=sz:=abl hb
   rw[ex]at hx
   obtain⟨dZ,hk⟩:=h
   obtain⟨h1,h2⟩:=dZ.h
   obtain⟨A,c,hv,hc⟩:∃ A c,a.eval x=.slice A (xs ()).length c∧(xs ()).length≤c:=by
    generalize a.eval x=v at hx
    cases hx with|aG _ _ A c u hc=>exact⟨A,c,rfl,hc⟩
   rw[hv]at hx
   refine⟨_,_,by rw[hv];exact sU ht cv (by rw[hh,h1]) (by rw[hm,h2]) hc,?_,hk⟩
   exact D8 hx
  ·rename_i ex
   rw[ex]at hx
   obtain⟨dZ,hk⟩:=h
   obtain⟨h1,h2⟩:=dZ.h
   have hv:a.eval x=.slice none 0 0:=by generalize a.eval x=v at hx;cases hx;rfl
   exact⟨_,_,by rw[hv];exact sU ht cv (n:=0) (by rw[hh,h1];rfl) (by rw[hm,h2];rfl) (abr _),.aY,hk⟩
 ·
  rename_i op t x y t'
  apply fp
  exact JO hS (hE.ev x) (hE.ev y) h
 ·
  rename_i op t x
  apply fp
  have hx:=hE.ev x
  generalize a.eval x=v at hx ⊢
  split at h <;> try exact h.elim
  all_goals (rename_i e;rw[e]at hx;cases hx)
  ·exact⟨_,_,by simp[Op.unary],R.po rfl,h⟩
  ·exact⟨_,_,by simp[Op.unary],.ff,h⟩
  ·exact⟨_,_,by simp[Op.unary],.tt,h⟩
  ·exact⟨_,_,rfl,.int _ _,h⟩
  ·exact⟨_,_,rfl,.int _ _,h⟩
 ·
  rename_i src dst x
  apply fp
  have hx:=hE.ev x
  split at h <;> try exact h.elim
  ·rename_i d k k' n hs hd e
   rw[e]at hx
   exact⟨_,_,by simp[convert,ag hs,ag hd,hx.bS,Conv.intToInt],.int _ _,h⟩
  ·rename_i d s hs hd e
   rw[e]at hx
   exact⟨_,_,by simp[convert,ag hs,ag hd,hx.ir],.str _,h⟩
  ·rename_i e xs hs hd ex
   split at h <;> try exact h.elim
   rename_i he
   rw[ex]at hx
   obtain⟨A,c,hv⟩:∃ A c,a.eval x=.slice A (xs ()).length c:=by
    generalize a.eval x=v at hx
    cases hx with|aG _ _ A c u hc=>exact⟨A,c,rfl⟩
   rw[hv]at hx
   obtain⟨h1,h2⟩:=D9 hS hx
   exact⟨_,_,by simp[convert,ag hs,ag hd,hv,ag he,vB h1 h2],R.AO rfl,h⟩
  ·rename_i e hs hd ex
   split at h <;> try exact h.elim
   rename_i he
   rw[ex]at hx
   have hv:a.eval x=.slice none 0 0:=by generalize a.eval x=v at hx;cases hx;rfl
   exact⟨_,_,by simp[convert,ag hs,ag hd,hv,ag he,Conv.bytesToString];rfl,R.AO rfl,h⟩
  ·rename_i e i o n hs hd ex
   split at h <;> try exact h.elim
   rename_i T xs he hc
   rw[ex]at hx
   obtain⟨A,c,hv⟩:∃ A c,a.eval x=.slice A (n ()) c:=by
    generalize a.eval x=v at hx
    cases hx with|vec _ _ _ _ A c=>exact⟨A,c,rfl⟩
   rw[hv]at hx
   obtain⟨h1,h2⟩:=Ea hS hc hx rfl
   exact⟨_,_,by simp[convert,ag hs,ag hd,hv,ag he,vB h1 h2],R.AO rfl,h⟩
  ·rename_i t i gg hs hd ex
   split at h <;> try exact h.elim
   rename_i k T cs cv hc
   split at h <;> try exact h.elim
   rename_i bm
   have bm:gg<DY cs:=ab3 bm
   rw[ex]at hx
   have gy:=hS.sat i
   rw[hc]at gy
   obtain⟨vs,hb,Ee⟩:=gy
   have hlen:=Ee.length
   rw[Cf]at bm
   obtain⟨ti,wL,Qp⟩:∃ ti,P.info? t=some ti∧ti.size=k+1:=by
    unfold bT at cv
    split at cv
    ·rename_i ti wL
     exact⟨ti,bA wL,by simpa using cv⟩
    ·cases cv
   have hv:a.eval x=.pointer (some ⟨g.B i,gg,none⟩):=by generalize a.eval x=v at hx;cases hx;rfl
   rw[hv]at hx
   exact⟨_,_,by rw[hv];exact Lib.run_to_unsafe w _ (aw hs) (aw hd) wL (by omega) (e:=T) (cells:=vs.size) (by simp[World.shape?,hb]) (by simp at hlen;show gg<vs.size;omega),hx,h⟩
  ·rename_i t i gg hs hd ex
   split at h <;> try exact h.elim
   rename_i ti T cs wL hc
   rw[fz]at h
   obtain⟨rI,hk⟩:=h
   rw[ex]at hx
   have gy:=hS.sat i
   rw[hc]at gy
   obtain⟨vs,hb,Ee⟩:=gy
   have hlen:=Ee.length
   have rI:=rI.h
   rw[Cf]at rI
   have hv:a.eval x=.pointer (some ⟨g.B i,gg,none⟩):=by generalize a.eval x=v at hx;cases hx;rfl
   rw[hv]at hx
   exact⟨_,_,by rw[hv];exact Lib.run_from_unsafe w _ (aw hs) (aw hd) (bA wL) (e:=T) (cells:=vs.size) (by simp[World.shape?,hb]) (by simp at hlen;rw[←hlen];exact rI),hx,hk⟩
 ·
  rename_i t x
  apply fp
  split at h <;> try exact h.elim
  rename_i d JS ht
  refine⟨_,_,?_,.ot _ _ _ (hE.ev x),h⟩
  simp only[Instr.makeInterface,Sem.run_bind,ag ht,Result.andThen_ok]
  cases d <;> first|rfl|exact(JS _ rfl).elim
 ·
  rename_i f p q
  apply fp
  rw[fA,fA]at h
  refine⟨_,_,rfl,?_,h⟩
  have:=R.DZ (f:=f) (hE.qF p.toList) (hE.qF q.toList)
  have e1:(List.map a.eval p.toList).toArray=p.map a.eval:=by apply acS;simp
  have e2:(List.map a.eval q.toList).toArray=q.map a.eval:=by apply acS;simp
  rw[e1,e2]at this
  exact this
 ·
  rename_i x i
  apply fp
  have hx:=hE.ev x
  split at h <;> try exact h.elim
  rename_i cs e
  rw[e]at hx
  split at h <;> try exact h.elim
  rename_i v hv
  rw[gu]at h
  obtain⟨vs,h1,h2⟩:=hx.sw
  rw[gX]at hv
  obtain⟨u,hu,hr⟩:=h2.get hv
  simp at hu
  exact⟨v,u,by simp[Instr.extract,h1,hu],hr,h⟩
 ·
  apply fp
  exact Gb hS (hE.ev _) (hE.ev _) h
 ·
  rename_i t parts
  apply fp
  split at h <;> try exact h.elim
  rename_i ps Gc
  obtain⟨r,c,h1,h2,h3⟩:=D5 (P:=P) (w:=w) hE Gc h
  refine⟨r,c,?_,h2,h3⟩
  rw[←h1]
  congr 2
  apply acS
  simp
 ·
  rename_i b args ts
  split at h <;> try exact h.elim
  rename_i t r gU
  obtain⟨r',c,h1,h2,h3⟩:=yt (P:=P) (w:=w) (ts:=r) (ty:=o.type) (cs:=args.map fun|.const _=>true|_=>false) hS (hE.qF args.toList) h
  refine⟨r',c,?_,h2,h3⟩
  simp only[resolve,invoke,Sem.run_bind,Sem.run_pure,Result.andThen_ok]
  rw[←h1]
  congr 2
  ·apply acS;simp[gU]
  ·apply acS;simp
 ·exact h.elim
end
end Go.Proofs.YthnefnlhcijekaaGreat.Fw
namespace Go.Proofs.YthnefnlhcijekaaGreat.Fw
open Go Go.RowKit
mutual
def du (f:AV→AV):AV→AV
 | .ptr i o=>f (.ptr i o)|.bl i s j o=>f (.bl i s j o)|.vec i s o n=>f (.vec i s o n)|.mp i=>f (.mp i)|.hp i g=>f (.hp i g)|.hm i g=>f (.hm i g)
 | .agg cs=>.agg (fq f cs)|.bM cs=>.bM (fq f cs)|.fn g az bs=>.fn g (fq f az) (fq f bs)|.ot t v=>.ot t (du f v)
 | .undef=>.undef|.skip=>.skip|.int k n=>.int k n|.bool b=>.bool b|.tt=>.tt|.ff=>.ff|.str s=>.str s|.aG t xs=>.aG t xs
 | .bZ=>.bZ|.dI t x o=>.dI t x o|.cL cs o=>.cL (fq f cs) o|.aY=>.aY|.gV=>.gV|.j9=>.j9|.ka=>.ka
def fq (f:AV→AV):List AV→List AV
 | []=>[]|c::r=>du f c::fq f r
end
theorem gM (f:AV→AV):∀ l:List AV,(fq f l).length=l.length
 | []=>by simp[fq]
 | c::r=>by simp[fq,gM f r]
theorem iW (f:AV→AV):∀ (l:List AV) (i:Nat),(fq f l)[i]?=l[i]?.map (du f)
 | [],i=>by simp[fq]
 | c::r,0=>by simp[fq]
 | c::r,i+1=>by simp[fq,iW f r i]
def isRef:AV→Bool
 | .ptr _ _|.bl _ _ _ _|.vec _ _ _ _|.mp _|.hp _ _|.hm _ _=>true|_=>false
theorem At.mono {g g':Gh} (hΦ:∀ b o,g.Φ b=some o→g'.Φ b=some o) {A:Option Addr} {k:Nat} {u:Value} (h:At g A k u):At g' A k u:=by
 obtain⟨b,off,cells,T,fr,h1,h2,h3⟩:=h
 exact⟨b,off,cells,T,fr,h1,hΦ _ _ h2,h3⟩
theorem iK (f:AV→AV):∀ (t:Ty) (x:Unit→t.den) (j:Nat) (y:AV),(enc t x [])[j]?=some y→du f y=y
 | .int _,x,j,y,h=>by cases j <;> simp[enc]at h;subst h;rfl
 | .bool,x,j,y,h=>by cases j <;> simp[enc]at h;subst h;rfl
 | .str,x,j,y,h=>by cases j <;> simp[enc]at h;subst h;rfl
 | .list _,x,j,y,h=>by cases j <;> simp[enc]at h;subst h;rfl
 | .pair a b,x,j,y,h=>by
  simp only[enc]at h
  rw[cR,abT]at h
  split at h
  ·exact iK f a _ j y h
  ·exact iK f b _ _ y h
theorem R.mapA {g g':Gh} (f:AV→AV) (hA:∀ A k u,At g A k u→At g' A k u) (hf:∀ v u,isRef v=true→R g v u→R g' (f v) u) {v:AV} {u:Value} (h:R g v u):R g' (du f v) u:=by
 induction h with
 | undef v=>exact .undef v
 | skip=>exact .skip
 | int k n=>exact .int k n
 | bool b=>exact .bool b
 | tt=>exact .tt
 | ff=>exact .ff
 | str s=>exact .str s
 | aG t xs A c u hc hm ha hr ih =>
  refine .aG t xs A c u hc hm (fun i x j y h1 h2=>hA _ _ _ (ha i x j y h1 h2)) (fun i x j y h1 h2=>?_)
  have:=ih i x j y h1 h2
  rwa [iK f t _ j y h2]at this
 | agg cs vs hl hr ih =>
  refine .agg _ vs (by rw[gM];exact hl) (fun i y u h1 h2=>?_)
  rw[iW]at h1
  cases hc:cs[i]? with
  | none=>rw[hc]at h1;cases h1
  | some c=>rw[hc]at h1;cases h1;exact ih i c u hc h2
 | bM cs vs hl hr ih =>
  refine .bM _ vs (by rw[gM];exact hl) (fun i y u h1 h2=>?_)
  rw[iW]at h1
  cases hc:cs[i]? with
  | none=>rw[hc]at h1;cases h1
  | some c=>rw[hc]at h1;cases h1;exact ih i c u hc h2
 | bZ=>exact .bZ
 | ptr i off hi=>exact hf _ _ rfl (.ptr i off hi)
 | bl i sz idx off hi h=>exact hf _ _ rfl (.bl i sz idx off hi h)
 | dI t x off b o u ha hr ih =>
  refine .dI t x off b o u (fun j y h=>hA _ _ _ (ha j y h)) (fun j y h=>?_)
  have:=ih j y h
  rwa [iK f t _ j y h]at this
 | cL cs off b o u ha hr ih =>
  refine .cL _ off b o u (fun j y h=>?_) (fun j y h=>?_)
  ·rw[iW]at h
   cases hc:cs[j]? with
   | none=>rw[hc]at h;cases h
   | some c=>exact hA _ _ _ (ha j c hc)
  ·rw[iW]at h
   cases hc:cs[j]? with
   | none=>rw[hc]at h;cases h
   | some c=>rw[hc]at h;cases h;exact ih j c hc
 | aY=>exact .aY
 | vec i sz off n A c hi hL hn hs=>exact hf _ _ rfl (.vec i sz off n A c hi hL hn hs)
 | fn h az bs vs ws hl lK hr rG ih Yq =>
  refine .fn h _ _ vs ws (by rw[gM];exact hl) (by rw[gM];exact lK) (fun i y u h1 h2=>?_) (fun i y u h1 h2=>?_)
  ·rw[iW]at h1
   cases hc:az[i]? with
   | none=>rw[hc]at h1;cases h1
   | some c=>rw[hc]at h1;cases h1;exact ih i c u hc h2
  ·rw[iW]at h1
   cases hc:bs[i]? with
   | none=>rw[hc]at h1;cases h1
   | some c=>rw[hc]at h1;cases h1;exact Yq i c u hc h2
 | gV=>exact .gV
 | ot t v u h ih=>exact .ot t _ u ih
 | j9=>exact .j9
 | mp i hi=>exact hf _ _ rfl (.mp i hi)
 | hp i f hi h=>exact hf _ _ rfl (.hp i f hi h)
 | hm i f hi h=>exact hf _ _ rfl (.hm i f hi h)
 | ka=>exact .ka
theorem R.map {g g':Gh} (f:AV→AV) (hΦ:∀ b o,g.Φ b=some o→g'.Φ b=some o) (hf:∀ v u,isRef v=true→R g v u→R g' (f v) u) {v:AV} {u:Value} (h:R g v u):R g' (du f v) u:=h.mapA f (fun _ _ _ h=>h.mono hΦ) hf
mutual
theorem iu:∀ v:AV,du id v=v
 | .agg cs=>by simp only[du];rw[kP cs]
 | .bM cs=>by simp only[du];rw[kP cs]
 | .cL cs o=>by simp only[du];rw[kP cs]
 | .fn g az bs=>by simp only[du];rw[kP az,kP bs]
 | .ot t v=>by simp only[du];rw[iu v]
 | .ptr _ _|.bl _ _ _ _|.vec _ _ _ _|.mp _|.hp _ _|.hm _ _|.undef|.skip|.int _ _|.bool _|.tt|.ff|.str _|.aG _ _|.bZ|.dI _ _ _|.aY|.gV|.j9|.ka=>rfl
theorem kP:∀ l:List AV,fq id l=l
 | []=>rfl
 | c::r=>by simp only[fq];rw[iu c,kP r]
end
structure Gh.le (g g':Gh):Prop where
 n:g.n≤g'.n
 dA:∀ b o,g.Φ b=some o→g'.Φ b=some o
 B:∀ i,i<g.n→g'.B i=g.B i
 V:∀ i,i<g.n→g'.V i=g.V i
 L:∀ i,i<g.n→g'.L i=g.L i
 k:g'.k=g.k
 W:∀ i k,i<g.n→k<g.M i→g'.W i k=g.W i k
 M:∀ i,i<g.n→g.M i≤g'.M i
theorem R.mono {g g':Gh} (hg:g.le g') {v:AV} {u:Value} (h:R g v u):R g' v u:=by
 have:=R.map (g':=g') id hg.dA (fun v u hv h=>?_) h
 ·rwa [iu]at this
 ·cases h <;> first|(cases hv;done)|skip
  ·rename_i i off hi
   show R g' (.ptr i off) _
   rw[←hg.B i hi];exact .ptr i off (abB hi hg.n)
  ·rename_i i sz idx off hi h
   show R g' (.bl i sz idx off) _
   rw[←hg.B i hi];exact .bl i sz idx off (abB hi hg.n) (by rw[hg.L i hi];exact h)
  ·rename_i i sz off n A c hi hL hn hs
   exact .vec i sz off n A c (abB hi hg.n) (by rw[hg.L i hi];exact hL) (by rw[hg.V i hi];exact hn) (by rw[hg.V i hi,hg.B i hi];exact hs)
  ·rename_i i hi
   show R g' (.mp i) _
   rw[←hg.B i hi];exact .mp i (abB hi hg.n)
  ·rename_i i f hi hf
   show R g' (.hp i f) _
   have:=R.hp (g:=g') i f (abB hi hg.n) (fun x hx=>abB (hf x hx) (hg.M i hi))
   cases Gd:f ()with
   | none=>rw[Gd]at this;exact this
   | some x=>rw[Gd]at this;simp only[acb]at this ⊢;rw[←hg.W i x.1 hi (hf x Gd)];exact this
  ·rename_i i f hi hf
   show R g' (.hm i f) _
   rw[←hg.W i _ hi hf];exact .hm i f (abB hi hg.n) (abB hf (hg.M i hi))
theorem RL.mono {g g':Gh} (hg:g.le g'):∀ {cs:List AV} {us:List Value},RL g cs us→RL g' cs us
 | [],[],h=>h
 | c::r,u::us,h=>⟨h.1.mono hg,RL.mono hg h.2⟩
theorem RL.mapA {g g':Gh} (f:AV→AV) (hA:∀ A k u,At g A k u→At g' A k u) (hf:∀ v u,isRef v=true→R g v u→R g' (f v) u):∀ {cs:List AV} {us:List Value},RL g cs us→RL g' (fq f cs) us
 | [],[],h=>h
 | c::r,u::us,h=>⟨h.1.mapA f hA hf,RL.mapA f hA hf h.2⟩
theorem RL.map {g g':Gh} (f:AV→AV) (hΦ:∀ b o,g.Φ b=some o→g'.Φ b=some o) (hf:∀ v u,isRef v=true→R g v u→R g' (f v) u) {cs:List AV} {us:List Value} (h:RL g cs us):RL g' (fq f cs) us:=h.mapA f (fun _ _ _ h=>h.mono hΦ) hf
theorem RL.kQ {g g':Gh} (hA:∀ A k u,At g A k u→At g' A k u) {t:Ty} {x:Unit→t.den} {us:List Value} (h:RL g (enc t x []) us):RL g' (enc t x []) us :=
 RL.mk h.length fun i y u h1 h2=>by
  have:=R.mapA (g':=g') (fun _=>.undef) hA (fun v u _ _=>.undef u) (h.at_ i y u h1 h2)
  rwa [iK _ t _ i y h1]at this
theorem RL.iL {g g':Gh} (hΦ:∀ b o,g.Φ b=some o→g'.Φ b=some o) {t:Ty} {x:Unit→t.den} {us:List Value} (h:RL g (enc t x []) us):RL g' (enc t x []) us:=h.kQ (fun _ _ _ h=>h.mono hΦ)
def dv (f:AV→AV):Chunk→Chunk
 | .none=>.none|.cells T cs=>.cells T (fq f cs)|.au T t xs=>.au T t xs|.count k=>.count k|.jC k ks vs=>.jC k ks (fq f vs)|.row T t xs=>.row T t xs|.heap h=>.heap h|.jD x a b l=>.jD (du f x) a b l|.jy T cs=>.jy T (fq f cs)|.bg q=>.bg q
def cY (f:AV→AV):List Chunk→List Chunk
 | []=>[]|c::r=>dv f c::cY f r
def bj (f:AV→AV):Env→Env
 | []=>[]|(k,v)::r=>(k,du f v)::bj f r
theorem eK (f:AV→AV):∀ E,ah (cY f E)=ah E
 | []=>rfl
 | c::r=>by simp[cY,ah,eK f r]
theorem fE (f:AV→AV):∀ E i,af (cY f E) i=dv f (af E i)
 | [],i=>by simp[cY,af,dv]
 | c::r,0=>by simp[cY,af]
 | c::r,i+1=>by simp[cY,af,fE f r i]
theorem cZ (f:AV→AV):∀ env t,look (bj f env) t=du f (look env t)
 | [],t=>by simp[bj,look,du]
 | (k,v)::r,t=>by
  simp only[bj,look]
  split <;> rename_i h <;> simp[h,cZ f r t]
theorem bC (E:List Chunk) (i j:Nat) (c:Chunk):af (bh E i c) j=if i=j∧i<ah E then c else af E j:=by
 induction E generalizing i j with
 | nil=>simp[bh,af,ah]
 | cons d r ih =>
  cases i <;> cases j <;> simp[bh,af,ah,ih]
theorem ck:∀ (E:List Chunk) (i:Nat) (c:Chunk),ah (bh E i c)=ah E
 | [],_,_=>rfl
 | d::r,0,c=>rfl
 | d::r,i+1,c=>by simp[bh,ah,ck r i c]
theorem l5 (E:List Chunk) (j:Nat) (c:Chunk):af (dz E c) j=if j=ah E then c else af E j:=by
 induction E generalizing j with
 | nil=>cases j <;> simp[dz,af,ah]
 | cons d r ih=>cases j <;> simp[dz,af,ah,ih]
theorem l6:∀ (E:List Chunk) (c:Chunk),ah (dz E c)=ah E+1
 | [],_=>rfl
 | d::r,c=>by simp[dz,ah,l6 r c]
theorem kR:∀ (E:List Chunk) (i:Nat),ah E≤i→af E i=.none
 | [],_,_=>rfl
 | d::r,0,h=>by simp[ah]at h
 | d::r,i+1,h=>by simp only[af];exact kR r i (by simpa [ah]using h)
theorem dV {E:List Chunk} {i:Nat} (h:af E i≠.none):i<ah E:=by
 rcases Nat.lt_or_ge i (ah E)with h'|h'
 ·exact h'
 ·exact(h (kR E i h')).elim
theorem AS {g:Gh} {E:List Chunk} {i b:Nat} (h:(af E i).own g i b):i<ah E:=dV (fun e=>by rw[e]at h;cases h)
theorem gZ.Ef {g g':Gh} {i i':Nat} (hR:∀ (v:HV) u,R g (v.av i) u→R g' (v.av i') u):∀ {es:List (Nat×Int×HV)} {ms:List MapEntry},gZ g i es ms→gZ g' i' es ms
 | [],[],_=>trivial
 | (_,_,_)::_,_::_,h=>⟨h.1,h.2.1,hR _ _ h.2.2.1,gZ.Ef hR h.2.2.2⟩
theorem HO.l7 {g g':Gh} {i i':Nat} {ob:Obj} {o:HO} (hR:∀ (v:HV) u,R g (v.av i) u→R g' (v.av i') u) (h:o.sat g i ob):o.sat g' i' ob:=by
 cases o with
 | cells T n c =>
  obtain⟨vs,rfl,h1,h2⟩:=h
  exact⟨vs,rfl,h1,fun j u hu=>hR _ _ (h2 j u hu)⟩
 | map es cl =>
  obtain⟨ms,rfl,h1⟩:=h
  exact⟨ms,rfl,h1.Ef hR⟩
theorem HV.JT {i:Nat} (t:Ty) (x:t.den):(∃ v,enc t (fun _=>x) []=[v]∧(HV.iq t x).av i=v)∨(HV.iq t x).av i=.agg (enc t (fun _=>x) []):=by
 by_cases h:∃ v,enc t (fun _=>x) []=[v]
 ·obtain⟨v,hv⟩:=h
  exact .inl ⟨v,hv,by simp[HV.av,hv]⟩
 ·refine .inr ?_
  simp only[HV.av]
  split
  ·rename_i v hv;exact(h ⟨v,hv⟩).elim
  ·rfl
theorem HV.sx {g g':Gh} {i i':Nat} (hA:∀ A k u,At g A k u→At g' A k u) (hi:i<g.n→i'<g'.n) (hW:i<g.n→∀ k,k<g.M i→g'.W i' k=g.W i k) (hM:i<g.n→g.M i≤g'.M i') (v:HV) (u:Value) (h:R g (v.av i) u):R g' (v.av i') u:=by
 cases v with
 | iq t x =>
  have key:∀ us,RL g (enc t (fun _=>x) []) us→RL g' (enc t (fun _=>x) []) us:=fun us h=>h.kQ hA
  rcases HV.JT (i:=i) t x with⟨v,h1,h2⟩|h2
  ·rw[h2]at h
   have e:(HV.iq t x).av i'=v:=by simp[HV.av,h1]
   rw[e]
   rw[h1]at key
   exact(key [u] ⟨h,trivial⟩).1
  ·have e:(HV.iq t x).av i'=(HV.iq t x).av i:=rfl
   rw[e,h2]
   rw[h2]at h
   obtain⟨vs,rfl,h3⟩:=h.gF
   have:=R.iV (key _ h3)
   simpa using this
 | hp f =>
  simp only[HV.av]at h ⊢
  cases h with|hp _ _ h1 h2 =>
  have:=R.hp (g:=g') i' (fun _=>f) (hi h1) (fun x hx=>abB (h2 x hx) (hM h1))
  cases f with
  | none=>exact this
  | some x=>simp only[acb]at this ⊢;rw[←hW h1 x.1 (h2 x rfl)];exact this
 | hm k =>
  simp only[HV.av]at h ⊢
  cases h with|hm _ _ h1 h2 =>
  rw[←hW h1 k h2]
  exact .hm i' (fun _=>k) (hi h1) (abB h2 (hM h1))
theorem Nh {g g':Gh} (hA:∀ A k u,At g A k u→At g' A k u):∀ b off u,TA g.Φ b off u→TA g'.Φ b off u:=by
 rintro b off u ⟨cs,T,fr,h1,h2⟩
 obtain⟨b',Uv,mY,T',Qo,h3,h4,h5⟩:=hA (some ⟨b,off,Option.none⟩) 0 u ⟨b,off,cs,T,fr,rfl,h1,h2⟩
 cases h3
 exact⟨mY,T',Qo,h4,h5⟩
theorem Chunk.fF {g g':Gh} {i:Nat} {w w':World} {c:Chunk} (hA:∀ A k u,At g A k u→At g' A k u) (hR:∀ cs us,RL g cs us→RL g' cs us) (hB:g'.B i=g.B i) (hV:g'.V i=g.V i) (hL:g'.L i=g.L i) (hk:g'.k=g.k) (hW:g'.W i=g.W i) (hM:g'.M i=g.M i)
  (hw:∀ b,c.own g i b→w'.heap[b]?=w.heap[b]?) (h:c.sat g i w):c.sat g' i w':=by
 cases c with
 | none=>trivial
 | cells T cs =>
  obtain⟨vs,h1,h2⟩:=h
  exact⟨vs,by rw[hB,hw _ rfl];exact h1,hR _ _ h2⟩
 | au T t xs =>
  obtain⟨h1,h2,h3⟩:=h
  refine⟨by rw[hL];exact h1,by rw[hV];exact h2,fun cap hc=>?_⟩
  rw[hV]at hc
  obtain⟨vs,h4,h5,h6,h7⟩:=h3 cap hc
  exact⟨vs,by rw[hB,hw _ (by simp[Chunk.own,hc])];exact h4,h5,h6,fun k x hx=>hR _ _ (h7 k x hx)⟩
 | row T t xs =>
  obtain⟨h1,h2,h3⟩:=h
  refine⟨by rw[hL];exact h1,by rw[hV];exact h2,fun cap hc=>?_⟩
  rw[hV]at hc
  obtain⟨vs,h4,h5,h6,h7⟩:=h3 cap hc
  exact⟨vs,by rw[hB,hw _ (by simp[Chunk.own,hc])];exact h4,h5,h6,fun k x hx=>hR _ _ (h7 k x hx)⟩
 | count k=>exact h.trans hk.symm
 | jC k ks us =>
  obtain⟨es,cl,h1,h2,h3⟩:=h
  exact⟨es,cl,by rw[hB,hw _ rfl];exact h1,h2,hR _ _ h3⟩
 | heap hp =>
  obtain⟨h1,h2,h3⟩:=h
  refine⟨by rw[hM];exact h1,by rw[hM,hW];exact h2,fun k hk=>?_⟩
  rw[hM]at hk
  obtain⟨ob,h4,h5⟩:=h3 k hk
  exact⟨ob,by rw[hW,hw _ ⟨k,hk,rfl⟩];exact h4,HO.l7 (fun v u hv=>(hR [v.av i] [u] ⟨hv,trivial⟩).1) h5⟩
 | jy T cs =>
  obtain⟨vs,h1,h2⟩:=h
  exact⟨vs,by rw[hB,hw _ rfl];exact h1,hR _ _ h2⟩
 | bg q =>
  obtain⟨h1,h2,h3⟩:=h
  refine⟨by rw[hM];exact h1,fun b k hk=>?_,?_⟩
  ·rw[hW]at hk;rw[hw b ⟨k,hk⟩];exact h2 b k hk
  ·rw[hB,hW];exact q.mono _ _ _ _ _ _ (Nh hA) (fun b hb=>hw b hb) h3
 | jD x a b l =>
  obtain⟨r,h1,h2⟩:=h
  exact⟨r,(hR [x] [_] ⟨h1,trivial⟩).1,by rw[hB,hw _ rfl];exact h2⟩
theorem Chunk.qM {g g':Gh} {i b:Nat} {c:Chunk} (hB:g'.B i=g.B i) (hV:g'.V i=g.V i) (hW:g'.W i=g.W i) (hM:g'.M i=g.M i):c.own g' i b=c.own g i b:=by
 cases c <;> simp[Chunk.own,hB,hV,hW,hM]
end Go.Proofs.YthnefnlhcijekaaGreat.Fw
namespace Go.Proofs.YthnefnlhcijekaaGreat.Fw
open Go
def jU (l:Env) (K:Env→Prop):Prop:=match l with
 | []=>K []|(k,v)::r=>fV v fun v=>jU r fun r=>K ((k,v)::r)
theorem dn (l:Env) (K:Env→Prop):jU l K=K l:=by
 induction l generalizing K with
 | nil=>rfl
 | cons c r ih=>cases c;simp only[jU,gu,ih]
def iM (l:List Chunk) (K:List Chunk→Prop):Prop:=match l with
 | []=>K []|c::r=>fC c fun c=>iM r fun r=>K (c::r)
theorem bf (l:List Chunk) (K:List Chunk→Prop):iM l K=K l:=by
 induction l generalizing K with
 | nil=>rfl
 | cons c r ih=>simp only[iM,Qi,ih]
def kS (i:Nat):AV→AV
 | .ptr j o=>(match Nat.beq j i with|true=>.undef|false=>.ptr j o)
 | .bl j s x o=>(match Nat.beq j i with|true=>.undef|false=>.bl j s x o)
 | .vec j s o n=>(match Nat.beq j i with|true=>.undef|false=>.vec j s o n)
 | .mp j=>(match Nat.beq j i with|true=>.undef|false=>.mp j)
 | .hp j f=>(match Nat.beq j i with|true=>.undef|false=>.hp j f)
 | .hm j f=>(match Nat.beq j i with|true=>.undef|false=>.hm j f)
 | v=>v
def oz (i:Nat) (t:Ty) (xs:Unit→List t.den):AV→AV
 | .ptr j o=>(match Nat.beq j i with|true=>.undef|false=>.ptr j o)
 | .bl j s x o=>(match Nat.beq j i with|true=>(match Nat.beq s t.size with|true=>.dI t (fun u=>(xs u).getD (x u) t.a8) o|false=>.undef)|false=>.bl j s x o)
 | .vec j s o n=>(match Nat.beq j i with|true=>(match Nat.beq s t.size with|true=>.aG t (fun u=>((xs u).drop (o u)).take (n u))|false=>.undef)|false=>.vec j s o n)
 | .mp j=>(match Nat.beq j i with|true=>.undef|false=>.mp j)
 | .hp j f=>(match Nat.beq j i with|true=>.undef|false=>.hp j f)
 | .hm j f=>(match Nat.beq j i with|true=>.undef|false=>.hm j f)
 | v=>v
def im (i:Nat) (env:Env) (E:List Chunk) (cs:List AV) (K:Env→List Chunk→List AV→Prop):Prop :=
 match af E i with
 | .au T t xs=>jU (bj (oz i t xs) env) fun env=>iM (cY (oz i t xs) (bh E i .none)) fun E=>fL (fq (oz i t xs) cs) fun cs=>K env E cs
 | _=>False
def Cn:List AV→Option Nat
 | []=>none|.vec i _ _ _::_=>some i|_::r=>Cn r
def sX:Nat→Env→List Chunk→List AV→(Env→List Chunk→List AV→Prop)→Prop
 | 0,env,E,cs,K=>K env E cs
 | n+1,env,E,cs,K=>match Cn cs with
  | none=>K env E cs
  | some i=>im i env E cs fun env E cs=>sX n env E cs K
def W4:AV→Bool
 | .undef|.skip|.agg _|.bM _=>false|_=>true
def TE:List AV→Bool
 | []=>true|c::r=>match W4 c with|true=>TE r|false=>false
structure AT (i:Nat) (v:AV) (h:Unit→Hp) (f:Unit→Option (Nat×Nat)) (K:Hp→Prop):Prop where
 h:∃ k off T n c hv h',f ()=some (k,off)∧(h ()).o k=.cells T n c∧off<n∧fo i v hv∧Hp.eb h' ((h ()).set k (.cells T n fun j=>if j=off then hv else c j))∧K h'
structure Ni (P:Program) (t i:Nat) (n:Unit→Int) (v:AV) (h:Unit→Hp) (f:Unit→Nat) (K:Hp→Prop):Prop where
 h:∃ es clock z hv h',(h ()).o (f ())=.map es clock∧iU P t=some z∧fo i v hv∧Hp.eb h' ((h ()).set (f ()) (vc es clock (n ()) hv))∧K h'
structure Nj (P:Program) (t:Nat) (n:Unit→Int) (h:Unit→Hp) (f:Unit→Nat) (K:Hp→Prop):Prop where
 h:∃ es clock z h',(h ()).o (f ())=.map es clock∧iU P t=some z∧Hp.eb h' ((h ()).set (f ()) (.map (b8 es (n ())) clock))∧K h'
structure Yr (P:Program) (t:Nat) (h:Unit→Hp) (f:Unit→Nat) (K:Nat→Prop):Prop where
 h:∃ es clock kt et,(h ()).o (f ())=.map es clock∧aT P t=some (.map kt et)∧K clock
structure W6 (j:Nat) (h:Unit→Hp) (f:Unit→Nat) (since last:Nat) (seen:Unit→List Nat) (K0:Prop) (K:Int→AV→List Nat→Prop):Prop where
 h:∃ es,(h ()).o (f ())=.map es since∧last=since∧(∀ e∈es,e.1<since)∧((∀ e∈es,e.1∈seen ())→K0)∧(∀ b n v,(b,n,v)∈es→b∉seen ()→K n (v.av j) (seen ()++[b]))
def Ge (P:Program) (t:Nat) (x:AV) (env:Env) (E:List Chunk) (K:AV→Env→List Chunk→Prop):Prop:=match x with
 | .hm i f=>(match af E i with
  | .heap h=>Yr P t h f fun clock=>fN (ah E) fun n=>iM (dz E (.jD (.hm i f) clock clock fun _=>[])) fun E=>K (.ptr n 0) env E
  | _=>False)
 | _=>False
def LX (x:AV) (env:Env) (E:List Chunk) (K:AV→Env→List Chunk→Prop):Prop:=match x with
 | .ptr i 0=>(match af E i with
  | .jD (.hm j f) since last seen=>(match af E j with
   | .heap h=>W6 j h f since last seen (K (.bM [.ff]) env E) fun n v Qq=>fV v fun v=>iM (bh E i (.jD (.hm j f) since since fun _=>Qq)) fun E=>K (.bM [.tt,.int .i64 fun _=>n,v]) env E
   | _=>False)
  | _=>False)
 | _=>False
structure W7 (j:Nat) (h:Unit→Hp) (f:Unit→Nat) (last:Nat) (seen:Unit→List Nat) (K:Int→AV→Prop):Prop where
 h:∃ es b e,(h ()).o (f ())=.map es last∧(seen ()).getLast?=some b∧es.find? (fun e=>e.1 == b)=some e∧K e.2.1 (e.2.2.av j)
def Gf (x:AV) (env:Env) (E:List Chunk) (K:AV→Env→List Chunk→Prop):Prop:=match x with
 | .ptr i 0=>(match af E i with
  | .jD (.hm j f) since last seen=>(match af E j with
   | .heap h=>W7 j h f last seen fun n v=>fV v fun v=>K (.bM [.int .i64 fun _=>n,v]) env E
   | _=>False)
  | _=>False)
 | _=>False
def Gg (t:Ty):Nat→List AV→((Unit→List t.den)→Prop)→Prop
 | 0,[],K=>K (fun _=>[])
 | 0,_::_,_=>False
 | n+1,cs,K=>dec t cs fun x r=>Gg t n r fun xs=>K (fun u=>x u::xs u)
section
variable (P:Program)
def JU (t:Ty) (E:List Chunk) (v:AV) (K:(Unit→List t.den)→Prop):Prop :=
 match v with
 | .aY=>K (fun _=>[])
 | .aG t' xs=>(match decEq t' t with|isTrue h=>nR h xs K|isFalse _=>False)
 | .vec i s o n=>(match af E i with
  | .au _ t' xs=>(match decEq t' t with|isTrue h=>(match Nat.beq s t.size with|true=>nR h xs fun xs=>K (fun u=>((xs u).drop (o u)).take (n u))|false=>False)|isFalse _=>False)
  | _=>False)
 | _=>False
def lN {α:Type} (xs:Unit→List α) (o n:Unit→Nat) (ys:Unit→List α):Unit→List α:=fun u=>(xs u).take (o u)++ys u++(xs u).drop (o u+n u)
def Nk (e:Nat) (n:Unit→Int) (env:Env) (E:List Chunk) (K:AV→Env→List Chunk→Prop):Prop :=
 match gL P 6 e,bT P e,iT P e,gv P e with
 | some ty,some sz,some vD,some z=>(match Nat.beq ty.size sz,gY (yf z)with
  | true,some cs=>wH ty cs fun d=>Ob (fun u=>0≤n u∧n u≤140737488355328∧n u*vD≤140737488355328)∧(n ()=0→K .aY env E) ∧
    (n ()≠0→fN (ah E) fun i=>iM (dz E (.au e ty fun u=>List.replicate (n u).toNat (d u))) fun E=>K (.vec i sz (fun _=>0) (fun u=>(n u).toNat)) env E)
  | _,_=>False)
 | _,_,_,_=>False
def cy (b:Builtin) (ts:List Nat) (az:List AV) (env:Env) (E:List Chunk) (K:AV→Env→List Chunk→Prop):Prop :=
 match b with
 | .append=>(match ts,az with
  | [t,t2],[s,x]=>(match Nat.beq t t2,aT P t with
   | true,some (.slice e)=>(match gL P 6 e,iT P e,gv P e with
    | some ty,some vD,some z=>(match bT P e with
     | some sz=>(match Nat.beq sz ty.size with
      | true=>(match Nat.beq z.cells.size sz with
       | true=>JU ty E x fun ys=>(match s with
        | .aY=>Ob (fun u=>(ys u).length*vD≤140737488355328)∧fN (ah E) fun n=>iM (dz E (.au e ty ys)) fun E=>K (.vec n sz (fun _=>0) (fun u=>(ys u).length)) env E
        | .vec i s o n=>(match af E i with
         | .au T t' xs=>(match decEq t' ty with
          | isTrue h=>(match Nat.beq s sz,Nat.beq T e with
           | true,true=>Ob (fun u=>o u=0∧n u+(ys u).length≤140737488355328∧(n u+(ys u).length)*vD≤140737488355328) ∧
            nR h xs fun xs=>jU (bj (kS i) env) fun env=>iM (cY (kS i) (bh E i (.au e ty fun u=>(xs u).take (n u)++ys u))) fun E=>K (.vec i sz (fun _=>0) (fun u=>n u+(ys u).length)) env E
           | _,_=>False)
          | isFalse _=>False)
         | _=>False)
        | _=>False)
       | false=>False)
      | false=>False)
     | none=>False)
    | _,_,_=>False)
   | false,some (.slice e)=>(match s,x with
    | .aY,.int .i64 n=>(match aT P t2 with|some (.int .i64)=>Nk P e n env E K|_=>False)
    | s,.str y=>(match aT P t2,gL P 6 e,bT P e,iT P e,gv P e with
     | some .string,some (.int .u8),some 1,some 1,some (.int .u8 0)=>(match s with
      | .aY=>Ob (fun u=>(y u).length≤140737488355328)∧fN (ah E) fun n=>iM (dz E (.au e (.int .u8) fun u=>(y u).map fun b=>(b.toNat:Int))) fun E=>K (.vec n 1 (fun _=>0) (fun u=>(y u).length)) env E
      | .vec i 1 o n=>(match af E i with
       | .au T (.int .u8) xs=>(match Nat.beq T e with
        | true=>Ob (fun u=>o u=0∧n u+(y u).length≤140737488355328) ∧
         jU (bj (kS i) env) fun env=>iM (cY (kS i) (bh E i (.au e (.int .u8) fun u=>(xs u).take (n u)++(y u).map fun b=>(b.toNat:Int)))) fun E=>K (.vec i 1 (fun _=>0) (fun u=>n u+(y u).length)) env E
        | false=>False)
       | _=>False)
      | _=>False)
     | _,_,_,_,_=>False)
    | _,_=>False)
   | _,_=>False)
  | _,_=>False)
 | .copy=>(match ts,az with
  | t::_,[.vec i s o n,x]=>(match aT P t with
   | some (.slice e)=>(match bT P e with
    | some sz=>(match af E i with
     | .au T ty xs=>(match Nat.beq sz ty.size with
      | true=>(match Nat.beq s sz with
       | true=>JU ty E x fun ys=>iM (bh E i (.au T ty (lN xs o (fun u=>min (ys u).length (n u)) fun u=>(ys u).take (n u)))) fun E=>K (.int .i64 fun u=>(min (ys u).length (n u):Nat)) env E
       | false=>False)
      | false=>False)
     | _=>False)
    | none=>False)
   | _=>False)
  | _,_=>False)
 | .delete=>(match ts,az with
  | t::_,[.hm i f,.int .i64 n]=>(match af E i with
   | .heap h=>Nj P t n h f fun h'=>iM (bh E i (.heap fun _=>h')) fun E=>K (.bM []) env E
   | _=>False)
  | _,_=>False)
 | .unsafeString=>(match ts,az with
  | [pt,it],[.bl i 1 idx 0,.int .i64 m]=>(match aT P pt with
   | some (.pointer e)=>(match bT P e,af E i with
    | some 1,.au T (.int .u8) xs=>(match Nat.beq T e with
     | true=>Ob (fun u=>idx u=0∧0<m u∧m u≤(xs u).length∧(xs u).length≤140737488355328∧(∀ z∈xs u,0≤z∧z<256)) ∧
      jU (bj (kS i) env) fun env=>iM (cY (kS i) (bh E i .none)) fun E=>K (.str fun u=>((xs u).take (m u).toNat).map fun z=>UInt8.ofNat z.toNat) env E
     | false=>False)
    | _,_=>False)
   | _=>False)
  | _,_=>False)
 | .clear=>(match ts,az with
  | t::_,[.vec i s o n]=>(match aT P t with
   | some (.slice e)=>(match bT P e,gv P e with
    | some sz,some z=>(match af E i with
     | .au T ty xs=>(match Nat.beq sz ty.size with
      | true=>(match Nat.beq s sz with
       | true=>(match Nat.beq z.cells.size sz with
        | true=>(match gY (yf z)with
         | some cs=>wH ty cs fun d=>iM (bh E i (.au T ty (lN xs o n fun u=>List.replicate (n u) (d u)))) fun E=>K (.bM []) env E
         | none=>False)
        | false=>False)
       | false=>False)
      | false=>False)
     | _=>False)
    | _,_=>False)
   | _=>False)
  | _,_=>False)
 | _=>False
def Co (n:Int):List Int→Bool
 | []=>true|k::r=>(match decEq k n with|isTrue _=>false|isFalse _=>Co n r)
def wP (t:Nat) (k:IntKind) (n:Int) (m x:AV) (env:Env) (E:List Chunk) (K:AV→Env→List Chunk→Prop):Prop :=
 match m with
 | .mp i=>(match aT P t,af E i with
  | some (.map kt _),.jC k' ks vs=>(match aT P kt,decEq k k',Co n ks with
   | some (.int _),isTrue _,true=>iM (bh E i (.jC k' (ks++[n]) (vs++[x]))) fun E=>K .skip env E
   | _,_,_=>False)
  | _,_=>False)
 | _=>False
def eV (op:Op) (env:Env) (E:List Chunk) (K:AV→Env→List Chunk→Prop):Prop :=
 match op with
 | .alloc e=>(match gv P e with
  | some z=>(match gY (yf z)with
   | some cs=>fL cs fun cs=>fN (ah E) fun n=>iM (dz E (.cells e cs)) fun E=>K (.ptr n 0) env E
   | none=>False)
  | none=>False)
 | .box e x=>(match gY (ev env x)with
  | some cs=>fN (ah E) fun n=>iM (dz E (.cells e cs)) fun E=>K (.ptr n 0) env E
  | none=>False)
 | .store t x v=>(match gY (ev env v)with
  | some cs=>(match bT P t with
   | some sz=>(match Nat.beq cs.length sz,TE cs with
    | true,true=>(match ev env x with
     | .ptr i g=>(match af E i with
      | .cells T ds=>(match lJ g ds cs with|some ds=>fL ds fun ds=>iM (bh E i (.cells T ds)) fun E=>K .skip env E|none=>False)
      | _=>False)
     | .bl i s j g=>sX 3 env E (.bl i s j g::cs) fun env E l=>(match l with
      | .bl i s j g::cs=>(match af E i with
       | .au T ty xs=>(match Nat.beq ty.size s with
        | true=>(match lJ g (enc ty (fun u=>(xs u).getD (j u) ty.a8) []) cs with
         | some ds=>wH ty ds fun y=>iM (bh E i (.au T ty fun u=>(xs u).set (j u) (y u))) fun E=>K .skip env E
         | none=>False)
        | false=>False)
       | .row T ty xs=>(match Nat.beq ty.size s with
        | true=>(match lJ g (enc ty (fun u=>(xs u).getD (j u) ty.a8) []) cs with
         | some ds=>wH ty ds fun y=>iM (bh E i (.row T ty fun u=>(xs u).set (j u) (y u))) fun E=>K .skip env E
         | none=>False)
        | false=>False)
       | _=>False)
      | _=>False)
     | .hp i f=>(match cs,af E i with
      | [c],.heap h=>AT i c h f fun h'=>iM (bh E i (.heap fun _=>h')) fun E=>K .skip env E
      | _,_=>False)
     | _=>False)
    | _,_=>False)
   | none=>False)
  | none=>False)
 | .buildSlice t len parts=>(match aT P t with
  | some (.slice e)=>(match bT P e,gv P e,ou env parts.toList with
   | some sz,some z,some ps=>(match Nat.ble len 1000,Nat.ble sz 1000 with
    | true,true=>(match gY (yf z)with
     | some zc=>(match Nat.beq zc.length sz,nS (fun i=>some (i*sz,sz)) ((List.replicate len zc).flatten) ps with
      | true,some cs=>fL cs fun cs=>(match gL P 6 e with
       | some ty=>(match Nat.beq ty.size sz with
        | true=>sX 8 env E cs fun env E cs=>Gg ty len cs fun xs=>fN (ah E) fun n=>iM (dz E (.au e ty xs)) fun E=>K (.vec n sz (fun _=>0) (fun _=>len)) env E
        | false=>False)
       | none=>fN (ah E) fun n=>iM (dz E (.cells e cs)) fun E=>K (.vec n sz (fun _=>0) (fun _=>len)) env E)
      | _,_=>False)
     | none=>False)
    | _,_=>False)
   | _,_,_=>False)
  | _=>False)
 | .makeMap t none=>(match aT P t with
  | some (.map kt _)=>(match aT P kt with
   | some (.int k)=>fN (ah E) fun n=>iM (dz E (.jC k [] [])) fun E=>K (.mp n) env E
   | _=>False)
  | _=>False)
 | .insert t m (.const (.int k n)) x=>wP P t k n (ev env m) (ev env x) env E K
 | .mapUpdate t m k x=>(match ev env m,ev env k with
  | .hm i f,.int .i64 n=>(match af E i with
   | .heap h=>Ni P t i n (ev env x) h f fun h'=>iM (bh E i (.heap fun _=>h')) fun E=>K .skip env E
   | _=>False)
  | _,_=>False)
 | .range t x=>Ge P t (ev env x) env E K
 | .next x false=>LX (ev env x) env E K
 | .entry x=>Gf (ev env x) env E K
 | .makeSlice t l c=>(match ev env l,ev env c with
  | .int .i64 l,.int .i64 c=>(match aT P t with
   | some (.slice e)=>(match gL P 6 e,bT P e,iT P e,gv P e with
    | some ty,some sz,some vD,some z=>(match Nat.beq ty.size sz with
     | true=>(match gY (yf z)with
      | some cs=>wH ty cs fun d=>Ob (fun u=>0≤l u∧l u≤c u∧c u≤281474976710656∧vD*c u≤281474976710656)∧fN (ah E) fun n=>iM (dz E (.au e ty fun u=>List.replicate (l u).toNat (d u))) fun E=>K (.vec n sz (fun _=>0) (fun u=>(l u).toNat)) env E
      | none=>False)
     | false=>False)
    | _,_,_,_=>False)
   | _=>False)
  | _,_=>False)
 | .convert src dst x=>(match aT P dst,ev env x with
  | some (.slice e),.str s=>(match aT P e with
   | some (.int .u8)=>Ob (fun u=>(s u).length≤140737488355328)∧K (.aG (.int .u8) fun u=>(s u).map fun b=>(b.toNat:Int)) env E
   | _=>False)
  | _,_=>False)
 | .call { callee:=.builtin b,args,argTypes }=>cy P b argTypes.toList (qF env args.toList) env E K
 | _=>False
end
end Go.Proofs.YthnefnlhcijekaaGreat.Fw
namespace Go.Proofs.YthnefnlhcijekaaGreat.Fw
open Go Go.RowKit
structure jz (a b:World):Prop where
 o:b.output=a.output
 d:a.drawn≤b.drawn
theorem jz.trans {a b c:World} (h:jz b c) (h':jz a b):jz a c:=⟨h.o.trans h'.o,abW h'.d h.d⟩
theorem jz.refl (a:World):jz a a:=⟨rfl,abr _⟩
structure bU where
 g:Gh
 E:List Chunk
 w:World
def bU.owns (B:bU) (b:Nat):Prop:=∃ i,(af B.E i).own B.g i b
theorem jV {E:List Chunk} {i:Nat} (h:dj (af E i)=true):i<ah E:=dV (fun e=>by rw[e]at h;cases h)
def Jp:Chunk→Bool
 | .au _ _ _=>true|.jy _ _=>true|_=>false
theorem AU {c:Chunk} (h:dj c=true):Jp c=false:=by cases c <;> first|rfl|cases h
theorem sy (f:AV→AV) (c:Chunk):Jp (dv f c)=Jp c:=by cases c <;> rfl
def Qr:Chunk→Bool
 | .jy _ _=>true|_=>false
theorem Gi {E' E:List Chunk} (h1:∀ i T' t xs,dj (af E' i)=true→af E i=.au T' t xs→False) (h2:∀ i T cs,dj (af E' i)=true→af E i=.jy T cs→False):∀ i,dj (af E' i)=true→Jp (af E i)=false:=fun i hi=>by
 cases hc:af E i with
 | au T t xs=>exact(h1 i T t xs hi hc).elim
 | jy T cs=>exact(h2 i T cs hi hc).elim
 | none=>rfl
 | cells _ _=>rfl
 | count _=>rfl
 | jC _ _ _=>rfl
 | row _ _ _=>rfl
 | heap _=>rfl
 | jD _ _ _ _=>rfl
 | bg _=>rfl
theorem jE {c:Chunk} {T:TypeId} {t:Ty} {xs:Unit→List t.den} (h:Jp c=false) (e:c=.au T t xs):False:=by subst e;cases h
theorem sY {c:Chunk} {T:TypeId} {cs:List AV} (h:Jp c=false) (e:c=.jy T cs):False:=by subst e;cases h
structure Ext (B:bU) (g:Gh) (E:List Chunk) (w:World):Prop where
 os:w.os=B.w.os
 tape:w.tape=B.w.tape
 output:jz B.w w
 size:B.w.heap.size≤w.heap.size
 cE:∀ b,b<B.w.heap.size→¬B.owns b→w.heap[b]?=B.w.heap[b]?
 dA:∀ b o,B.g.Φ b=some o→g.Φ b=some o
 fS:∀ b o,g.Φ b=some o→B.g.Φ b=some o∨B.w.heap.size≤b∨B.owns b
 own:∀ i b,(af E i).own g i b→B.w.heap.size≤b∨B.owns b
 n:ah B.E≤g.n
 ids:∀ i,dj (af B.E i)=true→g.B i=B.g.B i∧g.V i=B.g.V i∧g.L i=B.g.L i
 kk:g.k=B.g.k
 nJ:∀ i,dj (af B.E i)=true→Jp (af E i)=false
 r9:∀ i k,dj (af B.E i)=true→k<B.g.M i→g.W i k=B.g.W i k
 qN:∀ i,dj (af B.E i)=true→B.g.M i≤g.M i
structure Inv (B:bU) (g:Gh) (env:Env) (E:List Chunk) (tmps:Array Value) (w:World):Prop where
 er:ER g env tmps
 aZ:fg g E w
 ext:Ext B g E w
structure qO (w w':World) (b:Nat) (o:Obj):Prop where
 os:w'.os=w.os
 tape:w'.tape=w.tape
 output:jz w w'
 size:w'.heap.size=w.heap.size
 at_:w'.heap[b]?=some o
 lC:∀ k,k≠b→w'.heap[k]?=w.heap[k]?
structure sZ (w w':World) (o:Obj):Prop where
 os:w'.os=w.os
 tape:w'.tape=w.tape
 output:jz w w'
 size:w'.heap.size=w.heap.size+1
 at_:w'.heap[w.heap.size]?=some o
 lC:∀ k,k<w.heap.size→w'.heap[k]?=w.heap[k]?
structure yw (w w':World):Prop where
 os:w'.os=w.os
 tape:w'.tape=w.tape
 output:jz w w'
 heap:w'.heap=w.heap
theorem sZ.push (w:World) (o:Obj):sZ w { w with heap:=w.heap.push o } o :=
 ⟨rfl,rfl,⟨rfl,abr _⟩,by simp,by simp,fun k hk=>by show(w.heap.push o)[k]?=_;rw[Array.getElem?_push,if_neg (by omega)]⟩
theorem bt {w:World} {b:Nat} {o:Obj} (h:w.heap[b]?=some o):b<w.heap.size:=(aed.1 h).1
theorem ft {g:Gh} {i:Nat} {w:World} {c:Chunk} {b:Nat} (h:c.sat g i w) (hb:c.own g i b):b<w.heap.size:=by
 cases c with
 | none=>cases hb
 | cells T cs=>obtain⟨vs,h1,_⟩:=h;cases hb;exact bt h1
 | au T t xs =>
  obtain⟨_,_,h3⟩:=h
  cases hV:g.V i with
  | none=>simp[Chunk.own,hV]at hb
  | some cap =>
   obtain⟨vs,h4,_⟩:=h3 cap hV
   simp[Chunk.own,hV]at hb
   subst hb
   exact bt h4
 | row T t xs =>
  obtain⟨_,_,h3⟩:=h
  cases hV:g.V i with
  | none=>simp[Chunk.own,hV]at hb
  | some cap =>
   obtain⟨vs,h4,_⟩:=h3 cap hV
   simp[Chunk.own,hV]at hb
   subst hb
   exact bt h4
 | count k=>cases hb
 | jC k ks us=>obtain⟨es,cl,h1,_⟩:=h;cases hb;exact bt h1
 | heap hp =>
  obtain⟨k,hk,rfl⟩:=hb
  obtain⟨ob,h1,_⟩:=h.2.2 k hk
  exact bt h1
 | jD x a b l=>obtain⟨r,_,h1⟩:=h;cases hb;exact bt h1
 | jy T cs=>obtain⟨vs,h1,_⟩:=h;cases hb;exact bt h1
 | bg q=>obtain⟨k,hk⟩:=hb;obtain⟨o,ho,_⟩:=h.2.1 b k hk;exact bt ho
def AW:Chunk→Bool
 | .heap _=>false|.bg _=>false|_=>true
theorem JV {g:Gh} {i:Nat} {c:Chunk} {b b':Nat} (h:AW c=true) (hb:c.own g i b) (dJ:c.own g i b'):b=b':=by
 cases c with
 | none=>cases hb
 | cells T cs=>exact adK (Eq.symm hb) dJ
 | au T t xs=>exact hb.2.symm.trans dJ.2
 | row T t xs=>exact hb.2.symm.trans dJ.2
 | count k=>cases hb
 | jC k ks us=>exact adK (Eq.symm hb) dJ
 | heap hp=>cases h
 | jD x a b l=>exact adK (Eq.symm hb) dJ
 | jy T cs=>exact adK (Eq.symm hb) dJ
 | bg q=>cases h
section
variable {B:bU} {g:Gh} {env:Env} {E:List Chunk} {tmps:Array Value} {w w':World}
theorem fg.same (h:fg g E w) (hw:w'.heap=w.heap):fg g E w' :=
 ⟨h.len,fun b o hb=>by rw[hw];exact h.dA b o hb,fun i=>Chunk.fF (fun _ _ _ h=>h) (fun _ _ h=>h) rfl rfl rfl rfl rfl rfl (fun b _=>by rw[hw]) (h.sat i),h.lL,h.dQ⟩
theorem Ext.same (h:Ext B g E w) (hw:yw w w'):Ext B g E w' :=
 ⟨hw.os.trans h.os,hw.tape.trans h.tape,hw.output.trans h.output,by rw[hw.heap];exact h.size,fun b h1 h2=>by rw[hw.heap];exact h.cE b h1 h2,h.dA,h.fS,h.own,h.n,h.ids,h.kk,h.nJ,h.r9,h.qN⟩
theorem Inv.same (h:Inv B g env E tmps w) (hw:yw w w'):Inv B g env E tmps w':=⟨h.er,h.aZ.same hw.heap,h.ext.same hw⟩
theorem ER.put (h:ER g env tmps) {d:Nat} {v:AV} {u:Value} (hr:R g v u) (hd:d<tmps.size):ER g ((d,v)::env) (tmps.setIfInBounds d u):=by
 intro t
 simp only[look]
 split
 ·rename_i hb
  have:d=t:=abl hb
  subst this
  simpa [hd]using hr
 ·rename_i hb
  have bE:d≠t:=fun e=>by subst e;simp at hb
  have:=h t
  rw[abJ]at this ⊢
  rwa [ac1 bE]
theorem Inv.put (h:Inv B g env E tmps w) {d:Nat} {v:AV} {u:Value} (hr:R g v u) (hd:d<tmps.size):Inv B g ((d,v)::env) E (tmps.setIfInBounds d u) w:=⟨h.er.put hr hd,h.aZ,h.ext⟩
theorem ER.mono {g':Gh} (h:ER g env tmps) (hg:g.le g'):ER g' env tmps:=fun t=>(h t).mono hg
def Gh.add (g:Gh) (b:Nat) (v:Option Nat) (l:Nat):Gh :=
 { n:=g.n+1,Φ:=g.Φ,B:=fun i=>if i=g.n then b else g.B i,V:=fun i=>if i=g.n then v else g.V i,L:=fun i=>if i=g.n then l else g.L i,k:=g.k,W:=g.W,M:=g.M }
theorem Gh.jW (g:Gh) (b:Nat) (v:Option Nat) (l:Nat):g.le (g.add b v l) :=
 ⟨adh _,fun _ _ h=>h,fun i hi=>by simp[Gh.add,Nat.ne_of_lt hi],fun i hi=>by simp[Gh.add,Nat.ne_of_lt hi],fun i hi=>by simp[Gh.add,Nat.ne_of_lt hi],rfl,fun _ _ _ _=>rfl,fun _ _=>abr _⟩
theorem Inv.new (h:Inv B g env E tmps w) {c:Chunk} {b:Nat} {v:Option Nat} {l:Nat} (Qs:w'.os=w.os) (Gj:w'.tape=w.tape) (yx:jz w w') (cv:w.heap.size≤w'.heap.size)
  (s0:∀ k,k<w.heap.size→w'.heap[k]?=w.heap[k]?) (hc:c.sat (g.add b v l) g.n w') (hb:∀ b',c.own (g.add b v l) g.n b'→w.heap.size≤b') :
  Inv B (g.add b v l) env (dz E c) tmps w':=by
 have hle:=g.jW b v l
 have hlen:=h.aZ.len
 have nX:∀ i,i<g.n→(af (dz E c) i)=af E i:=fun i hi=>by rw[l5,if_neg (by omega)]
 have new:af (dz E c) g.n=c:=by rw[l5,if_pos (by omega)]
 have out:∀ i,g.n<i→af (dz E c) i=.none:=fun i hi=>by rw[l5,if_neg (by omega)];exact kR _ _ (by omega)
 have AX:∀ i,i<g.n→∀ (d:Chunk) b',d.own (g.add b v l) i b'=d.own g i b':=fun i hi d b'=>Chunk.qM (hle.B i hi) (hle.V i hi) rfl rfl
 have LY:∀ i b',i<g.n→(af E i).own g i b'→b'<w.heap.size:=fun i b' _ dJ=>ft (h.aZ.sat i) dJ
 refine⟨h.er.mono hle,⟨by rw[l6];simp[Gh.add,hlen],fun b' o dJ=>?_,fun i=>?_,fun i j b' hi hj=>?_,fun i b' hi=>?_⟩,⟨Qs.trans h.ext.os,Gj.trans h.ext.tape,yx.trans h.ext.output,abW h.ext.size cv,fun b' h1 h2=>?_,h.ext.dA,h.ext.fS,fun i b' hi=>?_,abW h.ext.n (adh _),fun i hi=>?_,h.ext.kk,fun i hi=>?_,h.ext.r9,h.ext.qN⟩⟩
 ·have:=h.aZ.dA b' o dJ
  rw[s0 b' (bt this)];exact this
 ·rcases acT i g.n with hi|hi|hi
  ·rw[nX i hi]
   exact Chunk.fF (fun _ _ _ h=>h.mono hle.dA) (fun _ _ h=>h.mono hle) (hle.B i hi) (hle.V i hi) (hle.L i hi) hle.k rfl rfl (fun b' dJ=>s0 b' (LY i b' hi dJ)) (h.aZ.sat i)
  ·subst hi;rw[new];exact hc
  ·rw[out i hi];trivial
 ·have key:∀ i b',(af (dz E c) i).own (g.add b v l) i b'→(i<g.n∧(af E i).own g i b'∧b'<w.heap.size)∨(i=g.n∧w.heap.size≤b'):=by
   intro i b' hi
   rcases acT i g.n with h'|h'|h'
   ·rw[nX i h',AX i h']at hi;exact .inl ⟨h',hi,LY i b' h' hi⟩
   ·subst h';rw[new]at hi;exact .inr ⟨rfl,hb b' hi⟩
   ·rw[out i h']at hi;cases hi
  rcases key i b' hi with⟨h1,h2,h3⟩|⟨h1,h2⟩ <;> rcases key j b' hj with⟨h4,h5,h6⟩|⟨h4,h5⟩
  ·exact h.aZ.lL i j b' h2 h5
  ·omega
  ·omega
  ·omega
 ·show g.Φ b'=Option.none
  rcases acT i g.n with h'|h'|h'
  ·rw[nX i h',AX i h']at hi;exact h.aZ.dQ i b' hi
  ·subst h'
   rw[new]at hi
   have:=hb b' hi
   cases hp:g.Φ b' with
   | none=>rfl
   | some o=>have:=bt (h.aZ.dA b' o hp);omega
  ·rw[out i h']at hi;cases hi
 ·rw[s0 b' (abB h1 h.ext.size)];exact h.ext.cE b' h1 h2
 ·rcases acT i g.n with h'|h'|h'
  ·rw[nX i h',AX i h']at hi;exact h.ext.own i b' hi
  ·subst h';rw[new]at hi;exact .inl (abW h.ext.size (hb b' hi))
  ·rw[out i h']at hi;cases hi
 ·have bm:i<g.n:=abB (jV hi) h.ext.n
  rw[hle.B i bm,hle.V i bm,hle.L i bm];exact h.ext.ids i hi
 ·have bm:i<g.n:=abB (jV hi) h.ext.n
  rw[nX i bm];exact h.ext.nJ i hi
theorem Inv.Qt (h:Inv B g env E tmps w) {i:Nat} {b:Nat} {o:Obj} {c:Chunk} (hb:(af E i).own g i b) (hw:qO w w' b o) (hc:c.sat g i w') (qP:∀ b',c.own g i b'→(af E i).own g i b') (hk:∀ T t xs,c=.au T t xs→∃ T' t' Jq,af E i=.au T' t' Jq) (Eg:Qr c=false:=by rfl):Inv B g env (bh E i c) tmps w':=by
 have hi:i<ah E:=AS hb
 have hblk:∀ j b',(af (bh E i c) j).own g j b'→(af E j).own g j b':=by
  intro j b' hj
  rw[bC]at hj
  split at hj
  ·rename_i cD;rw[←cD.1]at hj ⊢;exact qP b' hj
  ·exact hj
 refine⟨h.er,⟨by rw[ck];exact h.aZ.len,fun b' o' dJ=>?_,fun j=>?_,fun j k b' hj hk=>?_,fun j b' hj=>?_⟩,⟨hw.os.trans h.ext.os,hw.tape.trans h.ext.tape,hw.output.trans h.ext.output,by rw[hw.size];exact h.ext.size,fun b' h1 h2=>?_,h.ext.dA,h.ext.fS,fun j b' hj=>?_,h.ext.n,h.ext.ids,h.ext.kk,fun j hj=>?_,h.ext.r9,h.ext.qN⟩⟩
 ·have bE:b'≠b:=fun e=>by subst e;rw[h.aZ.dQ i b' hb]at dJ;cases dJ
  rw[hw.lC b' bE];exact h.aZ.dA b' o' dJ
 ·rw[bC]
  split
  ·rename_i cD;rw[←cD.1];exact hc
  ·rename_i cD
   refine Chunk.fF (fun _ _ _ h=>h) (fun _ _ h=>h) rfl rfl rfl rfl rfl rfl (fun b' dJ=>?_) (h.aZ.sat j)
   refine hw.lC b' (fun e=>?_)
   subst e
   exact cD ⟨h.aZ.lL i j b' hb dJ,hi⟩
 ·exact h.aZ.lL j k b' (hblk _ _ hj) (hblk _ _ hk)
 ·exact h.aZ.dQ j b' (hblk _ _ hj)
 ·have bE:b'≠b:=fun e=>by
   subst e
   rcases h.ext.own i b' hb with h3|h3
   ·omega
   ·exact h2 h3
  rw[hw.lC b' bE];exact h.ext.cE b' h1 h2
 ·exact h.ext.own j b' (hblk _ _ hj)
 ·rw[bC]
  split
  ·rename_i cD
   have Ys:=h.ext.nJ j hj
   cases c with
   | au T t xs =>
    obtain⟨T2,t2,xs2,h2⟩:=hk _ _ _ rfl
    rw[cD.1]at h2
    exact(jE Ys h2).elim
   | jy T cs=>cases Eg
   | bg q=>rfl
   | none=>rfl
   | cells _ _=>rfl
   | count _=>rfl
   | jC _ _ _=>rfl
   | row _ _ _=>rfl
   | heap _=>rfl
   | jD _ _ _ _=>rfl
  ·exact h.ext.nJ j hj
theorem Inv.set (h:Inv B g env E tmps w) {i:Nat} {b:Nat} {o:Obj} {c:Chunk} (hb:(af E i).own g i b) (hw:qO w w' b o) (hc:c.sat g i w') (qP:c.own g i b) (hk:∀ T t xs,c=.au T t xs→∃ T' t' Jq,af E i=.au T' t' Jq) (h1:AW c=true:=by rfl) (Eg:Qr c=false:=by rfl):Inv B g env (bh E i c) tmps w' :=
 h.Qt hb hw hc (fun b' dJ=>by rw[←JV h1 qP dJ];exact hb) hk Eg
theorem HO.l8 {g:Gh} {i:Nat} {o o':HO} {ob:Obj} (hl:o'.eb o) (h:o.sat g i ob):o'.sat g i ob:=by
 cases o <;> cases o' <;> simp only[HO.eb]at hl
 ·obtain⟨rfl,rfl,h1⟩:=hl
  obtain⟨vs,rfl,h2,h3⟩:=h
  exact⟨vs,rfl,h2,fun j u hu=>by rw[h1 j (by have:=(aed.1 hu).1;omega)];exact h3 j u hu⟩
 ·obtain⟨rfl,rfl⟩:=hl;exact h
theorem Inv.eN (h:Inv B g env E tmps w) {i k:Nat} {ob:Obj} {o:HO} {hp:Unit→Hp} {h':Hp} (hE:af E i=.heap hp) (hk:k<g.M i) (hw:qO w w' (g.W i k) ob) (ho:o.sat g i ob) (hl:h'.eb ((hp ()).set k o)) :
  Inv B g env (bh E i (.heap fun _=>h')) tmps w':=by
 have hs:=h.aZ.sat i
 rw[hE]at hs
 obtain⟨h1,h2,h3⟩:=hs
 have cT:∀ k,k<g.M i→(af E i).own g i (g.W i k):=fun k hk=>by rw[hE];exact⟨k,hk,rfl⟩
 refine h.Qt (cT k hk) hw ⟨h1.trans hl.1.symm,h2,fun j hj=>?_⟩ (fun b' dJ=>by rw[hE];exact dJ) (fun T t xs hc=>by cases hc)
 have W8:=hl.2 j (by rw[hl.1];show j<(hp ()).m;omega)
 by_cases Uw:j=k
 ·subst Uw
  refine⟨ob,hw.at_,HO.l8 W8 ?_⟩
  simpa [Hp.set]using ho
 ·obtain⟨Gk,h4,h5⟩:=h3 j hj
  refine⟨Gk,by rw[hw.lC _ (fun e=>Uw (h2 _ _ hj hk e))];exact h4,HO.l8 W8 ?_⟩
  simpa [Hp.set,Uw]using h5
theorem Inv.Ef {g':Gh} (h:Inv B g env E tmps w) (f:AV→AV) {i:Nat} {c:Chunk} (TF:∃ T t xs,af E i=.au T t xs) (hn:g'.n=g.n) (W9:g'.k=g.k) (hW:g'.W=g.W) (hM:g'.M=g.M) (hΦ:∀ b o,g.Φ b=some o→g'.Φ b=some o)
  (hf:∀ v u,isRef v=true→R g v u→R g' (f v) u) (hi:i<ah E) (hB:∀ j,j≠i→g'.B j=g.B j∧g'.V j=g.V j∧g'.L j=g.L j)
  (Qs:w'.os=w.os) (Gj:w'.tape=w.tape) (yx:jz w w') (cv:w.heap.size≤w'.heap.size)
  (s0:∀ k,k<w.heap.size→(∀ b,(af E i).own g i b→k≠b)→w'.heap[k]?=w.heap[k]?)
  (hc:(dv f c).sat g' i w') (qP:∀ b,c.own g' i b→w.heap.size≤b∨(af E i).own g i b)
  (oA:∀ b o,g'.Φ b=some o→g.Φ b=some o∨((af E i).own g i b∧w'.heap[b]?=some o∧¬c.own g' i b)) :
  Inv B g' (bj f env) (cY f (bh E i c)) tmps w':=by
 have Ux:∀ (g:Gh) (j:Nat) (c:Chunk) b,(dv f c).own g j b=c.own g j b:=fun g j c b=>by cases c <;> rfl
 have cA:∀ j,af (cY f (bh E i c)) j=if i=j then dv f c else dv f (af E j):=by
  intro j
  rw[fE,bC]
  by_cases cD:i=j
  ·subst cD;simp[hi]
  ·simp[cD]
 have hblk:∀ j b,(af (cY f (bh E i c)) j).own g' j b=if i=j then c.own g' i b else(af E j).own g j b:=by
  intro j b
  rw[cA]
  by_cases cD:i=j
  ·subst cD;simp[Ux]
  ·have:=hB j (Ne.symm cD)
   simp[cD,Ux,Chunk.qM (b:=b) this.1 this.2.1 (congrFun hW j) (congrFun hM j)]
 have iX:∀ j b,i≠j→(af E j).own g j b→∀ b',(af E i).own g i b'→b≠b':=by
  intro j b cD hj b' dJ e
  subst e
  exact cD (h.aZ.lL i j b dJ hj)
 refine⟨fun t=>?_,⟨by rw[eK,ck,hn];exact h.aZ.len,fun b o hb=>?_,fun j=>?_,fun j k b hj hk=>?_,fun j b hj=>?_⟩,⟨Qs.trans h.ext.os,Gj.trans h.ext.tape,yx.trans h.ext.output,abW h.ext.size cv,fun b h1 h2=>?_,fun b o hb=>hΦ b o (h.ext.dA b o hb),fun b o hb=>?_,fun j b hj=>?_,by rw[hn];exact h.ext.n,fun j hj=>?_,W9.trans h.ext.kk,fun j hj=>?_,fun j k hj hk=>by rw[hW];exact h.ext.r9 j k hj hk,fun j hj=>by rw[hM];exact h.ext.qN j hj⟩⟩
 ·rw[cZ];exact(h.er t).map f hΦ hf
 ·rcases oA b o hb with hb|⟨_,hb,_⟩
  ·have hs:=h.aZ.dA b o hb
   rw[s0 b (bt hs) (fun b' dJ e=>by subst e;rw[h.aZ.dQ i b dJ]at hb;cases hb)];exact hs
  ·exact hb
 ·rw[cA]
  by_cases cD:i=j
  ·subst cD;simpa using hc
  ·simp only[cD,if_false]
   have Eh:=hB j (Ne.symm cD)
   have hs:=h.aZ.sat j
   have yy:∀ b,(af E j).own g j b→w'.heap[b]?=w.heap[b]?:=fun b hb=>s0 b (ft hs hb) (fun b' dJ=>iX j b cD hb b' dJ)
   cases JW:af E j with
   | none=>trivial
   | cells T cs =>
    rw[JW]at hs yy
    obtain⟨vs,h1,h2⟩:=hs
    exact⟨vs,by rw[Eh.1,yy _ rfl];exact h1,h2.map f hΦ hf⟩
   | au T t xs =>
    rw[JW]at hs yy
    obtain⟨h1,h2,h3⟩:=hs
    refine⟨by rw[Eh.2.2];exact h1,by rw[Eh.2.1];exact h2,fun cap cX=>?_⟩
    rw[Eh.2.1]at cX
    obtain⟨vs,h4,h5,h6,h7⟩:=h3 cap cX
    exact⟨vs,by rw[Eh.1,yy _ (by simp[Chunk.own,cX])];exact h4,h5,h6,fun k x hx=>(h7 k x hx).iL hΦ⟩
   | row T t xs =>
    rw[JW]at hs yy
    obtain⟨h1,h2,h3⟩:=hs
    refine⟨by rw[Eh.2.2];exact h1,by rw[Eh.2.1];exact h2,fun cap cX=>?_⟩
    rw[Eh.2.1]at cX
    obtain⟨vs,h4,h5,h6,h7⟩:=h3 cap cX
    exact⟨vs,by rw[Eh.1,yy _ (by simp[Chunk.own,cX])];exact h4,h5,h6,fun k x hx=>(h7 k x hx).iL hΦ⟩
   | count k=>rw[JW]at hs;exact hs.trans W9.symm
   | jC k ks us =>
    rw[JW]at hs yy
    obtain⟨es,cl,h1,h2,h3⟩:=hs
    exact⟨es,cl,by rw[Eh.1,yy _ rfl];exact h1,h2,h3.map f hΦ hf⟩
   | heap hp =>
    rw[JW]at hs yy
    obtain⟨h1,h2,h3⟩:=hs
    refine⟨by rw[hM];exact h1,by rw[hM,hW];exact h2,fun k hk=>?_⟩
    rw[hM]at hk
    obtain⟨ob,h4,h5⟩:=h3 k hk
    refine⟨ob,by rw[hW,yy _ ⟨k,hk,rfl⟩];exact h4,HO.l7 (HV.sx (fun _ _ _ h=>h.mono hΦ) (fun h=>by rw[hn];exact h) (fun _ k _=>by rw[hW]) (fun _=>by rw[hM];exact abr _)) h5⟩
   | jy T cs =>
    rw[JW]at hs yy
    obtain⟨vs,h1,h2⟩:=hs
    exact⟨vs,by rw[Eh.1,yy _ rfl];exact h1,h2.map f hΦ hf⟩
   | bg q =>
    rw[JW]at hs yy
    obtain⟨h1,h2,h3⟩:=hs
    refine⟨by rw[hM];exact h1,fun b k hk=>?_,?_⟩
    ·rw[hW]at hk;rw[yy b ⟨k,hk⟩];exact h2 b k hk
    ·rw[Eh.1,hW]
     exact q.mono _ _ _ _ _ _ (Nh fun _ _ _ h=>h.mono hΦ) (fun b hb=>yy b hb) h3
   | jD x a b l =>
    rw[JW]at hs yy
    obtain⟨r,h1,h2⟩:=hs
    exact⟨r,h1.map f hΦ hf,by rw[Eh.1,yy _ rfl];exact h2⟩
 ·rw[hblk]at hj hk
  by_cases cD:i=j <;> by_cases Ei:i=k
  ·exact cD.symm.trans Ei
  ·subst cD
   simp only[if_true,Ei,if_false]at hj hk
   rcases qP b hj with h3|h3
   ·have:=ft (h.aZ.sat k) hk;omega
   ·exact(Ei (h.aZ.lL i k b h3 hk)).elim
  ·subst Ei
   simp only[if_true,cD,if_false]at hj hk
   rcases qP b hk with h3|h3
   ·have:=ft (h.aZ.sat j) hj;omega
   ·exact(cD (h.aZ.lL i j b h3 hj)).elim
  ·simp only[cD,Ei,if_false]at hj hk;exact h.aZ.lL j k b hj hk
 ·rw[hblk]at hj
  cases hp:g'.Φ b with
  | none=>rfl
  | some o =>
   exfalso
   by_cases cD:i=j
   ·subst cD
    simp only[if_true]at hj
    rcases oA b o hp with h3|⟨h3,_,h4⟩
    ·rcases qP b hj with h5|h5
     ·have:=bt (h.aZ.dA b o h3);omega
     ·rw[h.aZ.dQ i b h5]at h3;cases h3
    ·exact h4 hj
   ·simp only[cD,if_false]at hj
    rcases oA b o hp with h3|⟨h3,_,_⟩
    ·rw[h.aZ.dQ j b hj]at h3;cases h3
    ·exact cD (h.aZ.lL i j b h3 hj)
 ·have bE:∀ b',(af E i).own g i b'→b≠b':=fun b' dJ e=>by
   subst e
   rcases h.ext.own i b dJ with h3|h3
   ·omega
   ·exact h2 h3
  rw[s0 b (abB h1 h.ext.size) bE];exact h.ext.cE b h1 h2
 ·rcases oA b o hb with h3|⟨h3,_,_⟩
  ·exact h.ext.fS b o h3
  ·exact .inr (h.ext.own i b h3)
 ·rw[hblk]at hj
  by_cases cD:i=j
  ·subst cD
   simp only[if_true]at hj
   rcases qP b hj with h3|h3
   ·exact .inl (abW h.ext.size h3)
   ·exact h.ext.own i b h3
  ·simp only[cD,if_false]at hj;exact h.ext.own j b hj
 ·obtain⟨T1,t1,Yt,Qk⟩:=TF
  have cD:j≠i:=fun e=>by subst e;exact jE (h.ext.nJ j hj) Qk
  rw[(hB j cD).1,(hB j cD).2.1,(hB j cD).2.2];exact h.ext.ids j hj
 ·obtain⟨T1,t1,Yt,Qk⟩:=TF
  by_cases cD:i=j
  ·subst cD;exact(jE (h.ext.nJ i hj) Qk).elim
  ·rw[cA];simp only[cD,if_false];rw[sy];exact h.ext.nJ j hj
end
def Data (g:Gh) (t:Ty) (xs:List t.den) (us:List Value):Prop :=
 us.length=xs.length*t.size∧∀ (k:Nat) (x:t.den),xs[k]?=some x→RL g (enc t (fun _=>x) []) ((us.drop (k*t.size)).take t.size)
theorem yz (u us:List Value) (n:Nat):(u++us).drop (u.length+n)=us.drop n:=by
 rw[←adR,List.drop_left]
theorem Data.nil (g:Gh) (t:Ty):Data g t [] []:=⟨by simp,fun k x h=>by simp at h⟩
theorem Data.cons {g:Gh} {t:Ty} {x:t.den} {xs:List t.den} {u us:List Value} (h:RL g (enc t (fun _=>x) []) u) (hs:Data g t xs us):Data g t (x::xs) (u++us):=by
 have hl:u.length=t.size:=by rw[←h.length,bz]
 refine⟨by rw[abp,hs.1,hl,abt,ace];omega,fun k y hk=>?_⟩
 cases k with
 | zero =>
  simp at hk;subst hk
  rw[Nat.zero_mul,abA,←hl,List.take_left];exact h
 | succ k =>
  have:=hs.2 k y (by simpa using hk)
  rw[show(k+1)*t.size=u.length+k*t.size by rw[ace,hl];omega,yz]
  exact this
theorem Data.append {g:Gh} {t:Ty}:∀ {xs ys:List t.den} {us vs:List Value},Data g t xs us→Data g t ys vs→Data g t (xs++ys) (us++vs):=by
 intro xs ys us vs h h'
 refine⟨by rw[abp,h.1,h'.1,abp,ace],fun k y hk=>?_⟩
 rcases Nat.lt_or_ge k xs.length with bm|yA
 ·rw[ads bm]at hk
  have h1:k*t.size+t.size≤us.length:=by rw[h.1,←ad5];exact abU _ bm
  rw[List.drop_append_of_le_length (by omega),List.take_append_of_le_length (by rw[abG];omega)]
  exact h.2 k y hk
 ·rw[adp yA]at hk
  have:=h'.2 _ y hk
  have e:k*t.size=us.length+(k - xs.length)*t.size:=by rw[h.1,←ace];congr 1;omega
  rw[e,yz]
  exact this
theorem Data.take {g:Gh} {t:Ty} {xs:List t.den} {us:List Value} (h:Data g t xs us) (n:Nat):Data g t (xs.take n) (us.take (n*t.size)):=by
 refine⟨?_,fun k y hk=>?_⟩
 ·rw[aby,h.1,aby]
  rcases Nat.le_total n xs.length with hn|hn
  ·rw[acq hn,acq (abU _ hn)]
  ·rw[Nat.min_eq_right hn,Nat.min_eq_right (abU _ hn)]
 ·rw[abK]at hk
  split at hk
  ·rename_i bm
   have:=h.2 k y hk
   have h1:k*t.size+t.size≤n*t.size:=by rw[←ad5];exact abU _ bm
   rw[List.drop_take,adS,acq (by omega)]
   exact this
  ·cases hk
theorem Data.drop {g:Gh} {t:Ty} {xs:List t.den} {us:List Value} (h:Data g t xs us) (n:Nat):Data g t (xs.drop n) (us.drop (n*t.size)):=by
 refine⟨by rw[abG,h.1,abG,Nat.sub_mul],fun k y hk=>?_⟩
 rw[abI]at hk
 have:=h.2 (n+k) y hk
 rw[adR,←ace];exact this
theorem Data.replicate {g:Gh} {t:Ty} {x:t.den} {u:List Value} (h:RL g (enc t (fun _=>x) []) u):∀ n,Data g t (List.replicate n x) (List.replicate n u).flatten
 | 0=>Data.nil g t
 | n+1=>by simp only[aef,aes];exact Data.cons h (Data.replicate h n)
theorem Data.mono {g g':Gh} (hg:g.le g') {t:Ty} {xs:List t.den} {us:List Value} (h:Data g t xs us):Data g' t xs us:=⟨h.1,fun k x hk=>(h.2 k x hk).mono hg⟩
theorem Data.one {g:Gh} {t:Ty}:∀ {us:List Value} {x:t.den},RL g (enc t (fun _=>x) []) us→∀ u∈us,u.oneCell'=true:=by
 intro us x h u hu
 obtain⟨i,hi,rfl⟩:=List.mem_iff_getElem.1 hu
 have hl:i<(enc t (fun _=>x) []).length:=by rw[h.length];exact hi
 have:=h.at_ i _ _ (abj hl) (abj hi)
 have key:∀ (t:Ty) (x:Unit→t.den) (j:Nat) (y:AV),(enc t x [])[j]?=some y→∀ u,R g y u→u.oneCell'=true:=by
  intro t
  induction t with
  | int k=>intro x j y h u hr;cases j <;> simp[enc]at h;subst h;cases hr;rfl
  | bool=>intro x j y h u hr;cases j <;> simp[enc]at h;subst h;cases hr;rfl
  | str=>intro x j y h u hr;cases j <;> simp[enc]at h;subst h;cases hr;rfl
  | list e=>intro x j y h u hr;cases j <;> simp[enc]at h;subst h;cases hr;rfl
  | pair a b Xa Xb =>
   intro x j y h u hr
   simp only[enc]at h
   rw[cR,abT]at h
   split at h
   ·exact Xa _ _ _ h _ hr
   ·exact Xb _ _ _ h _ hr
 exact key t _ i _ (abj hl) _ this
theorem Data.Cp {g:Gh} {t:Ty} {xs:List t.den} {us:List Value} (h:Data g t xs us):∀ u∈us,u.oneCell'=true:=by
 intro u hu
 obtain⟨i,hi,rfl⟩:=List.mem_iff_getElem.1 hu
 have hp:=Ty.size_pos t
 have hk:i / t.size<xs.length:=by rw[ad6 hp,←h.1];exact hi
 have hd:=h.2 (i / t.size) _ (abj hk)
 have hm:i % t.size<t.size:=acM _ hp
 have he:=Nat.div_add_mod i t.size
 refine Data.one hd _ (abu.2 ⟨i % t.size,?_⟩)
 rw[abK,if_pos hm,abI,aen,he,abj hi]
theorem iY {g:Gh} {i:Nat} {w:World} {T:TypeId} {t:Ty} {xs:Unit→List t.den} {cap:Nat} (h:(Chunk.au T t xs).sat g i w) (hV:g.V i=some cap) :
  ∃ vs:Array Value,w.heap[g.B i]?=some (.cells vs T (0,0))∧vs.size=cap*t.size∧(xs ()).length≤cap∧(xs ()).length=g.L i∧Data g t (xs ()) (vs.toList.take ((xs ()).length*t.size)):=by
 obtain⟨h1,h2,h3⟩:=h
 obtain⟨vs,h4,h5,h6,h7⟩:=h3 cap hV
 refine⟨vs,h4,h5,h6,h1,?_,fun k x hk=>?_⟩
 ·rw[aby]
  have:(xs ()).length*t.size≤cap*t.size:=abU _ h6
  simp;omega
 ·have bm:k<(xs ()).length:=(abk.1 hk).1
  have hl:k*t.size+t.size≤(xs ()).length*t.size:=by rw[←ad5];exact abU _ bm
  rw[List.drop_take,adS,acq (by omega)]
  exact h7 k x hk
theorem gN {g:Gh} {i:Nat} {w:World} {T:TypeId} {t:Ty} {xs:Unit→List t.den} {cap:Nat} {vs:Array Value} (hV:g.V i=some cap) (hL:(xs ()).length=g.L i)
  (hb:w.heap[g.B i]?=some (.cells vs T (0,0))) (hs:vs.size=cap*t.size) (hc:(xs ()).length≤cap) (hd:Data g t (xs ()) (vs.toList.take ((xs ()).length*t.size))):(Chunk.au T t xs).sat g i w:=by
 show _∧_∧_
 refine⟨hL,?_,?_⟩
 ·intro h;rw[hV]at h;cases h
 intro Nl D2
 rw[hV]at D2;cases D2
 refine⟨vs,hb,hs,hc,fun k x hk=>?_⟩
 have bm:k<(xs ()).length:=(abk.1 hk).1
 have hl:k*t.size+t.size≤(xs ()).length*t.size:=by rw[←ad5];exact abU _ bm
 have:=hd.2 k x hk
 rwa [List.drop_take,adS,acq (by omega)]at this
def iv (P:Program) (o:Oper) (a:Act) (w:World) (B:bU) (K:AV→Env→List Chunk→Prop):Prop :=
 ∃ n c r w' g' aj E',(execOp a.eval o).run P w=.ok n w'∧(n=.value c∨(n=.skip∧c=Go.undef))∧Inv B g' aj E' a.tmps w'∧R g' r c∧K r aj E'
section
variable {P:Program} {B:bU} {g:Gh} {env:Env} {E:List Chunk} {tmps:Array Value} {w:World}
theorem gz {b:Nat} {nX:Array Value} {T:TypeId} (h:w.heap[b]?=some (.cells nX T (0,0))) (cs:Array Value):qO w (w.setRow b cs) b (.cells cs T (0,0)) :=
 ⟨rfl,rfl,⟨rfl,abr _⟩,by simp,setRow_heap w b nX cs T _ h,fun k hk=>setRow_other w b k cs hk⟩
theorem Inv.s4 (h:Inv B g env E tmps w) (T:TypeId) {cs:List AV} {vs:Array Value} (hr:RL g cs vs.toList) (v:Option Nat) (l:Nat) :
  Inv B (g.add w.heap.size v l) env (dz E (.cells T cs)) tmps { w with heap:=w.heap.push (.cells vs T) }:=by
 have hw:=sZ.push w (.cells vs T)
 refine h.new (c:=.cells T cs) hw.os hw.tape hw.output (by rw[hw.size];omega) hw.lC ⟨vs,?_,hr.mono (g.jW _ _ _)⟩ (fun b' dJ=>?_)
 ·simp only[Gh.add,if_true];exact hw.at_
 ·simp[Chunk.own,Gh.add]at dJ;omega
theorem Gl (g:Gh) (E:List Chunk) (hl:ah E=g.n) (b:Nat) (v:Option Nat) (l:Nat):R (g.add b v l) (.ptr (ah E) 0) (.pointer (some ⟨b,0,none⟩)):=by
 have:=R.ptr (g:=g.add b v l) g.n 0 (by simp[Gh.add])
 simpa [Gh.add,hl]using this
theorem Inv.wQ (h:Inv B g env E tmps w) (T:TypeId) {t:Ty} {xs:Unit→List t.den} {vs:Array Value} {cap:Nat} (hs:vs.size=cap*t.size) (hc:(xs ()).length≤cap)
  (hd:Data g t (xs ()) (vs.toList.take ((xs ()).length*t.size))) {w':World} (hw:sZ w w' (.cells vs T)) :
  Inv B (g.add w.heap.size (some cap) (xs ()).length) env (dz E (.au T t xs)) tmps w':=by
 refine h.new (c:=.au T t xs) hw.os hw.tape hw.output (by rw[hw.size];omega) hw.lC (gN (cap:=cap) (vs:=vs) (by simp[Gh.add]) (by simp[Gh.add]) (by simp only[Gh.add,if_true];exact hw.at_) hs hc (hd.mono (g.jW _ _ _))) (fun b' dJ=>?_)
 simp[Chunk.own,Gh.add]at dJ;omega
theorem l9 (g:Gh) (E:List Chunk) (hl:ah E=g.n) (b cap l s:Nat) (n:Unit→Nat) (hn:n ()≤l) (hc:l≤cap) (cX:cap≤9223372036854775807) :
  R (g.add b (some cap) l) (.vec (ah E) s (fun _=>0) n) (.slice (some ⟨b,0,none⟩) (n ()) cap):=by
 rw[hl]
 refine .vec g.n s (fun _=>0) n _ _ (by simp[Gh.add]) (by simp[Gh.add];exact hn) (by simp[Gh.add]) (fun Nl D2=>?_)
 simp[Gh.add]at D2
 subst D2
 simp[Gh.add]
 omega
theorem Gn {g:Gh}:∀ {cs:List AV} {us:List Value},TE cs=true→RL g cs us→∀ u∈us,u.oneCell'=true
 | [],[],_,_,u,hu=>by simp at hu
 | c::cs,v::us,h,hr,u,hu=>by
  simp only[TE]at h
  split at h
  ·rename_i hc
   rcases abE.1 hu with rfl|hu
   ·have:=hr.1
    cases this <;> first|rfl|(simp[W4]at hc;done)
   ·exact Gn h hr.2 u hu
  ·cases h
theorem fU {t sz:Nat} (hs:bT P t=some sz) {b off:Nat} {nX:Array Value} {T:TypeId} (hb:w.heap[b]?=some (.cells nX T (0,0))) {v:Value} (hv:v.cells.size=sz) (hl:off+v.cells.size≤nX.size)
  (h1:∀ u∈v.cells.toList,u.oneCell'=true) :
  (storeVar t ⟨b,off,none⟩ v).run P w=.ok () (w.setRow b (nX.toList.take off++v.cells.toList++nX.toList.drop (off+v.cells.toList.length)).toArray):=by
 have:=run_storeCells_at P b off T v.cells.toList 0 nX w hb (by simpa using hl) h1
 simp only[ab8]at this
 simp[storeVar,aW hs,hv,this]
theorem Cq {i:Nat} {cs:List AV} {us:List Value} {K:Env→List Chunk→List AV→Prop} (h:Inv B g env E tmps w) (hr:RL g cs us) (hk:im i env E cs K) :
  ∃ g' aj E' mY,Inv B g' aj E' tmps w∧RL g' mY us∧K aj E' mY∧(g'.n=g.n∧g'.B=g.B∧g'.V=g.V∧g'.L=g.L∧g'.k=g.k∧g'.W=g.W∧g'.M=g.M)∧(∀ b o,g.Φ b=some o→g'.Φ b=some o) ∧
   (∀ b o,g'.Φ b=some o→g.Φ b=some o∨(af E i).own g i b)∧(∀ b,(af E i).own g i b→∃ o,g'.Φ b=some o):=by
 unfold im at hk
 split at hk <;> try exact hk.elim
 rename_i T t xs hE
 rw[dn,bf,fA]at hk
 have hs:=h.aZ.sat i
 rw[hE]at hs
 have hi:i<ah E:=dV (by rw[hE];simp)
 let g':Gh:={ g with Φ:=fun b=>match g.V i with|none=>g.Φ b|some _=>if b=g.B i then w.heap[g.B i]? else g.Φ b }
 have hblk:∀ cap,g.V i=some cap→(af E i).own g i (g.B i):=fun cap hV=>by rw[hE];simp[Chunk.own,hV]
 have hΦ:∀ b o,g.Φ b=some o→g'.Φ b=some o:=by
  intro b o hb
  show(match g.V i with|none=>g.Φ b|some _=>if b=g.B i then w.heap[g.B i]? else g.Φ b)=some o
  split
  ·exact hb
  ·rename_i cap hV
   rw[if_neg (fun e=>by subst e;rw[h.aZ.dQ i _ (hblk cap hV)]at hb;cases hb)]
   exact hb
 have qQ:∀ cap,g.V i=some cap→∀ (k:Nat) (x:t.den),(xs ())[k]?=some x→∃ u:Nat→Value,∀ (j:Nat) (y:AV),(enc t (fun _=>x) [])[j]?=some y→At g' (some ⟨g.B i,0,none⟩) (k*t.size+j) (u j)∧R g' y (u j):=by
  intro cap hV k x hk
  obtain⟨vs,hb,cv,hc,hl,hd⟩:=iY hs hV
  have TG:=(hd.2 k x hk).iL hΦ
  refine⟨fun j=>((((vs.toList.take ((xs ()).length*t.size)).drop (k*t.size)).take t.size).getD j Go.undef),fun j y hy=>?_⟩
  obtain⟨u,hu,Yu⟩:=TG.get hy
  have e:(((vs.toList.take ((xs ()).length*t.size)).drop (k*t.size)).take t.size).getD j Go.undef=u:=by simp[List.getD,hu]
  simp only[e]
  refine⟨⟨g.B i,0,vs,T,(0,0),rfl,?_,?_⟩,Yu⟩
  ·show(match g.V i with|none=>g.Φ (g.B i)|some _=>if g.B i=g.B i then w.heap[g.B i]? else g.Φ (g.B i))=_
   rw[hV];simp[hb]
  ·rw[abK]at hu
   split at hu
   ·rw[abI,abK]at hu
    split at hu
    ·simpa using hu
    ·cases hu
   ·cases hu
 have rL:∀ v u,isRef v=true→R g v u→R g' (oz i t xs v) u:=by
  intro v u hv hr
  cases hr <;> first|(cases hv;done)|skip
  ·rename_i j off hj
   simp only[oz];split
   ·exact .undef _
   ·exact .ptr (g:=g') j off hj
  ·rename_i j sz idx off hj hL
   simp only[oz];split
   ·rename_i j8
    have j8:=abl j8
    subst j8
    split
    ·rename_i cv
     have cv:=abl cv
     subst cv
     have bm:idx ()<(xs ()).length:=by have:=hs.1;omega
     cases hV:g.V j with
     | none=>have:=hs.2.1 hV;rw[this]at bm;simp at bm
     | some cap =>
      obtain⟨u,hu⟩:=qQ cap hV (idx ()) _ (abj bm)
      have e:(fun u=>(xs u).getD (idx u) t.a8)=(fun _=>(xs ())[idx ()]'bm):=by funext u;cases u;simp[List.getD,abj bm]
      rw[e]
      exact .dI t _ off (g.B j) (idx ()*t.size) u (fun k y hy=>by
       obtain⟨⟨b,o,cells,T',fr,h1,h2,h3⟩,_⟩:=hu k y hy
       cases h1
       exact⟨_,_,cells,T',fr,rfl,h2,by rw[←h3];congr 1;omega⟩) (fun k y hy=>(hu k y hy).2)
    ·exact .undef _
   ·exact .bl (g:=g') j sz idx off hj hL
  ·rename_i j s o n A c hj hL hn sQ
   simp only[oz];split
   ·rename_i j8
    have j8:=abl j8
    subst j8
    split
    ·rename_i cv
     have cv:=abl cv
     subst cv
     have hlen:(((xs ()).drop (o ())).take (n ())).length=n ():=by have:=hs.1;simp;omega
     have LZ:n ()≤c:=by
      cases hV:g.V j with
      | none=>have:=hn hV;omega
      | some cap=>have:=sQ cap hV;omega
     have sA:n ()≤9223372036854775807:=by
      cases hV:g.V j with
      | none=>have:=hn hV;omega
      | some cap=>have:=sQ cap hV;omega
     have key:∀ (k:Nat) (x:t.den),(((xs ()).drop (o ())).take (n ()))[k]?=some x→∃ u:Nat→Value,∀ (m:Nat) (y:AV),(enc t (fun _=>x) [])[m]?=some y→At g' A (k*t.size+m) (u m)∧R g' y (u m):=by
      intro k x hx
      have hk:k<n ():=by rw[←hlen];exact(abk.1 hx).1
      rw[abK,if_pos hk,abI]at hx
      cases hV:g.V j with
      | none=>have:=(hn hV).2.1;omega
      | some cap =>
       obtain⟨u,hu⟩:=qQ cap hV _ x hx
       obtain⟨_,_,_,hA,_⟩:=sQ cap hV
       have hA:=hA (.inl (by have:=sQ cap hV;omega))
       subst hA
       refine⟨u,fun m y hy=>?_⟩
       obtain⟨⟨b,o',cells,T',fr,h1,h2,h3⟩,h4⟩:=hu m y hy
       cases h1
       exact⟨⟨_,_,cells,T',fr,rfl,h2,by rw[←h3];congr 1;rw[ace];omega⟩,h4⟩
     have Uy:∃ u:Nat→Nat→Value,∀ (k:Nat) (x:t.den),(((xs ()).drop (o ())).take (n ()))[k]?=some x→∀ (m:Nat) (y:AV),(enc t (fun _=>x) [])[m]?=some y→At g' A (k*t.size+m) (u k m)∧R g' y (u k m):=by
      refine⟨fun k=>if hk:k<(((xs ()).drop (o ())).take (n ())).length then Classical.choose (key k _ (abj hk))else fun _=>Go.undef,fun k x hx=>?_⟩
      obtain⟨hk,rfl⟩:=abk.1 hx
      simp only[hk,dif_pos]
      exact Classical.choose_spec (key k _ (abj hk))
     obtain⟨u,hu⟩:=Uy
     have:=R.aG (g:=g') t (fun u=>((xs u).drop (o u)).take (n u)) A c u (by show(((xs ()).drop (o ())).take (n ())).length≤c;omega) (by show(((xs ()).drop (o ())).take (n ())).length≤_;omega)
      (fun k x m y h1 h2=>(hu k x h1 m y h2).1) (fun k x m y h1 h2=>(hu k x h1 m y h2).2)
     have e:((fun u=>((xs u).drop (o u)).take (n u)) ()).length=n ():=hlen
     rw[e]at this
     exact this
    ·exact .undef _
   ·exact .vec (g:=g') j s o n A c hj hL hn sQ
  ·rename_i j hj
   simp only[oz];split
   ·exact .undef _
   ·exact .mp (g:=g') j hj
  ·rename_i j f hj hf
   simp only[oz];split
   ·exact .undef _
   ·exact .hp (g:=g') j f hj hf
  ·rename_i j f hj hf
   simp only[oz];split
   ·exact .undef _
   ·exact .hm (g:=g') j f hj hf
 have oA:∀ b o,g'.Φ b=some o→g.Φ b=some o∨((af E i).own g i b∧w.heap[b]?=some o):=by
  intro b o hb
  have hm:(match g.V i with|none=>g.Φ b|some _=>if b=g.B i then w.heap[g.B i]? else g.Φ b)=some o:=hb
  clear hb
  split at hm
  ·exact .inl hm
  ·rename_i cap hV
   split at hm
   ·rename_i e
    subst e
    exact .inr ⟨hblk cap hV,hm⟩
   ·exact .inl hm
 refine⟨g',_,_,_,h.Ef (g':=g') (oz i t xs) (c:=.none) ⟨T,t,xs,hE⟩ rfl rfl rfl rfl hΦ rL hi (fun j _=>⟨rfl,rfl,rfl⟩) rfl rfl (jz.refl _) (abr _) (fun _ _ _=>rfl) trivial (fun b hb=>by cases hb) (fun b o hb=>?_),hr.map _ hΦ rL,hk,⟨rfl,rfl,rfl,rfl,rfl,rfl,rfl⟩,hΦ,fun b o hb=>(oA b o hb).imp id And.left,fun b hb=>?_⟩
 rotate_left
 ·rw[hE]at hb
  cases hV:g.V i with
  | none=>simp[Chunk.own,hV]at hb
  | some cap =>
   simp[Chunk.own,hV]at hb
   subst hb
   obtain⟨vs,Yv,_⟩:=iY hs hV
   refine⟨.cells vs T (0,0),?_⟩
   ·show(match g.V i with|none=>g.Φ (g.B i)|some _=>if g.B i=g.B i then w.heap[g.B i]? else g.Φ (g.B i))=_
    rw[hV];simp only[if_true];exact Yv
 rcases oA b o hb with h1|⟨h1,h2⟩
 ·exact .inl h1
 ·exact .inr ⟨h1,h2,fun h=>by cases h⟩
theorem wR {i:Nat} {cs:List AV} {us:List Value} {K:Env→List Chunk→List AV→Prop} (h:Inv B g env E tmps w) (hr:RL g cs us) (hk:im i env E cs K) :
  ∃ g' aj E' mY,Inv B g' aj E' tmps w∧RL g' mY us∧K aj E' mY:=by
 obtain⟨g',aj,E',mY,h1,h2,h3,_⟩:=Cq h hr hk
 exact⟨g',aj,E',mY,h1,h2,h3⟩
theorem qR:∀ (n:Nat) {g:Gh} {env:Env} {E:List Chunk} {cs:List AV} {us:List Value} {K:Env→List Chunk→List AV→Prop},Inv B g env E tmps w→RL g cs us→sX n env E cs K →
  ∃ g' aj E' mY,Inv B g' aj E' tmps w∧RL g' mY us∧K aj E' mY
 | 0,g,env,E,cs,us,K,h,hr,hk=>⟨g,env,E,cs,h,hr,hk⟩
 | n+1,g,env,E,cs,us,K,h,hr,hk=>by
  simp only[sX]at hk
  split at hk
  ·exact⟨g,env,E,cs,h,hr,hk⟩
  ·obtain⟨g',aj,E',mY,h1,h2,h3⟩:=wR h hr hk
   exact qR n h1 h2 h3
end
theorem Gp {α:Type} (V c:List α) (N p s off:Nat) (hN:N≤V.length) (hp:p+s≤N) (hc:off+c.length≤s) :
  (V.take (p+off)++c++V.drop (p+off+c.length)).take N =
   (V.take N).take p++((((V.take N).drop p).take s).take off++c++(((V.take N).drop p).take s).drop (off+c.length))++(V.take N).drop (p+s):=by
 apply ac5
 intro k
 simp only[abT,abK,abI,abp,aby,abG]
 grind
theorem rM (l:List Value):∀ (n i:Nat),i<n*l.length→(List.replicate n l).flatten[i]?=l[i % l.length]?
 | 0,i,h=>by simp at h
 | n+1,i,h=>by
  rw[aef,aes,abT]
  split
  ·rename_i hi;rw[acs hi]
  ·rename_i hi
   have hle:l.length≤i:=by omega
   rw[rM l n (i - l.length) (by rw[ace]at h;omega)]
   congr 1
   rw[Nat.mod_eq_sub_mod hle]
theorem kb (z:Array Value) (n:Nat):((Array.range (n*z.size)).map (z[· % z.size]!)).toList=(List.replicate n z.toList).flatten:=by
 apply ac5
 intro i
 have hl:((List.replicate n z.toList).flatten).length=n*z.size:=by simp
 by_cases hi:i<n*z.size
 ·rw[rM _ n i (by simpa using hi)]
  have hz:0<z.size:=(adC z.size).resolve_left fun h=>by rw[h]at hi;simp at hi
  have hm:i % z.size<z.size:=acM _ hz
  simp[hi,hm]
 ·rw[abS (by simp;omega),abS (by omega)]
section
variable {P:Program} {B:bU} {g:Gh} {env:Env} {E:List Chunk} {tmps:Array Value} {w:World}
theorem Cr {t:Ty}:∀ (n:Nat) (cs:List AV) (us:List Value) (K:(Unit→List t.den)→Prop),Gg t n cs K→RL g cs us→∃ xs,(xs ()).length=n∧Data g t (xs ()) us∧K xs
 | 0,[],[],K,h,hr=>⟨_,rfl,Data.nil g t,h⟩
 | 0,_::_,_,K,h,hr=>by simp[Gg]at h
 | n+1,cs,us,K,h,hr=>by
  simp only[Gg]at h
  obtain⟨x,rest,u1,u2,rfl,h1,h2,h3⟩:=wK t cs us _ h hr
  obtain⟨xs,h4,h5,h6⟩:=Cr n rest u2 _ h3 h2
  refine⟨fun u=>x u::xs u,by simp[h4],?_,h6⟩
  exact Data.cons (by rw[iJ];exact h1) h5
theorem fo.R {i:Nat} {v:AV} {hv:HV} (h:fo i v hv) (hi:i<g.n) {u:Value} (hr:R g v u):Fw.R g (hv.av i) u:=by
 cases h with
 | eq=>exact hr
 | bZ=>cases hr;exact .hp i (fun _=>none) hi (fun x hx=>by cases hx)
 | tt=>cases hr;exact .bool (fun _=>true)
 | ff=>cases hr;exact .bool (fun _=>false)
 | aY t=>cases hr;exact qI g t
theorem Gq {z:Value} {cs:List AV} (h:gY (yf z)=some cs) (n:Nat):RL g ((List.replicate n cs).flatten) ((List.replicate n z.cells.toList).flatten):=by
 have hr:=(nT g z).cells h
 induction n with
 | zero=>exact trivial
 | succ n ih=>simp only[aef,aes];exact hr.append ih
variable {a:Act} {o:Oper} {K:AV→Env→List Chunk→Prop}
theorem Gr {e:TypeId} (h:Inv B g env E a.tmps w) (ho:o.op=.alloc e) (hk:eV P (.alloc e) env E K):iv P o a w B K:=by
 simp only[eV]at hk
 split at hk <;> try exact hk.elim
 rename_i z hz
 split at hk <;> try exact hk.elim
 rename_i cs vA
 rw[fA,fz,bf]at hk
 have hr:=(nT g z).cells vA
 refine⟨_,_,_,_,_,_,_,?_,.inl rfl,h.s4 e (vs:=z.cells) hr Option.none 0,Gl g E h.aZ.len _ _ _,hk⟩
 simp[execOp,ho,Instr.alloc,ed hz,newVar,newRow]
theorem Nn {e:TypeId} {x:Operand} (h:Inv B g env E a.tmps w) (ho:o.op=.box e x) (hk:eV P (.box e x) env E K):iv P o a w B K:=by
 simp only[eV]at hk
 split at hk <;> try exact hk.elim
 rename_i cs vA
 rw[fz,bf]at hk
 have hr:=(h.er.ev x).cells vA
 refine⟨_,_,_,_,_,_,_,?_,.inl rfl,h.s4 e (vs:=(a.eval x).cells) hr Option.none 0,Gl g E h.aZ.len _ _ _,hk⟩
 simp[execOp,ho,Instr.box,newVar,newRow]
theorem AY {t:TypeId} (h:Inv B g env E a.tmps w) (ho:o.op=.makeMap t none) (hk:eV P (.makeMap t none) env E K):iv P o a w B K:=by
 simp only[eV]at hk
 split at hk <;> try exact hk.elim
 rename_i kt et ht
 split at hk <;> try exact hk.elim
 rename_i k px
 rw[fz,bf]at hk
 have hle:=g.jW w.heap.size Option.none 0
 have hn:=sZ.push w (.map #[] 0)
 have hinv:=h.new (w':={ w with heap:=w.heap.push (.map #[] 0) }) (c:=.jC k [] []) (b:=w.heap.size) (v:=Option.none) (l:=0) hn.os hn.tape hn.output (by rw[hn.size];omega) hn.lC
  ⟨#[],0,by simp[Gh.add],rfl,trivial⟩ (fun b' dJ=>by simp[Chunk.own,Gh.add]at dJ;omega)
 refine⟨_,.map (some w.heap.size),_,_,_,_,_,?_,.inl rfl,hinv,?_,hk⟩
 ·simp[execOp,ho,Instr.makeMap,Result.andThen]
 ·have:=R.mp (g:=g.add w.heap.size Option.none 0) (ah E) (by rw[h.aZ.len];simp[Gh.add])
  have e:(g.add w.heap.size Option.none 0).B (ah E)=w.heap.size:=by rw[h.aZ.len];simp[Gh.add]
  rwa [e]at this
theorem yB {n:Int}:∀ {ks:List Int},Co n ks=true→n∉ks
 | [],_=>by simp
 | k::r,h=>by
  simp only[Co]at h
  split at h
  ·cases h
  ·rename_i bE _
   intro hm
   rcases abE.1 hm with rfl|hm
   ·exact bE rfl
   ·exact yB h hm
theorem py {k d:IntKind} {n:Int}:∀ {ks:List Int} {es:List MapEntry} (i:Nat),n∉ks→es.map (·.key)=ks.map (Value.int k)→Instr.findNow (.int d) (.int k n) es i=some none
 | [],[],_,_,_=>rfl
 | [],_::_,_,_,hk=>by simp at hk
 | _::_,[],_,_,hk=>by simp at hk
 | k0::ks,e::es,i,hn,hk=>by
  simp only[abH,List.cons.injEq]at hk
  simp only[abE,not_or]at hn
  have hb:(n == k0)=false:=by simpa using hn.1
  simp only[Instr.findNow,hk.1,Instr.sameNow,if_true,hb]
  exact py (i+1) hn.2 hk.2
theorem JX {t:TypeId} {k:IntKind} {n:Int} {m x:Operand} (h:Inv B g env E a.tmps w) (ho:o.op=.insert t m (.const (.int k n)) x) (hk:wP P t k n (ev env m) (ev env x) env E K):iv P o a w B K:=by
 unfold wP at hk
 have hm:=h.er.ev m
 have hx:=h.er.ev x
 split at hk <;> try exact hk.elim
 rename_i i em
 rw[em]at hm
 split at hk <;> try exact hk.elim
 rename_i kt et k' ks vs ht hE
 split at hk <;> try exact hk.elim
 rename_i d e2 px Yo JS
 subst e2
 rw[bf]at hk
 have hs:=h.aZ.sat i
 rw[hE]at hs
 obtain⟨es,cl,h1,h2,h3⟩:=hs
 have hu:a.eval m=.map (some (g.B i)):=by generalize a.eval m=u at hm;cases hm;rfl
 have rI:(Instr.checkKey false 10000 kt (.int k n)).run P w=.ok () w:=by
  unfold Instr.checkKey
  simp only[Sem.run_bind,ag px,Result.andThen_ok]
  rfl
 have Jr:=py (d:=d) 0 (yB JS) h2
 have eN:qO w { w with heap:=w.heap.setIfInBounds (g.B i) (.map (es.push { key:=.int k n,val:=a.eval x,born:=cl }) (cl+1)) } (g.B i) (.map (es.push { key:=.int k n,val:=a.eval x,born:=cl }) (cl+1)) :=
  ⟨rfl,rfl,⟨rfl,abr _⟩,by simp,(MapKept.heap_set h1).1,(MapKept.heap_set h1).2⟩
 refine⟨.skip,Go.undef,.skip,_,g,env,_,?_,.inr ⟨rfl,rfl⟩,h.set (c:=.jC k (ks++[n]) (vs++[ev env x])) (by rw[hE];rfl) eN ⟨_,_,eN.at_,by simp[h2],by simpa using h3.append (cs:=vs) (ds:=[ev env x]) (vs:=[a.eval x]) ⟨hx,trivial⟩⟩ rfl (fun T' t' Jq hc=>by cases hc),.skip,hk⟩
 have he:a.eval (.const (.int k n))=.int k n:=rfl
 simp[execOp,ho,Instr.mapUpdate,ag ht,hu,he,MapKept.run_getObj_map h1,rI,MapKept.run_findKey (aw px) Jr,MapKept.run_setObj_map _ h1,Result.andThen]
theorem Gs {t:TypeId} {x v:Operand} (h:Inv B g env E a.tmps w) (ho:o.op=.store t x v) (hk:eV P (.store t x v) env E K):iv P o a w B K:=by
 simp only[eV]at hk
 split at hk <;> try exact hk.elim
 rename_i cs vA
 split at hk <;> try exact hk.elim
 rename_i sz cv
 split at hk <;> try exact hk.elim
 rename_i hl ao
 have hlen:cs.length=sz:=abl hl
 have hr:=(h.er.ev v).cells vA
 have JR:(a.eval v).cells.size=sz:=by have:=hr.length;simp at this;omega
 have JY:=Gn ao hr
 have hx:=h.er.ev x
 split at hk <;> try exact hk.elim
 ·rename_i i off ex
  rw[ex]at hx
  split at hk <;> try exact hk.elim
  rename_i T ds hE
  split at hk <;> try exact hk.elim
  rename_i Xc qK
  rw[fA,bf]at hk
  have hs:=h.aZ.sat i
  rw[hE]at hs
  obtain⟨vs,hb,Ee⟩:=hs
  obtain⟨h1,h2⟩:=mX off ds cs Xc vs.toList (a.eval v).cells.toList qK Ee hr
  have hv:a.eval x=.pointer (some ⟨g.B i,off,none⟩):=by generalize a.eval x=u at hx;cases hx;rfl
  have bn:=fU (P:=P) (w:=w) (t:=t) cv (off:=off) hb JR (by simpa using h2) JY
  refine⟨.skip,Go.undef,.skip,_,g,env,_,?_,.inr ⟨rfl,rfl⟩,h.set (c:=.cells T Xc) (by rw[hE];rfl) (gz hb _) ⟨_,(gz hb _).at_,by simpa using h1⟩ rfl (fun T' t' Jq hc=>by cases hc),.skip,hk⟩
  simp[execOp,ho,Instr.storeAt,Instr.sureAddr,hv,bn]
 ·rename_i i s j off ex
  rw[ex]at hx
  obtain⟨g',aj,E',l,hinv,lK,hk⟩:=qR 3 (cs:=AV.bl i s j off::cs) (us:=a.eval x::(a.eval v).cells.toList) h ⟨hx,hr⟩ hk
  split at hk <;> try exact hk.elim
  rename_i i s j off mY
  have hx:=lK.1
  have hr:=lK.2
  split at hk <;> try exact hk.elim
  ·rename_i T ty xs hE
   split at hk <;> try exact hk.elim
   rename_i hb
   have sQ:ty.size=s:=abl hb
   subst sQ
   split at hk <;> try exact hk.elim
   rename_i ds qK
   have hs:=hinv.aZ.sat i
   rw[hE]at hs
   have hv:a.eval x=.pointer (some ⟨g'.B i,j ()*ty.size+off,none⟩)∧j ()<g'.L i:=by generalize a.eval x=u at hx;cases hx with|bl _ _ _ _ _ hL=>exact⟨rfl,hL⟩
   obtain⟨hv,hL⟩:=hv
   have hj:j ()<(xs ()).length:=by rw[hs.1];exact hL
   cases hV:g'.V i with
   | none=>have:=hs.2.1 hV;rw[this]at hj;simp at hj
   | some cap =>
    obtain⟨vs,hb,No,cX,Np,hd⟩:=iY hs hV
    have Qu:=hd.2 (j ()) _ (abj hj)
    have e:(fun u=>(xs u).getD (j u) ty.a8)=(fun _=>(xs ())[j ()]'hj):=by funext u;cases u;simp[List.getD,abj hj]
    rw[e]at qK
    obtain⟨h1,h2⟩:=mX off _ mY ds _ (a.eval v).cells.toList qK Qu hr
    obtain⟨y,h3,hk⟩:=kN hk h1
    rw[bf]at hk
    have rN:j ()*ty.size+ty.size≤(xs ()).length*ty.size:=by rw[←ad5];exact abU _ hj
    have Yw:(xs ()).length*ty.size≤cap*ty.size:=abU _ cX
    have FJ:(List.take ty.size (List.drop (j ()*ty.size) (List.take ((xs ()).length*ty.size) vs.toList))).length=ty.size:=by
     rw[←Qu.length,bz]
    have oy:off+(a.eval v).cells.toList.length≤ty.size:=by rw[FJ]at h2;exact h2
    have bn:=fU (P:=P) (w:=w) (t:=t) cv (off:=j ()*ty.size+off) hb JR (by simp at oy;omega) JY
    let row:List Value:=vs.toList.take (j ()*ty.size+off)++(a.eval v).cells.toList++vs.toList.drop (j ()*ty.size+off+(a.eval v).cells.toList.length)
    have eN:=gz hb row.toArray
    have wS:row.length=cap*ty.size:=by
     simp only[row,abp,aby,abG,Array.length_toList]
     simp at oy ⊢
     omega
    refine⟨.skip,Go.undef,.skip,_,g',aj,_,?_,.inr ⟨rfl,rfl⟩,hinv.set (c:=.au T ty fun u=>(xs u).set (j u) (y u)) (by rw[hE];simp[Chunk.own,hV]) eN (gN (cap:=cap) (vs:=row.toArray) hV (by simp[Np]) eN.at_ (by simpa using wS) (by simpa using cX) ?_) (by simp[Chunk.own,hV]) (fun _ _ _ _=>⟨_,_,_,hE⟩),.skip,hk⟩
    ·simp[execOp,ho,Instr.storeAt,Instr.sureAddr,hv,bn,row]
    ·
     have lO:row.toArray.toList.take (((fun u=>(xs u).set (j u) (y u)) ()).length*ty.size) =
       (vs.toList.take ((xs ()).length*ty.size)).take (j ()*ty.size)++((((vs.toList.take ((xs ()).length*ty.size)).drop (j ()*ty.size)).take ty.size).take off++(a.eval v).cells.toList++(((vs.toList.take ((xs ()).length*ty.size)).drop (j ()*ty.size)).take ty.size).drop (off+(a.eval v).cells.toList.length))++(vs.toList.take ((xs ()).length*ty.size)).drop (j ()*ty.size+ty.size):=by
      have:=Gp vs.toList (a.eval v).cells.toList ((xs ()).length*ty.size) (j ()*ty.size) ty.size off (by simp;omega) rN oy
      simpa [row]using this
     rw[lO]
     have Gt:(xs ()).set (j ()) (y ())=(xs ()).take (j ())++[y ()]++(xs ()).drop (j ()+1):=by
      rw[List.set_eq_take_append_cons_drop]
      simp[hj]
     show Data g' ty ((xs ()).set (j ()) (y ())) _
     rw[Gt]
     have d1:=hd.take (j ())
     have d3:=hd.drop (j ()+1)
     have d2:Data g' ty [y ()] ((((vs.toList.take ((xs ()).length*ty.size)).drop (j ()*ty.size)).take ty.size).take off++(a.eval v).cells.toList++(((vs.toList.take ((xs ()).length*ty.size)).drop (j ()*ty.size)).take ty.size).drop (off+(a.eval v).cells.toList.length)):=by
      have:=Data.cons (g:=g') (t:=ty) (x:=y ()) (xs:=[]) (us:=[]) (by rw[iJ];exact h3) (Data.nil g' ty)
      simpa using this
     have:=(d1.append d2).append d3
     rw[ace,adn]at this
     exact this
  ·rename_i T ty xs hE
   split at hk <;> try exact hk.elim
   rename_i hb
   have sQ:ty.size=s:=abl hb
   subst sQ
   split at hk <;> try exact hk.elim
   rename_i ds qK
   have hs:(Chunk.row T ty xs).sat g' i w:=by have:=hinv.aZ.sat i;rwa [hE]at this
   have hs:(Chunk.au T ty xs).sat g' i w:=hs
   have hv:a.eval x=.pointer (some ⟨g'.B i,j ()*ty.size+off,none⟩)∧j ()<g'.L i:=by generalize a.eval x=u at hx;cases hx with|bl _ _ _ _ _ hL=>exact⟨rfl,hL⟩
   obtain⟨hv,hL⟩:=hv
   have hj:j ()<(xs ()).length:=by rw[hs.1];exact hL
   cases hV:g'.V i with
   | none=>have:=hs.2.1 hV;rw[this]at hj;simp at hj
   | some cap =>
    obtain⟨vs,hb,No,cX,Np,hd⟩:=iY hs hV
    have Qu:=hd.2 (j ()) _ (abj hj)
    have e:(fun u=>(xs u).getD (j u) ty.a8)=(fun _=>(xs ())[j ()]'hj):=by funext u;cases u;simp[List.getD,abj hj]
    rw[e]at qK
    obtain⟨h1,h2⟩:=mX off _ mY ds _ (a.eval v).cells.toList qK Qu hr
    obtain⟨y,h3,hk⟩:=kN hk h1
    rw[bf]at hk
    have rN:j ()*ty.size+ty.size≤(xs ()).length*ty.size:=by rw[←ad5];exact abU _ hj
    have Yw:(xs ()).length*ty.size≤cap*ty.size:=abU _ cX
    have FJ:(List.take ty.size (List.drop (j ()*ty.size) (List.take ((xs ()).length*ty.size) vs.toList))).length=ty.size:=by
     rw[←Qu.length,bz]
    have oy:off+(a.eval v).cells.toList.length≤ty.size:=by rw[FJ]at h2;exact h2
    have bn:=fU (P:=P) (w:=w) (t:=t) cv (off:=j ()*ty.size+off) hb JR (by simp at oy;omega) JY
    let row:List Value:=vs.toList.take (j ()*ty.size+off)++(a.eval v).cells.toList++vs.toList.drop (j ()*ty.size+off+(a.eval v).cells.toList.length)
    have eN:=gz hb row.toArray
    have wS:row.length=cap*ty.size:=by
     simp only[row,abp,aby,abG,Array.length_toList]
     simp at oy ⊢
     omega
    refine⟨.skip,Go.undef,.skip,_,g',aj,_,?_,.inr ⟨rfl,rfl⟩,hinv.set (c:=.row T ty fun u=>(xs u).set (j u) (y u)) (by rw[hE];simp[Chunk.own,hV]) eN (gN (T:=T) (t:=ty) (xs:=fun u=>(xs u).set (j u) (y u)) (cap:=cap) (vs:=row.toArray) hV (by simp[Np]) eN.at_ (by simpa using wS) (by simpa using cX) ?_) (by simp[Chunk.own,hV]) (fun _ _ _ hc=>by cases hc),.skip,hk⟩
    ·simp[execOp,ho,Instr.storeAt,Instr.sureAddr,hv,bn,row]
    ·
     have lO:row.toArray.toList.take (((fun u=>(xs u).set (j u) (y u)) ()).length*ty.size) =
       (vs.toList.take ((xs ()).length*ty.size)).take (j ()*ty.size)++((((vs.toList.take ((xs ()).length*ty.size)).drop (j ()*ty.size)).take ty.size).take off++(a.eval v).cells.toList++(((vs.toList.take ((xs ()).length*ty.size)).drop (j ()*ty.size)).take ty.size).drop (off+(a.eval v).cells.toList.length))++(vs.toList.take ((xs ()).length*ty.size)).drop (j ()*ty.size+ty.size):=by
      have:=Gp vs.toList (a.eval v).cells.toList ((xs ()).length*ty.size) (j ()*ty.size) ty.size off (by simp;omega) rN oy
      simpa [row]using this
     rw[lO]
     have Gt:(xs ()).set (j ()) (y ())=(xs ()).take (j ())++[y ()]++(xs ()).drop (j ()+1):=by
      rw[List.set_eq_take_append_cons_drop]
      simp[hj]
     show Data g' ty ((xs ()).set (j ()) (y ())) _
     rw[Gt]
     have d1:=hd.take (j ())
     have d3:=hd.drop (j ()+1)
     have d2:Data g' ty [y ()] ((((vs.toList.take ((xs ()).length*ty.size)).drop (j ()*ty.size)).take ty.size).take off++(a.eval v).cells.toList++(((vs.toList.take ((xs ()).length*ty.size)).drop (j ()*ty.size)).take ty.size).drop (off+(a.eval v).cells.toList.length)):=by
      have:=Data.cons (g:=g') (t:=ty) (x:=y ()) (xs:=[]) (us:=[]) (by rw[iJ];exact h3) (Data.nil g' ty)
      simpa using this
     have:=(d1.append d2).append d3
     rw[ace,adn]at this
     exact this
 ·rename_i i f ex
  rw[ex]at hx
  split at hk <;> try exact hk.elim
  rename_i c hp hE
  obtain⟨k,off,T,n,cc,hv,h',h1,h2,h3,h4,h5,h6⟩:=hk.h
  rw[bf]at h6
  obtain⟨lP,hi,hf⟩:=hx.kK
  rw[h1]at lP
  have Xd:=hf _ h1
  obtain⟨vs,hb,AN,dw⟩:=h.aZ.ow hE Xd h2
  obtain⟨u,hu⟩:∃ u,(a.eval v).cells.toList=[u]:=by
   match hl:(a.eval v).cells.toList,hr.length with
   | [u],_=>exact⟨u,rfl⟩
  rw[hu]at hr
  have Uz:(a.eval v).cells.size=1:=by have:=congrArg List.length hu;simpa using this
  have bn:=fU (P:=P) (w:=w) (t:=t) cv (off:=off) hb JR (by omega) JY
  simp only[hu]at bn
  refine⟨.skip,Go.undef,.skip,_,g,env,_,?_,.inr ⟨rfl,rfl⟩,h.eN (o:=.cells T n fun j=>if j=off then hv else cc j) hE Xd (gz hb (vs.toList.take off++[u]++vs.toList.drop (off+[u].length)).toArray) ⟨_,rfl,?_,fun j w' hj=>?_⟩ h5,.skip,h6⟩
  ·simp[execOp,ho,Instr.storeAt,Instr.sureAddr,lP,bn]
  ·simp;omega
  ·have bm:off<vs.toList.length:=by simp;omega
   simp only[ad7]at hj
   by_cases Qv:j=off
   ·subst Qv
    simp only[if_true]
    have:u=w':=by
     have hlen:(vs.toList.take j).length=j:=by rw[aby];omega
     rw[aet,adp (by rw[hlen];exact abr _),hlen,aeo]at hj
     simpa using hj
    subst this
    exact h4.R hi hr.1
   ·simp only[Qv,if_false]
    refine dw j w' ?_
    rw[←hj]
    simp only[aet,abT,aby,acU,abK,abI]
    rw[acq (Nat.le_of_lt bm)]
    rcases acT j off with JZ|JZ|JZ
    ·simp[JZ]
    ·exact(Qv JZ).elim
    ·have e1:¬j<off:=by omega
     have e2:¬j - off<1:=by omega
     simp only[e1,e2,if_false]
     rw[show off+1+(j - off - 1)=j by omega]
     simp
end
section
variable {P:Program} {B:bU} {g:Gh} {env:Env} {E:List Chunk} {tmps:Array Value} {w:World}
variable {a:Act} {o:Oper} {K:AV→Env→List Chunk→Prop}
theorem gZ.at_ {i:Nat} {d:IntKind} {n:Int}:∀ {es:List (Nat×Int×HV)} {ms:List MapEntry} (j:Nat),gZ g i es ms →
  (∃ k u v e,Instr.findNow (.int d) (.int .i64 n) ms j=some (some (j+k,u))∧ms[k]?=some e∧e.key=.int .i64 n∧aO es n=some v ∧
   (∀ clock hv x,R g (hv.av i) x→gZ g i (bY es clock n hv) (ms.set k { e with key:=.int .i64 n,val:=x }))∧gZ g i (b8 es n) (ms.eraseIdx k)) ∨
  (Instr.findNow (.int d) (.int .i64 n) ms j=some none∧aO es n=none∧(∀ clock hv x,R g (hv.av i) x→gZ g i (bY es clock n hv) (ms++[{ key:=.int .i64 n,val:=x,born:=clock }]))∧b8 es n=es)
 | [],[],j,_=>.inr ⟨rfl,rfl,fun clock hv x hx=>⟨rfl,rfl,hx,trivial⟩,rfl⟩
 | (b,m,v)::es,e::ms,j,h=>by
  obtain⟨h1,h2,h3,h4⟩:=h
  by_cases hn:m=n
  ·subst hn
   refine .inl ⟨0,e.val,v,e,by simp[Instr.findNow,h2,Instr.sameNow],rfl,h2,by simp[aO],fun clock hv x hx=>?_,?_⟩
   ·simp only[bY,if_true,aep];exact⟨h1,rfl,hx,h4⟩
   ·simp only[b8,if_true,List.eraseIdx_cons_zero];exact h4
  ·have hb:(n == m)=false:=by simpa using fun e=>hn e.symm
   have e1:Instr.findNow (.int d) (.int .i64 n) (e::ms) j=Instr.findNow (.int d) (.int .i64 n) ms (j+1):=by simp[Instr.findNow,h2,Instr.sameNow,hb]
   rw[e1]
   rcases gZ.at_ (d:=d) (n:=n) (j+1) h4 with⟨k,u,v',e',g1,g2,g3,g4,g5,g6⟩|⟨g1,g2,g3,g4⟩
   ·refine .inl ⟨k+1,u,v',e',by rw[g1];congr 3;omega,by simpa using g2,g3,by simp[aO,hn,g4],fun clock hv x hx=>?_,?_⟩
    ·simp only[bY,hn,if_false,List.set_cons_succ];exact⟨h1,h2,h3,g5 clock hv x hx⟩
    ·simp only[b8,hn,if_false,List.eraseIdx_cons_succ];exact⟨h1,h2,h3,g6⟩
   ·refine .inr ⟨g1,by simp[aO,hn,g2],fun clock hv x hx=>?_,by simp[b8,hn,g4]⟩
    simp only[bY,hn,if_false,acR];exact⟨h1,h2,h3,g3 clock hv x hx⟩
theorem yC {t:Nat} {z:Value} (h:iU P t=some z):∃ kt et,aT P t=some (.map kt et)∧aT P kt=some (.int .i64):=by
 unfold iU at h
 split at h <;> try (cases h;done)
 rename_i kt et ht
 split at h <;> try (cases h;done)
 rename_i px
 exact⟨kt,et,ht,px⟩
theorem iw {kt:Nat} (px:aT P kt=some (.int .i64)) (n:Int) (b:Bool):(Instr.checkKey b 10000 kt (.int .i64 n)).run P w=.ok () w:=by
 unfold Instr.checkKey
 simp only[Sem.run_bind,ag px,Result.andThen_ok]
 rfl
theorem setAt {b:Nat} {ob Gk:Obj} (hb:w.heap[b]?=some ob):qO w { w with heap:=w.heap.setIfInBounds b Gk } b Gk :=
 ⟨rfl,rfl,⟨rfl,abr _⟩,by simp,(MapKept.heap_set hb).1,(MapKept.heap_set hb).2⟩
theorem wT {t:TypeId} {m k x:Operand} (h:Inv B g env E a.tmps w) (ho:o.op=.mapUpdate t m k x) (hk:eV P (.mapUpdate t m k x) env E K):iv P o a w B K:=by
 simp only[eV]at hk
 have hm:=h.er.ev m
 have wU:=h.er.ev k
 have hx:=h.er.ev x
 split at hk <;> try exact hk.elim
 rename_i i f n em ek
 rw[em]at hm
 rw[ek]at wU
 split at hk <;> try exact hk.elim
 rename_i hp hE
 obtain⟨es,clock,z,hv,h',h1,h2,h3,h4,h5⟩:=hk.h
 rw[bf]at h5
 obtain⟨lP,hi,hf⟩:=hm.ov
 have TH:=wU.bS
 obtain⟨ms,hb,fX⟩:=h.aZ.AM hE hf h1
 obtain⟨kt,et,ht,px⟩:=yC h2
 have hR:=h3.R hi hx
 rcases fX.at_ (d:=.i64) (n:=n ()) 0 with⟨j,u,v,e,g1,g2,g3,g4,g5,g6⟩|⟨g1,g2,g3,g4⟩
 ·have hj:ms[j]?=some e:=by simpa using g2
  rw[abx]at g1
  refine⟨.skip,Go.undef,.skip,_,g,env,_,?_,.inr ⟨rfl,rfl⟩,h.eN (o:=vc es clock (n ()) hv) hE hf (setAt (Gk:=.map (ms.modify j fun e=>{ e with key:=.int .i64 (n ()),val:=a.eval x }) clock) hb) ⟨_,by rw[g4],?_⟩ h4,.skip,h5⟩
  ·have dm:(Instr.keyThatStays (.int .i64 (n ())) (.int .i64 (n ()))).run P w=.ok (.int .i64 (n ())) w:=by simp[Instr.keyThatStays,Instr.sameBits]
   simp[execOp,ho,Instr.mapUpdate,ag ht,lP,TH,MapKept.run_getObj_map hb,iw px,MapKept.run_findKey (aw px) g1,hj,g3,dm,MapKept.run_setObj_map _ hb,Result.andThen]
  ·have:=g5 clock hv (a.eval x) hR
   have e:(ms.modify j fun e=>{ e with key:=.int .i64 (n ()),val:=a.eval x }).toList=ms.toList.set j { e with key:=.int .i64 (n ()),val:=a.eval x }:=by
    apply ac5
    intro q
    rw[Array.toList_modify,List.getElem?_modify,acG]
    by_cases hq:j=q
    ·subst hq
     have hl:=(abk.1 g2).1
     rw[g2];simp at hl;simp[hl]
    ·simp[hq]
   rw[e];exact this
 ·refine⟨.skip,Go.undef,.skip,_,g,env,_,?_,.inr ⟨rfl,rfl⟩,h.eN (o:=vc es clock (n ()) hv) hE hf (setAt (Gk:=.map (ms.push { key:=.int .i64 (n ()),val:=a.eval x,born:=clock }) (clock+1)) hb) ⟨_,by rw[g2],?_⟩ h4,.skip,h5⟩
  ·simp[execOp,ho,Instr.mapUpdate,ag ht,lP,TH,MapKept.run_getObj_map hb,iw px,MapKept.run_findKey (aw px) g1,MapKept.run_setObj_map _ hb,Result.andThen]
  ·rw[Array.toList_push];exact g3 clock hv (a.eval x) hR
theorem Ej {ts:List Nat} {xs:List Operand} (h:Inv B g env E a.tmps w) (ho:o.op=.call { callee:=.builtin .delete,args:=⟨xs⟩,argTypes:=⟨ts⟩ }) (hk:cy P .delete ts (qF env xs) env E K):iv P o a w B K:=by
 simp only[cy]at hk
 split at hk <;> try exact hk.elim
 rename_i t ts' i f n UA
 split at hk <;> try exact hk.elim
 rename_i hp hE
 obtain⟨es,clock,z,h',h1,h2,h4,h5⟩:=hk.h
 rw[bf]at h5
 have eu:=h.er.qF xs
 rw[UA]at eu
 obtain⟨m,k,AZ⟩:∃ m k,xs.map a.eval=[m,k]:=by
  match hl:xs.map a.eval,eu.length with
  | [m,k],_=>exact⟨m,k,rfl⟩
 rw[AZ]at eu
 obtain⟨lP,hi,hf⟩:=eu.1.ov
 have TH:=eu.2.1.bS
 subst lP TH
 obtain⟨ms,hb,fX⟩:=h.aZ.AM hE hf h1
 obtain⟨kt,et,ht,px⟩:=yC h2
 have s5:(⟨xs⟩:Array Operand).map a.eval=#[.map (some (g.W i (f ()))),.int .i64 (n ())]:=by apply acS;simpa using AZ
 rcases fX.at_ (d:=.i64) (n:=n ()) 0 with⟨j,u,v,e,g1,g2,g3,g4,g5,g6⟩|⟨g1,g2,g3,g4⟩
 ·rw[abx]at g1
  refine⟨.value (.tuple #[]),_,.bM [],_,g,env,_,?_,.inl rfl,h.eN (o:=.map (b8 es (n ())) clock) hE hf (setAt (Gk:=.map (ms.eraseIdxIfInBounds j) clock) hb) ⟨_,rfl,?_⟩ h4,R.il (cs:=[]) (vs:=[]) trivial,h5⟩
  ·simp[execOp,ho,resolve,invoke,s5,builtin,Builtin.delete_,ag ht,MapKept.run_getObj_map hb,iw px,MapKept.run_findKey (aw px) g1,MapKept.run_setObj_map _ hb,Result.andThen]
  ·have hj:j<ms.size:=by have:=(abk.1 g2).1;simpa using this
   have e:(ms.eraseIdxIfInBounds j).toList=ms.toList.eraseIdx j:=by
    unfold Array.eraseIdxIfInBounds
    rw[dif_pos hj,Array.toList_eraseIdx]
   rw[e];exact g6
 ·refine⟨.value (.tuple #[]),_,.bM [],_,g,env,_,?_,.inl rfl,h.eN (o:=.map (b8 es (n ())) clock) hE hf (setAt (Gk:=.map ms clock) hb) ⟨_,rfl,?_⟩ h4,R.il (cs:=[]) (vs:=[]) trivial,h5⟩
  ·simp[execOp,ho,resolve,invoke,s5,builtin,Builtin.delete_,ag ht,MapKept.run_getObj_map hb,iw px,MapKept.run_findKey (aw px) g1,MapKept.run_setObj_map _ hb,Result.andThen]
  ·rw[g4];exact fX
theorem Gu {t:TypeId} {x:Operand} (h:Inv B g env E a.tmps w) (ho:o.op=.range t x) (hk:eV P (.range t x) env E K):iv P o a w B K:=by
 simp only[eV]at hk
 unfold Ge at hk
 have hx:=h.er.ev x
 split at hk <;> try exact hk.elim
 rename_i i f ex
 rw[ex]at hx
 split at hk <;> try exact hk.elim
 rename_i hp hE
 obtain⟨es,clock,kt,et,h1,ht,h5⟩:=hk.h
 rw[fz,bf]at h5
 obtain⟨lP,hi,hf⟩:=hx.ov
 obtain⟨ms,hb,fX⟩:=h.aZ.AM hE hf h1
 have hn:=sZ.push w (.mapIter (some (g.W i (f ()))) clock #[] clock)
 have hle:=g.jW w.heap.size Option.none 0
 have hinv:=h.new (w':={ w with heap:=w.heap.push (.mapIter (some (g.W i (f ()))) clock #[] clock) }) (c:=.jD (.hm i f) clock clock fun _=>[]) (b:=w.heap.size) (v:=Option.none) (l:=0) hn.os hn.tape hn.output (by rw[hn.size];omega) hn.lC
  ⟨_,(R.hm (g:=g) i f hi hf).mono hle,by simp[Gh.add]⟩ (fun b' dJ=>by simp[Chunk.own,Gh.add]at dJ;omega)
 refine⟨_,.pointer (some ⟨w.heap.size,0,none⟩),_,_,_,_,_,?_,.inl rfl,hinv,?_,h5⟩
 ·simp[execOp,ho,Instr.range,ag ht,lP,MapKept.run_getObj_map hb,Result.andThen,newObj,Sem.run]
 ·exact Gl g E h.aZ.len _ _ _
theorem J0 {x:Operand} (h:Inv B g env E a.tmps w) (ho:o.op=.next x false) (hk:eV P (.next x false) env E K):iv P o a w B K:=by
 simp only[eV]at hk
 unfold LX at hk
 have hx:=h.er.ev x
 split at hk <;> try exact hk.elim
 rename_i i ex
 rw[ex]at hx
 split at hk <;> try exact hk.elim
 rename_i j f since last seen hE
 split at hk <;> try exact hk.elim
 rename_i hp UB
 obtain⟨es,h1,h2,h3,h4,h5⟩:=hk.h
 subst h2
 have hs:=h.aZ.sat i
 rw[hE]at hs
 obtain⟨b,TI,hr⟩:=hs
 obtain⟨lP,hj,hf⟩:=TI.ov
 cases lP
 obtain⟨ms,hb,fX⟩:=h.aZ.AM UB hf h1
 have hv:a.eval x=.pointer (some ⟨g.B i,0,none⟩):=by generalize a.eval x=u at hx;cases hx;rfl
 have get:∀ {es:List (Nat×Int×HV)} {ms:List MapEntry},gZ g j es ms→∀ e∈ms,∃ b n v,(b,n,v)∈es∧e.born=b∧e.key=.int .i64 n∧R g (v.av j) e.val:=by
  intro es ms
  induction es generalizing ms with
  | nil=>intro h e he;cases ms with
   | nil=>simp at he
   | cons _ _=>exact h.elim
  | cons p es ih =>
   obtain⟨b,n,v⟩:=p
   intro h e he
   cases ms with
   | nil=>exact h.elim
   | cons e' ms =>
    obtain⟨q1,q2,q3,q4⟩:=h
    rcases abE.1 he with rfl|he
    ·exact⟨b,n,v,.head _,q1,q2,q3⟩
    ·obtain⟨b,n,v,r1,r2⟩:=ih q4 e he
     exact⟨b,n,v,.tail _ r1,r2⟩
 have get':∀ {es:List (Nat×Int×HV)} {ms:List MapEntry},gZ g j es ms→∀ p∈es,∃ e∈ms,e.born=p.1:=by
  intro es ms
  induction es generalizing ms with
  | nil=>intro h p hp;simp at hp
  | cons p es ih =>
   obtain⟨b,n,v⟩:=p
   intro h q hq
   cases ms with
   | nil=>exact h.elim
   | cons e' ms =>
    obtain⟨q1,q2,q3,q4⟩:=h
    rcases abE.1 hq with rfl|hq
    ·exact⟨e',.head _,q1⟩
    ·obtain⟨e,r1,r2⟩:=ih q4 q hq
     exact⟨e,.tail _ r1,r2⟩
 have hold:∀ x∈ms.toList,x.born<last:=fun e he=>by
  obtain⟨b,n,v,q1,q2,_⟩:=get fX e he
  rw[q2];exact h3 _ q1
 rcases run_next_at (P:=P) w o.type (g.B i) (g.W j (f ())) last last (seen ()).toArray ms last hr hb hold (abr _)with⟨q1,q2⟩|⟨e,he,w1,Ek,q2⟩
 ·refine⟨.value (.tuple #[.bool false]),_,_,w,g,env,E,?_,.inl rfl,h,R.il (cs:=[.ff]) (vs:=[.bool false]) ⟨.ff,trivial⟩,h4 ?_⟩
  ·simp[execOp,ho,hv,q2]
  ·intro p hp
   obtain⟨e,r1,r2⟩:=get' fX p hp
   have:¬(e∈(leftOf ms (seen ()).toArray).toList):=by
    have e0:leftOf ms (seen ()).toArray=#[]:=acx q1
    rw[e0];simp
   unfold leftOf at this
   simp only[Array.toList_filter,acr,not_and]at this
   have:=this r1
   rw[←r2]
   simpa using this
 ·have bc:e∈ms.toList∧¬e.born∈seen ():=by
   unfold leftOf at he
   simp only[Array.toList_filter,acr]at he
   exact⟨he.1,by simpa using he.2⟩
  obtain⟨b,n,v,r1,r2,r3,r4⟩:=get fX e bc.1
  have wO:=h5 b n v r1 (by rw[←r2];exact bc.2)
  rw[gu,bf]at wO
  have ma:yw w w1:=by rcases Ek with rfl|rfl <;> first|exact⟨rfl,rfl,⟨rfl,abr _⟩,rfl⟩|exact⟨rfl,rfl,⟨rfl,adh _⟩,rfl⟩
  have oC:w1.heap[g.B i]?=some (.mapIter (some (g.W j (f ()))) last (seen ()).toArray last):=by rw[ma.heap];exact hr
  have hinv:=(h.same ma).set (c:=.jD (.hm j f) last last fun _=>seen ()++[b]) (by rw[hE];rfl) (setAt (Gk:=.mapIter (some (g.W j (f ()))) last ((seen ()).toArray.push e.born) last) oC)
   ⟨_,TI,by rw[(setAt (Gk:=.mapIter (some (g.W j (f ()))) last ((seen ()).toArray.push e.born) last) oC).at_];congr 2;rw[r2];apply acS;simp⟩ rfl (fun T' t' Jq hc=>by cases hc)
  refine⟨.value (.tuple #[.bool true,e.key,e.val]),_,_,_,g,env,_,?_,.inl rfl,hinv,R.il (cs:=[.tt,.int .i64 fun _=>n,v.av j]) (vs:=[.bool true,e.key,e.val]) ⟨.tt,by rw[r3];exact .int .i64 (fun _=>n),r4,trivial⟩,wO⟩
  simp[execOp,ho,hv,q2,ChangeMaps.setBlock]
theorem Gv {x:Operand} (h:Inv B g env E a.tmps w) (ho:o.op=.entry x) (hk:eV P (.entry x) env E K):iv P o a w B K:=by
 simp only[eV]at hk
 unfold Gf at hk
 have hx:=h.er.ev x
 split at hk <;> try exact hk.elim
 rename_i i ex
 rw[ex]at hx
 split at hk <;> try exact hk.elim
 rename_i j f since last seen hE
 split at hk <;> try exact hk.elim
 rename_i hp UB
 obtain⟨es,bb,en,h1,h2,h3,h4⟩:=hk.h
 rw[gu]at h4
 have hs:=h.aZ.sat i
 rw[hE]at hs
 obtain⟨b,TI,hr⟩:=hs
 obtain⟨lP,hj,hf⟩:=TI.ov
 cases lP
 obtain⟨ms,hb,fX⟩:=h.aZ.AM UB hf h1
 have hv:a.eval x=.pointer (some ⟨g.B i,0,none⟩):=by generalize a.eval x=u at hx;cases hx;rfl
 have get:∀ {es:List (Nat×Int×HV)} {ms:List MapEntry},gZ g j es ms→es.find? (fun e=>e.1 == bb)=some en→∃ e,ms.find? (fun e=>e.born == bb)=some e∧e.key=.int .i64 en.2.1∧R g (en.2.2.av j) e.val:=by
  intro es ms
  induction es generalizing ms with
  | nil=>intro h he;cases he
  | cons p es ih =>
   obtain⟨b,n,v⟩:=p
   intro h he
   cases ms with
   | nil=>exact h.elim
   | cons e' ms =>
    obtain⟨q1,q2,q3,q4⟩:=h
    simp only[List.find?_cons]at he ⊢
    rw[q1]
    cases Qw:b == bb with
    | true=>rw[Qw]at he;cases he;exact⟨e',rfl,q2,q3⟩
    | false=>rw[Qw]at he;exact ih q4 he
 obtain⟨e,r1,r2,r3⟩:=get fX h3
 have yD:(seen ()).toArray.back?=some bb:=by rw[←h2];simp
 have Qx:ms.find? (fun e=>e.born == bb)=some e:=by rw[←r1];simp
 refine⟨.value (.tuple #[e.key,e.val]),_,_,w,g,env,E,?_,.inl rfl,h,R.il (cs:=[.int .i64 fun _=>en.2.1,en.2.2.av j]) (vs:=[e.key,e.val]) ⟨by rw[r2];exact .int .i64 (fun _=>en.2.1),r3,trivial⟩,h4⟩
 simp[execOp,ho,hv,Instr.entry,getObj,Sem.run,Sem.bind,hr,hb,yD,Qx]
end
section
variable {P:Program} {B:bU} {g:Gh} {env:Env} {E:List Chunk} {tmps:Array Value} {w:World}
variable {a:Act} {o:Oper} {K:AV→Env→List Chunk→Prop}
theorem vg {t len:Nat} {parts:Array (Nat×Operand)} (h:Inv B g env E a.tmps w) (ho:o.op=.buildSlice t len parts) (hk:eV P (.buildSlice t len parts) env E K):iv P o a w B K:=by
 simp only[eV]at hk
 split at hk <;> try exact hk.elim
 rename_i e ht
 split at hk <;> try exact hk.elim
 rename_i sz z ps cv hz Gc
 split at hk <;> try exact hk.elim
 rename_i Jo vC
 have Jo:len≤1000:=ab3 Jo
 have vC:sz≤1000:=ab3 vC
 have UC:len*sz≤1000000:=Nat.mul_le_mul Jo vC
 split at hk <;> try exact hk.elim
 rename_i zc Qy
 split at hk <;> try exact hk.elim
 rename_i cs Yx hf
 rw[fA]at hk
 have Gw:zc.length=sz:=abl Yx
 have Ed:=(nT g z).cells Qy
 have El:z.cells.size=sz:=by have:=Ed.length;simp at this;omega
 obtain⟨wM,Ur⟩:=qJ h.er parts.toList ps Gc
 have Jm:∀ (i:Nat) (c:Nat×List AV),ps[i]?=some c→∃ u:Value,(parts.toList.map fun ix=>(ix.1,a.eval ix.2))[i]?=some (c.1,u)∧RL g c.2 u.cells.toList:=by
  intro i c hi
  obtain⟨j,x,h1,h2,h3⟩:=Ur i c hi
  exact⟨a.eval x,by rw[ach,h1];simp[h2],h3⟩
 have hzero:=kb z.cells len
 obtain⟨out,h1,h2⟩:=pq (fun i=>some (i*sz,sz)) ps (parts.toList.map fun ix=>(ix.1,a.eval ix.2)) _ cs ((Array.range (len*z.cells.size)).map (z.cells[· % z.cells.size]!)) hf (by rw[hzero];exact Gq Qy len) (by simp[wM]) Jm
 have L0:out.size=len*sz:=by
  have e1:=h2.length
  have key:∀ (ps:List (Nat×List AV)) (cs r:List AV),nS (fun i=>some (i*sz,sz)) cs ps=some r→r.length=cs.length:=by
   intro ps
   induction ps with
   | nil=>intro cs r hh;simp[nS]at hh;subst hh;rfl
   | cons p ps ih =>
    intro cs r hh
    obtain⟨i,v⟩:=p
    simp only[nS]at hh
    split at hh
    ·split at hh
     ·rename_i mY qK
      rw[ih _ _ hh]
      have UD:∀ (n:Nat) (cs vs r:List AV),lJ n cs vs=some r→r.length=cs.length:=by
       intro n
       induction n with
       | zero =>
        intro cs
        induction cs with
        | nil=>intro vs r h;cases vs <;> simp[lJ]at h;subst h;rfl
        | cons c cs Yy =>
         intro vs r h
         cases vs with
         | nil=>simp[lJ]at h;subst h;rfl
         | cons v vs =>
          simp only[lJ]at h
          split at h
          ·rename_i r' rG
           simp at h;subst h
           simp[Yy vs r' rG]
          ·cases h
       | succ n Yz =>
        intro cs vs r h
        cases cs with
        | nil=>simp[lJ]at h
        | cons c cs =>
         simp only[lJ]at h
         split at h
         ·rename_i r' rG
          simp at h;subst h
          simp[Yz cs vs r' rG]
         ·cases h
      exact UD _ _ _ _ qK
     ·cases hh
    ·cases hh
  have e2:=key ps _ cs hf
  simp[Gw]at e2
  simp at e1
  omega
 have bn:(Instr.buildSlice t len (parts.map fun(i,x)=>(i,a.eval x))).run P w=.ok (.slice (some ⟨w.heap.size,0,none⟩) len len) { w with heap:=w.heap.push (.cells out e) }:=by
  have yh:Instr.fill (fun i=>some (i*sz,sz)) ((Array.range (len*sz)).map (z.cells[· % z.cells.size]!)) (parts.map fun(i,x)=>(i,a.eval x)).toList=some out:=by
   rw[←h1,El];congr 1;simp
  unfold Instr.buildSlice
  simp only[Sem.run_bind,ag ht,Result.andThen_ok,aW cv]
  rw[if_neg (by omega)]
  by_cases h0:len*sz=0
  ·have e0:((Array.range (len*sz)).map ((#[]:Array Value)[· % (#[]:Array Value).size]!))=((Array.range (len*sz)).map (z.cells[· % z.cells.size]!)):=by rw[h0];simp
   simp only[h0,if_true,Sem.run_bind,Sem.run_pure,Result.andThen_ok]
   rw[h0]at yh e0
   rw[e0]
   simp only[yh]
   simp[newRow]
  ·simp only[h0,if_false,Sem.run_bind,ed hz,Sem.run_pure,Result.andThen_ok]
   simp only[yh]
   simp[newRow]
 have hex:(execOp a.eval o).run P w=.ok (.value (.slice (some ⟨w.heap.size,0,none⟩) len len)) { w with heap:=w.heap.push (.cells out e) }:=by
  simp[execOp,ho,bn]
 split at hk
 ·rename_i ty AA
  split at hk <;> try exact hk.elim
  rename_i Gx
  have Gx:ty.size=sz:=abl Gx
  have sS:=Ty.size_pos ty
  obtain⟨g',aj,E',mY,hinv,rG,hk⟩:=qR 8 h h2 hk
  obtain⟨xs,Nq,hd,hk⟩:=Cr len mY _ _ hk rG
  rw[fz,bf]at hk
  have hZ:=hinv.wQ e (xs:=xs) (cap:=len) (vs:=out) (by rw[L0,Gx]) (by omega) (by rw[Nq,abo (by simp[L0,Gx])];exact hd) (sZ.push w _)
  refine⟨_,_,_,_,_,_,_,hex,.inl rfl,hZ,?_,hk⟩
  rw[Nq]
  exact l9 g' E' hinv.aZ.len _ len len sz (fun _=>len) (abr _) (abr _) (by omega)
 ·rw[fz,bf]at hk
  exact⟨_,_,_,_,_,_,_,hex,.inl rfl,h.s4 e h2 (some len) len,l9 g E h.aZ.len _ len len sz (fun _=>len) (abr _) (abr _) (by omega),hk⟩
theorem wV {t:Nat} {l c:Operand} (h:Inv B g env E a.tmps w) (ho:o.op=.makeSlice t l c) (hk:eV P (.makeSlice t l c) env E K):iv P o a w B K:=by
 simp only[eV]at hk
 have hl:=h.er.ev l
 have hc:=h.er.ev c
 split at hk <;> try exact hk.elim
 rename_i l' c' el ec
 rw[el]at hl;rw[ec]at hc
 have hl:=hl.bS
 have hc:=hc.bS
 split at hk <;> try exact hk.elim
 rename_i e ht
 split at hk <;> try exact hk.elim
 rename_i ty sz vD z AA cv sa hz
 split at hk <;> try exact hk.elim
 rename_i gU
 have gU:ty.size=sz:=abl gU
 split at hk <;> try exact hk.elim
 rename_i cs vA
 have Ed:=(nT g z).cells vA
 obtain⟨d,hd,hk⟩:=kN hk Ed
 rw[fz,bf]at hk
 obtain⟨dZ,hk⟩:=hk
 obtain⟨h0,h1,h2,h3⟩:=dZ.h
 have J1:IntKind.i64.wrap (l' ())=l' ():=IntWalk.i64_in _ (by omega)
 have YA:IntKind.i64.wrap (c' ())=c' ():=IntWalk.i64_in _ (by omega)
 obtain⟨ti,wL,u5⟩:∃ i,(typeInfo e).run P w=.ok i w∧i.bytes=vD:=by
  unfold iT at sa
  split at sa
  ·rename_i i hi
   simp only[ab6]at sa
   exact⟨i,by simp[typeInfo,bA hi],sa⟩
  ·cases sa
 have El:z.cells.size=sz:=by have:=hd.length;rw[bz]at this;simp at this;omega
 let vs:Array Value:=(Array.range ((c' ()).toNat*z.cells.size)).map (z.cells[· % z.cells.size]!)
 have Ch:vs.toList=(List.replicate (c' ()).toNat z.cells.toList).flatten:=kb z.cells _
 have bn:(Instr.makeSlice t (a.eval l) (a.eval c)).run P w=.ok (.slice (some ⟨w.heap.size,0,none⟩) (l' ()).toNat (c' ()).toNat) { w with heap:=w.heap.push (.cells vs e) }:=by
  unfold Instr.makeSlice
  simp only[hl,hc,Sem.run_bind,ag ht,Result.andThen_ok,asInt,asIntOf,Sem.run_pure,wL,u5,J1,YA,aW cv]
  have YB:(2:Int) ^ 48=281474976710656:=by decide
  have Qz:(decide (c' ()<0) || decide ((vD:Int)*c' ()>2 ^ 48) || decide (l' ()<0) || decide (l' ()>c' ()))=false:=by
   rw[YB]
   simp only[Bool.or_eq_false_iff,decide_eq_false_iff_not]
   exact⟨⟨⟨by omega,Int.not_lt.2 h3⟩,by omega⟩,by omega⟩
  rw[if_neg (by rw[Qz];exact Bool.false_ne_true)]
  simp only[run_askRoom,Result.andThen_ok,Sem.run_bind,aW cv]
  by_cases FK:(c' ()).toNat*sz=0
  ·have e0:((Array.range ((c' ()).toNat*sz)).map ((#[]:Array Value)[· % (#[]:Array Value).size]!))=vs:=by simp only[vs];rw[El,FK];simp
   simp only[FK,if_true,Sem.run_bind,Sem.run_pure,Result.andThen_ok]
   rw[FK]at e0
   rw[e0]
   simp[newRow]
  ·simp only[FK,if_false,Sem.run_bind,ed hz,Sem.run_pure,Result.andThen_ok]
   simp[newRow,vs,El]
 have hex:(execOp a.eval o).run P w=.ok (.value (.slice (some ⟨w.heap.size,0,none⟩) (l' ()).toNat (c' ()).toNat)) { w with heap:=w.heap.push (.cells vs e) }:=by
  simp[execOp,ho,bn]
 have L1:Data g ty (List.replicate (c' ()).toNat (d ())) vs.toList:=by rw[Ch];exact Data.replicate (by rw[iJ];exact hd) _
 have hle:(l' ()).toNat≤(c' ()).toNat:=by omega
 have Em:=L1.take (l' ()).toNat
 rw[List.take_replicate,acq hle]at Em
 have hZ:=h.wQ e (t:=ty) (xs:=fun u=>List.replicate (l' u).toNat (d u)) (cap:=(c' ()).toNat) (vs:=vs) (by simp[vs,El,gU]) (by simp;omega) (by simpa using Em) (sZ.push w _)
 refine⟨_,_,_,_,_,_,_,hex,.inl rfl,hZ,?_,hk⟩
 have:=l9 g E h.aZ.len w.heap.size (c' ()).toNat (l' ()).toNat sz (fun u=>(l' u).toNat) (abr _) hle (by omega)
 simpa using this
theorem Inv.Nr (h:Inv B g env E tmps w) {w':World} {ob:Obj} (hw:sZ w w' ob):Inv B { g with Φ:=fun b=>if b=w.heap.size then some ob else g.Φ b } env E tmps w'∧g.le { g with Φ:=fun b=>if b=w.heap.size then some ob else g.Φ b }:=by
 have hle:g.le { g with Φ:=fun b=>if b=w.heap.size then some ob else g.Φ b } :=
  ⟨abr _,fun b o' hb=>by
   have:=bt (h.aZ.dA b o' hb)
   show(if b=w.heap.size then some ob else g.Φ b)=_
   rw[if_neg (by omega)];exact hb,fun _ _=>rfl,fun _ _=>rfl,fun _ _=>rfl,rfl,fun _ _ _ _=>rfl,fun _ _=>abr _⟩
 have Cs:∀ i b',(af E i).own { g with Φ:=fun b=>if b=w.heap.size then some ob else g.Φ b } i b'=(af E i).own g i b':=fun i b'=>Chunk.qM rfl rfl rfl rfl
 refine⟨⟨h.er.mono hle,⟨h.aZ.len,fun b o' hb=>?_,fun i=>?_,fun i j b hi hj=>?_,fun i b hi=>?_⟩,⟨hw.os.trans h.ext.os,hw.tape.trans h.ext.tape,hw.output.trans h.ext.output,by rw[hw.size];have:=h.ext.size;omega,fun b h1 h2=>?_,fun b o' hb=>hle.dA b o' (h.ext.dA b o' hb),fun b o' hb=>?_,fun i b hi=>?_,h.ext.n,h.ext.ids,h.ext.kk,h.ext.nJ,h.ext.r9,h.ext.qN⟩⟩,hle⟩
 ·have hm:(if b=w.heap.size then some ob else g.Φ b)=some o':=hb
  clear hb
  split at hm
  ·rename_i e;subst e;cases hm;exact hw.at_
  ·have:=h.aZ.dA b o' hm
   rw[hw.lC b (bt this)];exact this
 ·exact Chunk.fF (fun _ _ _ h=>h.mono hle.dA) (fun _ _ h=>h.mono hle) rfl rfl rfl rfl rfl rfl (fun b hb=>hw.lC b (ft (h.aZ.sat i) hb)) (h.aZ.sat i)
 ·rw[Cs]at hi hj
  exact h.aZ.lL i j b hi hj
 ·rw[Cs]at hi
  have:=ft (h.aZ.sat i) hi
  show(if b=w.heap.size then some ob else g.Φ b)=_
  rw[if_neg (by omega)];exact h.aZ.dQ i b hi
 ·rw[hw.lC b (abB h1 h.ext.size)];exact h.ext.cE b h1 h2
 ·have hm:(if b=w.heap.size then some ob else g.Φ b)=some o':=hb
  clear hb
  split at hm
  ·rename_i e;subst e;exact .inr (.inl h.ext.size)
  ·exact h.ext.fS b o' hm
 ·rw[Cs]at hi
  exact h.ext.own i b hi
theorem A1 {src dst:Nat} {x:Operand} {u0:TypeDesc} (UE:aT P src=some u0) (h:Inv B g env E a.tmps w) (ho:o.op=.convert src dst x) (hk:eV P (.convert src dst x) env E K):iv P o a w B K:=by
 simp only[eV]at hk
 have hx:=h.er.ev x
 split at hk <;> try exact hk.elim
 rename_i e s hd ex
 rw[ex]at hx
 have hx:=hx.ir
 split at hk <;> try exact hk.elim
 rename_i he
 obtain⟨dZ,hk⟩:=hk
 have dZ:=dZ.h
 have bn:=Lib.run_convert_string_bytes (P:=P) w src dst e ⟨(s ()).toArray⟩ (aw UE) (aw hd) (aw he)
 have hw:sZ w (Lib.bytesWorld w e ⟨(s ()).toArray⟩) (.cells (Lib.bytesCells w e ⟨(s ()).toArray⟩) e ((Lib.bytesCells w e ⟨(s ()).toArray⟩).size,(Lib.bytesCells w e ⟨(s ()).toArray⟩).size+1)) :=
  ⟨rfl,rfl,⟨rfl,adh _⟩,Lib.bytesWorld_size _ _ _,Lib.bytesWorld_at_new _ _ _,fun k hk=>Lib.bytesWorld_at_old _ _ _ k hk⟩
 obtain⟨hinv,hle⟩:=h.Nr hw
 have cv:(ByteArray.mk (s ()).toArray).size=(s ()).length:=by simp[ByteArray.size]
 refine⟨_,_,_,_,_,_,_,by simp[execOp,ho,hx,bn];rfl,.inl rfl,hinv,?_,hk⟩
 rw[cv]
 have cX:(s ()).length≤grownCap w (s ()).length 0 e:=by
  unfold grownCap Question.cut;simp
 have dw:∀ j,j<(s ()).length→(Lib.bytesCells w e ⟨(s ()).toArray⟩)[j]?=some (.int .u8 (((s ()).getD j 0).toNat:Int)):=by
  intro j hj
  simp[Lib.bytesCells,Array.getElem?_append,ByteArray.size,hj,List.getD]
 have:=R.aG (g:={ g with Φ:=fun b=>if b=w.heap.size then some (.cells (Lib.bytesCells w e ⟨(s ()).toArray⟩) e ((Lib.bytesCells w e ⟨(s ()).toArray⟩).size,(Lib.bytesCells w e ⟨(s ()).toArray⟩).size+1))else g.Φ b })
  (.int .u8) (fun u=>(s u).map fun b=>(b.toNat:Int)) (some ⟨w.heap.size,0,none⟩) (grownCap w (s ()).length 0 e) (fun i _=>.int .u8 (((s ()).getD i 0).toNat:Int)) (by simpa using cX) (by simp;omega)
  (fun i x j y h1 h2=>by
   have hi:i<(s ()).length:=by simpa using(abk.1 h1).1
   have hj:j=0:=by
    have:=(abk.1 h2).1
    simp[enc]at this;omega
   subst hj
   exact⟨w.heap.size,0,Lib.bytesCells w e ⟨(s ()).toArray⟩,e,_,rfl,if_pos rfl,by simpa [Ty.size]using dw i hi⟩)
  (fun i x j y h1 h2=>by
   have hi:i<(s ()).length:=by simpa using(abk.1 h1).1
   have hj:j=0:=by
    have:=(abk.1 h2).1
    simp[enc]at this;omega
   subst hj
   simp[enc]at h2
   subst h2
   refine R.ve ?_
   simp[hi]at h1
   simp[←h1,List.getD,hi])
 simpa using this
end
end Go.Proofs.YthnefnlhcijekaaGreat.Fw
