/- What the laws of this chapter rest on, for every input; part 1. -/
import Derived.WalkKit
import Derived.StillTail
import Derived.Laws.Cells
import Derived.Lib.Builder
import Derived.Lib.UnsafeStr
import Derived.Laws.StructEq
import Derived.LaidEql
import Derived.MapKept
import Derived.Below
import Derived.Maps.AppendAt
import Derived.Lib.ConvBytes
import Derived.Maps.RangeRun
set_option linter.unusedVariables false
set_option linter.unusedSimpArgs false
namespace Go.Proofs.YthnefnlhcijekaaGreat
abbrev ZY:=@if_neg
abbrev ZZ:=@List.getD_eq_getElem?_getD
abbrev Z0:=@if_pos
abbrev Z1:=@List.getElem?_eq_getElem
abbrev Z2:=@List.getElem?_eq_some_iff
abbrev Z3:=@Nat.eq_of_beq_eq_true
abbrev Z4:=@Int.toNat_natCast
abbrev Z5:=@List.mem_cons_of_mem
abbrev Z6:=@List.take_of_length_le
abbrev Z7:=@List.mem_cons_self
abbrev Z8:=@Nat.le_refl
abbrev Z9:=@List.length_cons
abbrev aaa:=@List.mem_iff_getElem?
abbrev aab:=@List.length_append
abbrev aac:=@List.take_length
abbrev aad:=@Int.le_refl
abbrev aae:=@Nat.zero_le
abbrev aaf:=@Nat.zero_add
abbrev aag:=@Nat.lt_of_lt_of_le
abbrev aah:=@List.drop_zero
abbrev aai:=@Bool.and_eq_true
abbrev aaj:=@List.mem_cons
abbrev aak:=@List.length_take
abbrev aal:=@List.map_cons
abbrev aam:=@List.getElem?_drop
abbrev aan:=@Array.getD_eq_getD_getElem?
abbrev aao:=@List.length_set
abbrev aap:=@List.getElem?_take
abbrev aaq:=@Int.tdiv_eq_ediv_of_nonneg
abbrev aar:=@List.length_drop
abbrev aas:=@List.mem_map
abbrev aat:=@List.getElem?_eq_none
abbrev aau:=@List.getElem?_append
abbrev aav:=@Nat.mul_le_mul_right
abbrev aaw:=@Int.mul_nonneg
abbrev aax:=@List.getElem_mem
abbrev aay:=@List.length_nil
abbrev aaz:=@List.length_replicate
abbrev aaA:=@Nat.le_trans
abbrev aaB:=@Int.toNat_of_nonneg
abbrev aaC:=@List.getElem?_replicate
abbrev aaD:=@List.mem_append
abbrev aaE:=@List.take_add_one
abbrev aaF:=@Option.isSome_iff_exists
abbrev aaG:=@Classical.byContradiction
abbrev aaH:=@Int.mul_le_mul
abbrev aaI:=@List.nodup_iff_pairwise_ne
abbrev aaJ:=@Option.some.injEq
abbrev aaK:=@List.getD_cons_succ
abbrev aaL:=@List.length_eq_zero_iff
abbrev aaM:=@Nat.le_of_ble_eq_true
abbrev aaN:=@Array.getElem?_eq_getElem
abbrev aaO:=@Option.map_some
abbrev aaP:=@List.nodup_nil
abbrev aaQ:=@Nat.add_mul
abbrev aaR:=@List.Nodup.mem_erase_iff
abbrev aaS:=@List.getElem?_map
abbrev aaT:=@List.nodup_cons
abbrev aaU:=@List.drop_eq_getElem_cons
abbrev aaV:=@Int.emod_nonneg
abbrev aaW:=@Nat.one_le_two_pow
abbrev aaX:=@List.sum_cons
abbrev aaY:=@List.eq_nil_of_length_eq_zero
abbrev aaZ:=@List.dropWhile_cons
abbrev aa0:=@Nat.min_eq_left
abbrev aa1:=@List.mem_filter
abbrev aa2:=@Nat.mod_eq_of_lt
abbrev aa3:=@Nat.lt_succ_self
abbrev aa4:=@Bool.not_eq_true'
abbrev aa5:=@List.mem_of_mem_take
abbrev aa6:=@Nat.add_zero
abbrev aa7:=@List.length_erase_of_mem
abbrev aa8:=@Array.eq_empty_of_size_eq_zero
abbrev aa9:=@Int.mul_le_mul_of_nonneg_right
abbrev aba:=@List.length_map
abbrev abb:=@List.all_eq_true
abbrev abc:=@Int.tmod_eq_emod_of_nonneg
abbrev abd:=@Nat.testBit_mod_two_pow
abbrev abe:=@List.map_congr_left
abbrev abf:=@Nat.sub_lt_sub_left
abbrev abg:=@List.take_succ_cons
abbrev abh:=@List.getElem?_set
abbrev abi:=@Bool.eq_false_iff
abbrev abj:=@Int.emod_eq_emod_iff_emod_sub_eq_zero
abbrev abk:=@Nat.testBit_div_two_pow
abbrev abl:=@Nat.testBit_mul_two_pow
abbrev abm:=@Nat.mod_lt
abbrev abn:=@Nat.eq_of_testBit_eq
abbrev abo:=@List.mem_singleton
abbrev abp:=@List.cons_append
abbrev abq:=@Array.ext'
abbrev abr:=@Nat.lt_trichotomy
abbrev abt:=@List.length_singleton
abbrev abu:=@List.mem_range
abbrev abv:=@List.Pairwise.imp_of_mem
abbrev abw:=@Int.emod_lt_of_pos
abbrev abx:=@List.pairwise_cons
abbrev aby:=@Option.getD_some
abbrev abz:=@BitVec.ofInt_natCast
abbrev abA:=@Int.fdiv_eq_ediv_of_nonneg
abbrev abB:=@Array.getElem?_setIfInBounds_ne
abbrev abC:=@Nat.testBit_or
abbrev abD:=@Int.add_mul
abbrev abE:=@List.length_pos_of_mem
abbrev abG:=@List.ext_getElem?
abbrev abH:=@List.nodup_append
abbrev abI:=@List.pairwise_map
abbrev abJ:=@Option.some.inj
abbrev abK:=@Array.getElem?_toList
abbrev abL:=@List.erase_of_not_mem
abbrev abM:=@Int.mul_ediv_add_emod
abbrev abO:=@Int.mul_le_mul_of_nonneg_left
abbrev abP:=@List.eq_of_mem_replicate
abbrev abQ:=@Nat.le_succ
abbrev abR:=@List.take_zero
abbrev abS:=@List.mem_append_left
abbrev abT:=@Nat.pow_le_pow_right
abbrev abU:=@List.mem_of_getElem?
abbrev abV:=@Bool.or_eq_true
abbrev abW:=@Nat.not_lt_zero
abbrev abX:=@Bool.eq_iff_iff
abbrev abY:=@Nat.one_mul
abbrev abZ:=@List.getElem?_append_right
abbrev ab0:=@Int.mul_tdiv_add_tmod
abbrev ab1:=@List.getElem?_append_left
abbrev ab2:=@List.getElem?_eq_none_iff
abbrev ab3:=@List.nil_append
abbrev ab4:=@Nat.le_of_eq
abbrev ab5:=@Nat.and_two_pow_sub_one_eq_mod
abbrev ab6:=@Int.le_trans
abbrev ab7:=@Nat.add_assoc
abbrev ab8:=@List.dropLast_concat_getLast
abbrev ab9:=@Go.wpIn_mono
abbrev aca:=@Nat.testBit_two_pow_sub_one
abbrev acb:=@BitVec.toNat_ofNat
abbrev acd:=@Int.tdiv_one
abbrev ace:=@List.map_append
abbrev acf:=@List.length_filter_le
abbrev acg:=@List.take_append_drop
abbrev ach:=@List.extract_eq_drop_take'
abbrev aci:=@Eq.trans
abbrev acj:=@Array.getElem?_append_left
abbrev ack:=@Bool.true_and
abbrev acm:=@List.mem_or_eq_of_mem_set
abbrev acn:=@List.mem_of_mem_drop
abbrev aco:=@Nat.pow_add
abbrev acp:=@Int.mul_add
abbrev acq:=@List.drop_drop
abbrev acr:=@List.take_take
abbrev acs:=@Int.toNat_zero
abbrev acu:=@Nat.pow_succ
abbrev acv:=@Int.add_zero
abbrev acw:=@Int.mul_comm
abbrev acx:=@Int.ediv_le_self
abbrev acy:=@List.filter_sublist
abbrev acz:=@Int.toNat_one
abbrev acA:=@Nat.eq_zero_or_pos
abbrev acB:=@Nat.lt_of_le_of_lt
abbrev acC:=@Int.tmod_nonneg
abbrev acD:=@BitVec.toNat_ofInt
abbrev acE:=@Int.tdiv_nonneg
abbrev acF:=@List.drop_eq_nil_of_le
abbrev acG:=@Int.one_mul
abbrev acH:=@Nat.div_div_eq_div_mul
abbrev acI:=@List.getLast?_eq_some_getLast
abbrev acJ:=@Nat.succ_mul
abbrev acK:=@Nat.div_lt_iff_lt_mul
abbrev acL:=@List.getElem?_toArray
abbrev acM:=@Int.le_of_lt
abbrev acN:=@Bool.not_eq_true
abbrev acO:=@List.mem_of_getLast?
abbrev acP:=@List.getElem?_set_ne
abbrev acQ:=@Option.ne_none_iff_exists'
abbrev acR:=@Array.getElem?_eq_some_iff
abbrev acS:=@Bool.and_self
abbrev acT:=@List.replicate_succ
abbrev acU:=@List.getElem?_range
abbrev acV:=@Decidable.by_contra
abbrev acW:=@Int.natCast_mul
abbrev acX:=@List.getLast?_eq_getElem?
abbrev acY:=@Nat.shiftRight_eq_div_pow
abbrev acZ:=@List.getLast?_eq_none_iff
abbrev ac0:=@Int.ediv_nonneg
abbrev ac1:=@List.sum_append
abbrev ac2:=@Nat.mul_comm
abbrev ac3:=@List.set_cons_zero
abbrev ac4:=@Option.toList_some
abbrev ac5:=@List.flatten_cons
abbrev ac6:=@List.append_assoc
abbrev ac7:=@Int.lt_trichotomy
abbrev ac8:=@Nat.mul_one
abbrev ac9:=@List.getElem?_set_self
abbrev ada:=@List.ext_getElem
abbrev adb:=@Int.max_eq_right
abbrev ade:=@List.filter_cons
end Go.Proofs.YthnefnlhcijekaaGreat
namespace Go.Proofs.YthnefnlhcijekaaGreat.Fw
open Go
inductive Ty|int (k:IntKind)|bool|str|list (e:Ty)|pair (a b:Ty)
 deriving DecidableEq
@[reducible] def Ty.den:Ty->Type
 | .int _=>Int|.bool=>Bool|.str=>List UInt8|.list e=>List e.den|.pair a b=>a.den×b.den
def Ty.bA:(t:Ty)->t.den
 | .int _=>(0:Int)|.bool=>false|.str=>([]:List UInt8)|.list e=>([]:List e.den)|.pair a b=>(a.bA,b.bA)
def Ty.size:Ty->Nat
 | .pair a b=>a.size+b.size|_=>1
inductive AV
 | undef|skip
 | int (k:IntKind) (n:Unit->Int)|bool (b:Unit->Bool)|tt|ff|str (s:Unit->List UInt8)
 | aL (t:Ty) (xs:Unit->List t.den)
 | agg (cs:List AV)|bQ (cs:List AV)
 | bW|ptr (i off:Nat)|bg (i sz:Nat) (idx:Unit->Nat) (off:Nat)|dv (t:Ty) (x:Unit->t.den) (off:Nat)|cM (cs:List AV) (off:Nat)
 | aZ|vec (i sz:Nat) (off n:Unit->Nat)
 | fn (f:Fn) (first captured:List AV)|gD
 | nO (t:Nat) (v:AV)|jO
 | mp (i:Nat)|jP
 | hp (i:Nat) (f:Unit->Option (Nat×Nat))
 | hm (i:Nat) (f:Unit->Nat)
abbrev AV.I (x:Int):AV:=.int .i64 fun _=>x
inductive HV|gQ (t:Ty) (x:t.den)|hp (f:Option (Nat×Nat))|hm (k:Nat)
inductive HO|cells (T:TypeId) (n:Nat) (c:Nat->HV)|map (es:List (Nat×Int×HV)) (clock:Nat)
structure Hp where
 m:Nat
 o:Nat->HO
def Sk (Φ:Nat->Option Obj) (b off:Nat) (u:Value):Prop:=∃ cs T fr,Φ b=some (.cells cs T fr)/\cs[off]?=some u
structure OQ where
 h:(Nat->Option Obj)->Nat->(Nat->Prop)->(Nat->Option Obj)->Prop
 mono:∀ (Φ Φ':Nat->Option Obj) (b:Nat) (S:Nat->Prop) (hp Iu:Nat->Option Obj),(∀ b off u,Sk Φ b off u->Sk Φ' b off u)->(∀ k,S k->Iu k=hp k)->h Φ b S hp->h Φ' b S Iu
inductive Chunk
 | none
 | cells (T:TypeId) (cs:List AV)
 | aq (T:TypeId) (t:Ty) (xs:Unit->List t.den)
 | count (k:Unit->Nat)
 | jd (k:IntKind) (ks:List Int) (vs:List AV)
 | row (T:TypeId) (t:Ty) (xs:Unit->List t.den)
 | heap (h:Unit->Hp)
 | je (x:AV) (since last:Nat) (seen:Unit->List Nat)
 | iZ (T:TypeId) (cs:List AV)
 | bq (q:OQ)
def c8:Chunk->Bool
 | .cells _ _=>true|.jd _ _ _=>true|.row _ _ _=>true|.heap _=>true|.je _ _ _ _=>true|.bq _=>true|_=>false
structure Ob (p:Unit->Prop):Prop where h:p ()
def enc:(t:Ty)->(Unit->t.den)->List AV->List AV
 | .int k,n,r=>.int k n::r|.bool,b,r=>.bool b::r|.str,s,r=>.str s::r|.list e,xs,r=>.aL e xs::r
 | .pair a b,x,r=>enc a (fun u=>(x u).1) (enc b (fun u=>(x u).2) r)
def HV.av (i:Nat):HV->AV
 | .gQ t x=>(match enc t (fun _=>x) []with|[v]=>v|l=>.agg l)
 | .hp f=>.hp i (fun _=>f)
 | .hm k=>.hm i (fun _=>k)
inductive eN (i:Nat):AV->HV->Prop
 | eq (v:HV):eN i (v.av i) v
 | bW:eN i .bW (.hp none)
 | tt:eN i .tt (.gQ .bool true)
 | ff:eN i .ff (.gQ .bool false)
 | aZ (t:Ty):eN i .aZ (.gQ (.list t) [])
def aP {α:Type} (es:List (Nat×Int×α)) (n:Int):Option α:=match es with
 | []=>none|(_,k,v)::r=>if k=n then some v else aP r n
def bV {α:Type} (es:List (Nat×Int×α)) (clock:Nat) (n:Int) (v:α):List (Nat×Int×α):=match es with
 | []=>[(clock,n,v)]|(b,k,x)::r=>if k=n then(b,n,v)::r else(b,k,x)::bV r clock n v
def bZ {α:Type} (es:List (Nat×Int×α)) (n:Int):List (Nat×Int×α):=match es with
 | []=>[]|(b,k,x)::r=>if k=n then r else(b,k,x)::bZ r n
def uB (es:List (Nat×Int×HV)) (clock:Nat) (n:Int) (v:HV):HO:=.map (bV es clock n v) (match aP es n with|some _=>clock|none=>clock+1)
def HO.dN:HO->HO->Prop
 | .cells T n c,.cells T' n' c'=>T=T'/\n=n'/\∀ j,j<n->c j=c' j
 | .map es c,.map Ta c'=>es=Ta/\c=c'
 | _,_=>False
structure Hp.dN (h h':Hp):Prop where
 m:h.m=h'.m
 o:∀ k,k<h.m->(h.o k).dN (h'.o k)
theorem HO.aG:∀ o:HO,o.dN o
 | .cells _ _ _=>⟨rfl,rfl,fun _ _=>rfl⟩
 | .map _ _=>⟨rfl,rfl⟩
theorem Hp.aG (h:Hp):h.dN h:=⟨rfl,fun _ _=>HO.aG _⟩
def Hp.set (h:Hp) (k:Nat) (o:HO):Hp:=⟨h.m,fun j=>if j=k then o else h.o j⟩
def np {t' t:Ty} (h:t'=t) (xs:Unit->List t'.den) (K:(Unit->List t.den)->Prop):Prop :=
 Eq.rec (motive:=fun t _=>((Unit->List t.den)->Prop)->Prop) (fun K=>K xs) h K
theorem E7 {t' t:Ty} (h:t'=t) (xs:Unit->List t'.den) (K:(Unit->List t.den)->Prop):np h xs K=K (h▸xs):=by subst h;rfl
def KX {t' t:Ty} (h:t'=t) (x:Unit->t'.den) (K:(Unit->t.den)->Prop):Prop :=
 Eq.rec (motive:=fun t _=>((Unit->t.den)->Prop)->Prop) (fun K=>K x) h K
def dec:(t:Ty)->List AV->((Unit->t.den)->List AV->Prop)->Prop
 | .int k,.int k' n::r,K=>match decEq k k' with|isTrue _=>K n r|isFalse _=>False
 | .bool,.bool b::r,K=>K b r
 | .bool,.tt::r,K=>K (fun _=>true) r
 | .bool,.ff::r,K=>K (fun _=>false) r
 | .str,.str s::r,K=>K s r
 | .list e,.aL e' xs::r,K=>match decEq e' e with|isTrue h=>np h xs fun xs=>K xs r|isFalse _=>False
 | .list e,.aZ::r,K=>K (fun _=>[]) r
 | .pair a b,r,K=>dec a r fun x r=>dec b r fun y r=>K (fun u=>(x u,y u)) r
 | _,_,_=>False
def vS (t:Ty) (cs:List AV) (K:(Unit->t.den)->Prop):Prop:=dec t cs fun x r=>match r with|[]=>K x|_=>False
def Bu:(t:Ty)->t.den->t.den->Bool
 | .int _,a,b=>@BEq.beq Int _ a b
 | .bool,a,b=>@BEq.beq Bool _ a b
 | .str,a,b=>@BEq.beq (List UInt8) _ a b
 | .list _,_,_=>false
 | .pair a b,x,y=>Bu a x.1 y.1 && Bu b x.2 y.2
structure Ck (b:Bool):Prop where h:b=true
def fN (n:Nat) (K:Nat->Prop):Prop:=match n with
 | 0=>K 0|1=>K 1|2=>K 2|3=>K 3|4=>K 4|5=>K 5|6=>K 6|7=>K 7|8=>K 8|9=>K 9|10=>K 10|11=>K 11|12=>K 12|13=>K 13|14=>K 14|15=>K 15
 | 16=>K 16|17=>K 17|18=>K 18|19=>K 19|20=>K 20|21=>K 21|22=>K 22|23=>K 23|24=>K 24|25=>K 25|26=>K 26|27=>K 27|28=>K 28|29=>K 29|30=>K 30|31=>K 31
 | 32=>K 32|33=>K 33|34=>K 34|35=>K 35|36=>K 36|37=>K 37|38=>K 38|39=>K 39|40=>K 40|41=>K 41|42=>K 42|43=>K 43|44=>K 44|45=>K 45|46=>K 46|47=>K 47
 | n=>K n
theorem fe (n:Nat) (K:Nat->Prop):fN n K=K n:=by unfold fN;split <;> rfl
def fV (v:AV) (K:AV->Prop):Prop:=match v with
 | .undef=>K .undef|.skip=>K .skip
 | .int k n=>K (.int k n)|.bool b=>K (.bool b)|.tt=>K .tt|.ff=>K .ff|.str s=>K (.str s)|.aL t xs=>K (.aL t xs)
 | .agg cs=>K (.agg cs)|.bQ cs=>K (.bQ cs)|.bW=>K .bW|.ptr i o=>fN i fun i=>K (.ptr i o)|.bg i s j o=>fN i fun i=>K (.bg i s j o)|.dv t x o=>K (.dv t x o)|.cM cs o=>K (.cM cs o)
 | .aZ=>K .aZ|.vec i s o n=>fN i fun i=>K (.vec i s o n)|.fn f a b=>K (.fn f a b)|.gD=>K .gD|.nO t v=>K (.nO t v)|.jO=>K .jO|.mp i=>fN i fun i=>K (.mp i)|.jP=>K .jP|.hp i f=>fN i fun i=>K (.hp i f)|.hm i f=>fN i fun i=>K (.hm i f)
theorem fP (v:AV) (K:AV->Prop):fV v K=K v:=by cases v <;> simp only[fV,fe]
def fL (l:List AV) (K:List AV->Prop):Prop:=match l with
 | []=>K []|c::r=>fV c fun c=>fL r fun r=>K (c::r)
theorem fg (l:List AV) (K:List AV->Prop):fL l K=K l:=by
 induction l generalizing K with
 | nil=>rfl
 | cons c r ih=>simp only[fL,fP,ih]
def fC (c:Chunk) (K:Chunk->Prop):Prop:=match c with
 | .none=>K .none|.cells T cs=>fL cs fun cs=>K (.cells T cs)|.aq T t xs=>K (.aq T t xs)|.count k=>K (.count k)|.jd k ks vs=>fL vs fun vs=>K (.jd k ks vs)|.row T t xs=>K (.row T t xs)|.heap h=>K (.heap h)|.je x a b l=>fV x fun x=>K (.je x a b l)|.iZ T cs=>fL cs fun cs=>K (.iZ T cs)|.bq q=>K (.bq q)
theorem Pj (c:Chunk) (K:Chunk->Prop):fC c K=K c:=by cases c <;> simp[fC,fg,fP]
abbrev Env:=List (Nat×AV)
def look (env:Env) (t:Nat):AV:=match env with
 | []=>.undef
 | (k,v)::r=>match Nat.beq k t with|true=>v|false=>look r t
def E8:Value->AV
 | .int k n=>.int k (fun _=>n)|.bool true=>.tt|.bool false=>.ff|.string s=>.str (fun _=>s.data.toList)
 | .pointer none=>.bW|.slice none 0 0=>.aZ|.map none=>.jP|.nilFunc=>.gD|.nilIface=>.jO|_=>.undef
def Bv:List Value->List AV
 | []=>[]|c::r=>E8 c::Bv r
def xz:Value->AV
 | .agg ⟨cs⟩=>.agg (Bv cs)|.tuple ⟨cs⟩=>.bQ (Bv cs)|.iface t v=>.nO t (E8 v)|v=>E8 v
def ev (env:Env):Operand->AV
 | .tmp t=>look env t
 | .const v=>xz v
 | .func f=>.fn (.func f) [] []
 | _=>.undef
def p9 (env:Env):List Operand->List AV
 | []=>[]|x::r=>ev env x::p9 env r
def nth {α:Type}:List α->Nat->Option α
 | [],_=>none|x::_,0=>some x|_::r,n+1=>nth r n
theorem gE {α:Type} (l:List α) (n:Nat):nth l n=l[n]?:=by
 induction l generalizing n with
 | nil=>simp[nth]
 | cons x r ih=>cases n <;> simp[nth,ih]
def af (E:List Chunk) (i:Nat):Chunk:=match E with|[]=>.none|c::r=>match i with|0=>c|i+1=>af r i
def a8 (E:List Chunk) (i:Nat) (c':Chunk):List Chunk:=match E with|[]=>[]|c::r=>match i with|0=>c'::r|i+1=>c::a8 r i c'
def ah:List Chunk->Nat
 | []=>0|_::r=>ah r+1
def dm:List Chunk->Chunk->List Chunk
 | [],c=>[c]|d::r,c=>d::dm r c
theorem IN (E:List Chunk):ah E=E.length:=by induction E <;> simp[ah, *]
theorem IP (E:List Chunk) (i:Nat):af E i=E[i]?.getD .none:=by
 induction E generalizing i with
 | nil=>simp[af]
 | cons c r ih=>cases i <;> simp[af,ih]
def kU:Nat->List AV->Option (List AV)
 | 0,_=>some []|n+1,[]=>none|n+1,c::r=>match kU n r with|some l=>some (c::l)|none=>none
def lu:Nat->List AV->List AV
 | 0,l=>l|n+1,[]=>[]|n+1,_::r=>lu n r
def k8:Nat->List AV->List AV->Option (List AV)
 | 0,l,[]=>some l
 | 0,[],_::_=>none
 | 0,_::l,v::vs=>match k8 0 l vs with|some r=>some (v::r)|none=>none
 | n+1,[],_=>none
 | n+1,c::l,vs=>match k8 n l vs with|some r=>some (c::r)|none=>none
section
variable (P:Program)
def gn (t:Nat):Option TypeInfo:=nth P.types.toList t
def aS (t:Nat):Option TypeDesc:=match gn P t with
 | some i=>(match i.desc with|.named _ u=>(match gn P u with|some j=>some j.desc|none=>none)|d=>some d)
 | none=>none
def bR (t:Nat):Option Nat:=match gn P t with|some i=>some i.size|none=>none
def iB (t:Nat):Option Nat:=match gn P t with|some i=>some i.bytes|none=>none
def fQ (t:Nat):Option Value:=match gn P t with|some i=>i.zero|none=>none
def uC (g:Nat->Option Ty):List Field->Option Ty
 | []=>none
 | [f]=>g f.type
 | f::h::r=>match g f.type,uC g (h::r)with|some a,some b=>some (.pair a b)|_,_=>none
def uT:Nat->Ty->Option Ty
 | 0,_=>none|1,y=>some y|n+2,y=>match uT (n+1) y with|some z=>some (.pair y z)|none=>none
def gp:Nat->Nat->Option Ty
 | 0,_=>none
 | d+1,t=>match aS P t with
  | some (.int k)=>some (.int k)
  | some .bool=>some .bool
  | some .string=>some .str
  | some (.slice e)=>(match gp d e with|some y=>some (.list y)|none=>none)
  | some (.struct fs)=>uC (gp d) fs.toList
  | some (.array n e)=>(match gp d e with|some y=>uT n y|none=>none)
  | _=>none
end
def Db:List AV->Nat
 | []=>0|_::r=>Db r+1
theorem Bw (l:List AV):Db l=l.length:=by induction l <;> simp[Db, *]
section
variable (P:Program)
def KY (t:Nat) (cs:List AV) (g:Nat) (K:AV->Prop):Prop :=
 match aS P t with
 | some (.struct _)|some (.array _ _)=>(match bR P t with
  | some n=>(match kU n (lu g cs)with|some l=>fL l fun l=>K (.agg l)|none=>False)
  | none=>False)
 | some _=>(match lu g cs with|v::_=>fV v K|[]=>False)
 | none=>False
def Sm (E:List Chunk) (p:AV) (K:List AV->Nat->Prop):Prop :=
 match p with
 | .ptr i g=>(match af E i with|.cells _ cs=>K cs g|_=>False)
 | .bg i sz j g=>(match af E i with
  | .aq _ t xs=>(match Nat.beq t.size sz with|true=>K (enc t (fun u=>(xs u).getD (j u) t.bA) []) g|false=>False)
  | .row _ t xs=>(match Nat.beq t.size sz with|true=>K (enc t (fun u=>(xs u).getD (j u) t.bA) []) g|false=>False)
  | _=>False)
 | .dv t x g=>K (enc t x []) g
 | .cM cs g=>K cs g
 | _=>False
def nb:AV->AV
 | .tt=>.ff|.ff=>.tt|.bool b=>.bool (fun u=>!b u)|.hp _ _=>.undef|.hm _ _=>.undef|v=>v
def E9 (h:Nat->Option Ty) (g:Nat->Bool):List Field->Nat->Bool
 | [],_=>true
 | f::r,k=>(match Nat.beq f.offset k,bR P f.type,h f.type with
  | true,some n,some ty=>Nat.beq n ty.size && !(f.name == "_") && g f.type && E9 h g r (k+n)
  | _,_,_=>false)
def xJ:Nat->Nat->Bool
 | 0,_=>false
 | d+1,t=>match aS P t with
  | some (.int _)=>true|some .bool=>true|some .string=>true
  | some (.struct fs)=>!P.stoodInHeld t && E9 P (gp P d) (xJ d) fs.toList 0
  | _=>false
def oI (P:Program) (t:Nat):Bool:=match aS P t with
 | some (.struct _)|some (.array _ _)=>false|some _=>true|none=>false
structure EL (P:Program) (t i:Nat) (h:Unit->Hp) (f:Unit->Option (Nat×Nat)) (K:AV->Prop):Prop where
 h:∃ k off T n c v,f ()=some (k,off)/\(h ()).o k=.cells T n c/\off<n/\c off=v/\oI P t=true/\K (v.av i)
structure Vx (h:Unit->Hp) (f g:Unit->Option (Nat×Nat)) (K:AV->Prop):Prop where
 h:(∀ x,f ()=some x->∃ T n c,(h ()).o x.1=.cells T n c)/\(∀ x,g ()=some x->∃ T n c,(h ()).o x.1=.cells T n c)/\K (.bool fun u=>f u == g u)
def iC (P:Program) (t:Nat):Option Value:=match aS P t with
 | some (.map kt et)=>(match aS P kt with|some (.int .i64)=>fQ P et|_=>none)
 | _=>none
structure OS (P:Program) (t:Nat) (ok:Bool) (i:Nat) (h:Unit->Hp) (f:Unit->Nat) (n:Unit->Int) (K:AV->Prop):Prop where
 h:∃ es clock z,(h ()).o (f ())=.map es clock/\iC P t=some z /\
  (∀ v,aP es (n ())=some v->K (match ok with|true=>.bQ [v.av i,.tt]|false=>v.av i))/\(aP es (n ())=none->K (match ok with|true=>.bQ [xz z,.ff]|false=>xz z))
structure Tb (h:Unit->Hp) (f:Unit->Nat) (K:AV->Prop):Prop where
 h:∃ es clock,(h ()).o (f ())=.map es clock/\K (.I (es.length:Int))
def Sn (dH:Nat) (x y:Operand) (E:List Chunk) (a b:AV) (K:AV->Prop):Prop :=
 match a,b with
 | .int k a,.int k' b=>(match decEq k k' with|isTrue _=>K (.bool fun u=>a u == b u)|isFalse _=>False)
 | .str a,.str b=>K (.bool fun u=>a u == b u)
 | .bool a,.bool b=>(match aS P dH with|some .bool=>K (.bool fun u=>a u == b u)|_=>False)
 | .bool a,.tt=>(match aS P dH with|some .bool=>K (.bool a)|_=>False)
 | .bool a,.ff=>(match aS P dH with|some .bool=>K (.bool fun u=>!a u)|_=>False)
 | .tt,.tt|.ff,.ff=>(match aS P dH with|some .bool=>K .tt|_=>False)
 | .tt,.ff|.ff,.tt=>(match aS P dH with|some .bool=>K .ff|_=>False)
 | .bW,.bW=>(match aS P dH with|some (.pointer _)=>K .tt|_=>False)
 | .ptr _ _,.bW|.bg _ _ _ _,.bW|.dv _ _ _,.bW|.cM _ _,.bW|.bW,.ptr _ _|.bW,.bg _ _ _ _|.bW,.dv _ _ _|.bW,.cM _ _=>(match aS P dH with|some (.pointer _)=>K .ff|_=>False)
 | .hp i f,.bW|.bW,.hp i f=>(match aS P dH with|some (.pointer _)=>K (.bool fun u=>(f u).isNone)|_=>False)
 | .hp i f,.hp j g=>(match aS P dH with
  | some (.pointer te)=>(match bR P te,Nat.beq i j,af E i with|some (_+1),true,.heap h=>Vx h f g K|_,_,_=>False)
  | _=>False)
 | .aZ,.aZ=>(match aS P dH with|some (.slice _)=>K .tt|_=>False)
 | .aL t xs,.aZ=>(match aS P dH with|some (.slice _)=>(∀ b:Bool,(b=true->xs ()=[])->K (.bool fun _=>b))|_=>False)
 | .vec i s o n,.aZ=>(match aS P dH with|some (.slice _)=>(∀ b:Bool,(b=true->n ()=0)->K (.bool fun _=>b))|_=>False)
 | .gD,.gD=>(match aS P dH with|some (.func _ _ _)=>K .tt|_=>False)
 | .fn _ _ _,.gD=>(match aS P dH with|some (.func _ _ _)=>K .ff|_=>False)
 | .agg cs,.agg ds=>(match aS P dH,gp P 6 dH with
  | some (.struct _),some ty=>Ck (xJ P 6 dH && !P.eqGuardType P.depth dH)/\vS ty cs fun x=>vS ty ds fun y=>K (.bool fun u=>Bu ty (x u) (y u))
  | _,_=>False)
 | .ptr i g,.ptr j o=>(match aS P dH with
  | some (.pointer te)=>(match gn P te,Nat.beq i j,Nat.beq g o with|some _,true,true=>K .tt|_,_,_=>False)
  | _=>False)
 | _,_=>False
def IQ (op:BinOp) (k:IntKind) (a b:Unit->Int) (K:AV->Prop):Prop :=
 match op with
 | .add=>K (.int k fun u=>k.wrap (a u+b u))
 | .sub=>K (.int k fun u=>k.wrap (a u - b u))
 | .mul=>K (.int k fun u=>k.wrap (a u*b u))
 | .quo=>Ob (fun u=>b u≠0)/\K (.int k fun u=>k.wrap ((a u).tdiv (b u)))
 | .rem=>Ob (fun u=>b u≠0)/\K (.int k fun u=>(a u).tmod (b u))
 | .and=>K (.int k fun u=>k.wrap (BitVec.ofInt k.bits (a u) &&& BitVec.ofInt k.bits (b u)).toNat)
 | .or=>K (.int k fun u=>k.wrap (BitVec.ofInt k.bits (a u) ||| BitVec.ofInt k.bits (b u)).toNat)
 | .xor=>K (.int k fun u=>k.wrap (BitVec.ofInt k.bits (a u) ^^^ BitVec.ofInt k.bits (b u)).toNat)
 | .andNot=>K (.int k fun u=>k.wrap (BitVec.ofInt k.bits (a u) &&& ~~~ BitVec.ofInt k.bits (b u)).toNat)
 | .eql=>K (.bool fun u=>a u == b u)
 | .neq=>K (.bool fun u=>a u != b u)
 | .lss=>K (.bool fun u=>decide (a u<b u))
 | .leq=>K (.bool fun u=>decide (a u<=b u))
 | .gtr=>K (.bool fun u=>decide (b u<a u))
 | .geq=>K (.bool fun u=>decide (b u<=a u))
 | _=>False
def L7 (op:BinOp) (a b:Unit->List UInt8) (K:AV->Prop):Prop :=
 match op with
 | .add=>Ob (fun u=>(a u).length+(b u).length<=9223372036854775807)/\K (.str fun u=>a u++b u)
 | .eql=>K (.bool fun u=>a u == b u)
 | .neq=>K (.bool fun u=>!(a u == b u))
 | .lss=>K (.bool fun u=>Op.bytesLess (a u) (b u))
 | .leq=>K (.bool fun u=>Op.bytesLess (a u) (b u) || a u == b u)
 | .gtr=>K (.bool fun u=>!(Op.bytesLess (a u) (b u) || a u == b u))
 | .geq=>K (.bool fun u=>!Op.bytesLess (a u) (b u))
 | _=>False
def KZ (op:BinOp) (k k':IntKind) (a b:Unit->Int) (K:AV->Prop):Prop :=
 match op with
 | .shl=>Ob (fun u=>0<=b u)/\K (.int k fun u=>k.wrap (a u*2 ^ (min (b u).toNat k.bits)))
 | .shr=>Ob (fun u=>0<=b u)/\K (.int k fun u=>(a u).fdiv (2 ^ (min (b u).toNat k.bits)))
 | op=>(match decEq k k' with|isTrue _=>IQ op k a b K|isFalse _=>False)
def L8 (op:BinOp) (dH:Nat) (x y:Operand) (E:List Chunk) (a b:AV) (K:AV->Prop):Prop :=
 match a,b with
 | .int k a,.int k' b=>KZ op k k' a b K
 | .str a,.str b=>L7 op a b K
 | a,b=>(match op with
  | .eql=>Sn P dH x y E a b K
  | .neq=>Sn P dH x y E a b fun r=>K (nb r)
  | _=>False)
def uU (env:Env) (x:Option Operand) (d:Unit->Int) (K:(Unit->Int)->Prop):Prop :=
 match x with
 | none=>K d
 | some x=>(match ev env x with|.int _ n=>K n|_=>False)
def Fa (b a:AV) (K:AV->Prop):Prop:=match b,a with
 | .int _ b,.int k a=>K (.int k fun u=>if b u<a u then b u else a u)|_,_=>False
def Fb (b a:AV) (K:AV->Prop):Prop:=match b,a with
 | .int _ b,.int k a=>K (.int k fun u=>if b u>a u then b u else a u)|_,_=>False
def L9:List AV->AV->(AV->Prop)->Prop
 | [],a,K=>K a
 | b::r,a,K=>Fa b a fun c=>L9 r c K
def Ma:List AV->AV->(AV->Prop)->Prop
 | [],a,K=>K a
 | b::r,a,K=>Fb b a fun c=>Ma r c K
def nq (place:Nat->Option (Nat×Nat)) (cells:List AV):List (Nat×List AV)->Option (List AV)
 | []=>some cells
 | (i,v)::rest=>match place i with
  | some (off,size)=>(match Nat.beq v.length size with
   | true=>(match k8 off cells v with|some cs=>nq place cs rest|none=>none)
   | false=>none)
  | none=>none
def gF:AV->Option (List AV)
 | .undef|.skip|.bQ _=>none|.agg cs=>some cs|v=>some [v]
def nP (env:Env):List (Nat×Operand)->Option (List (Nat×List AV))
 | []=>some []|(i,x)::r=>match gF (ev env x),nP env r with|some c,some l=>some ((i,c)::l)|_,_=>none
def oJ:List Field->Option (List (Nat×Nat))
 | []=>some []
 | f::r=>match bR P f.type,oJ r with|some s,some l=>some ((f.offset,s)::l)|_,_=>none
def zU (t:Nat) (ps:List (Nat×List AV)) (K:AV->Prop):Prop :=
 match fQ P t with
 | some z=>(match gF (xz z)with
  | some cs=>(match aS P t with
   | some (.struct fs)=>(match oJ P fs.toList with
    | some pl=>(match nq (nth pl) cs ps with|some cs=>fL cs fun cs=>K (.agg cs)|none=>False)
    | none=>False)
   | some (.array _ e)=>(match bR P e with
    | some s=>(match nq (fun i=>some (i*s,s)) cs ps with|some cs=>fL cs fun cs=>K (.agg cs)|none=>False)
    | none=>False)
   | _=>False)
  | none=>False)
 | none=>False
def Mb (t:Nat) (a:AV) (K:AV->Prop):Prop :=
 match a with
 | .str s=>(match aS P t with|some .string=>K (.int .i64 fun u=>((s u).length:Int))|_=>False)
 | .aL _ xs=>(match aS P t with|some (.slice _)=>K (.int .i64 fun u=>((xs u).length:Int))|_=>False)
 | .vec _ _ _ n=>(match aS P t with|some (.slice _)=>K (.int .i64 fun u=>(n u:Int))|_=>False)
 | .aZ=>(match aS P t with|some (.slice _)=>K (.I 0)|_=>False)
 | .agg _=>(match aS P t with|some (.array n _)=>K (.I (n:Int))|_=>False)
 | _=>False
def Mc (t:Nat) (a:AV) (K:AV->Prop):Prop :=
 match a with
 | .vec _ _ _ n=>(match aS P t with|some (.slice _)=>(∀ c:Nat,n ()<=c->K (.I (c:Int)))|_=>False)
 | .aZ=>(match aS P t with|some (.slice _)=>K (.I 0)|_=>False)
 | _=>False
def sl (b:Builtin) (t:Nat) (az:List AV) (E:List Chunk) (K:AV->Prop):Prop :=
 match az with
 | []=>False
 | a::r=>(match b with
  | .len=>(match r with
   | []=>(match a with
    | .hm i f=>(match aS P t,af E i with|some (.map _ _),.heap h=>Tb h f K|_,_=>False)
    | a=>Mb P t a K)
   | _=>False)
  | .cap=>(match r with|[]=>Mc P t a K|_=>False)
  | .min=>L9 r a K
  | .max=>Ma r a K
  | .unsafeSliceData=>(match r,a with
   | [],.vec i 1 o n=>Ob (fun u=>o u=0/\n u≠0)/\K (.bg i 1 (fun _=>0) 0)
   | _,_=>False)
  | _=>False)
def Pk:List Int->List AV->(Unit->Int)->(AV->Prop)->Prop->Prop
 | [],[],_,_,D=>D
 | k::ks,v::vs,n,K,D=>(n ()=k->fV v K)/\(n ()≠k->Pk ks vs n K D)
 | _,_,_,_,_=>False
def Fc (t:Nat) (ok:Bool) (x k:AV) (E:List Chunk) (K:AV->Prop):Prop :=
 match x,k with
 | .hm i f,.int .i64 n=>(match af E i with|.heap h=>OS P t ok i h f n K|_=>False)
 | .mp i,.int kk n=>(match aS P t,af E i with
  | some (.map kt et),.jd k' ks vs=>(match aS P kt,decEq kk k',fQ P et with
   | some (.int _),isTrue _,some z=>(match ok with
    | true=>Pk ks vs n (fun v=>K (.bQ [v,.tt])) (K (.bQ [xz z,.ff]))
    | false=>Pk ks vs n K (K (xz z)))
   | _,_,_=>False)
  | _,_=>False)
 | _,_=>False
def qV (op:Op) (env:Env) (E:List Chunk) (K:AV->Prop):Prop :=
 match op with
 | .move x|.assign x=>K (ev env x)
 | .pick c a b=>(match ev env c with
  | .bool c=>(c ()=true->K (ev env a))/\(c ()=false->K (ev env b))
  | .tt=>K (ev env a)|.ff=>K (ev env b)|_=>False)
 | .load t x=>(match ev env x with
  | .hp i f=>(match af E i with|.heap h=>EL P t i h f K|_=>False)
  | p=>Sm E p fun cs g=>KY P t cs g K)
 | .nilCheck x=>(match ev env x with
  | .ptr i g=>K (.ptr i g)|.bg i s j g=>K (.bg i s j g)|.dv t x g=>K (.dv t x g)|.cM cs g=>K (.cM cs g)|.fn (.func f) a b=>K (.fn (.func f) a b)
  | .hp i f=>Ob (fun u=>f u≠none)/\K (.hp i f)|_=>False)
 | .fieldAddr s x f=>(match aS P s with
  | some (.struct fs)=>(match nth fs.toList f with
   | some fd=>(match bR P fd.type with
    | some (_+1)=>(match ev env x with
     | .ptr i g=>fN (g+fd.offset) fun g=>K (.ptr i g)
     | .bg i sz j g=>fN (g+fd.offset) fun g=>K (.bg i sz j g)
     | .dv t x g=>fN (g+fd.offset) fun g=>K (.dv t x g)
     | .cM cs g=>fN (g+fd.offset) fun g=>K (.cM cs g)
     | .hp i f=>Ob (fun u=>f u≠none)/\K (.hp i fun u=>(f u).map fun x=>(x.1,x.2+fd.offset))
     | _=>False)
    | _=>False)
   | none=>False)
  | _=>False)
 | .field s x f=>(match aS P s with
  | some (.struct fs)=>(match nth fs.toList f with
   | some fd=>(match ev env x with|.agg cs=>KY P fd.type cs fd.offset K|_=>False)
   | none=>False)
  | _=>False)
 | .indexAddr t x ix=>(match ev env ix with
  | .int _ j=>(match aS P t with
   | some (.slice e)=>(match bR P e with
    | some sz=>(match ev env x with
     | .aL ty xs=>(match Nat.beq ty.size sz with|true=>Ob (fun u=>0<=j u/\j u<(xs u).length)/\K (.dv ty (fun u=>(xs u).getD (j u).toNat ty.bA) 0)|false=>False)
     | .vec i s o n=>(match Nat.beq s sz with
      | true=>Ob (fun u=>0<=j u/\j u<n u)/\(match af E i with
       | .aq _ _ _=>K (.bg i s (fun u=>o u+(j u).toNat) 0)
       | .row _ _ _=>K (.bg i s (fun u=>o u+(j u).toNat) 0)
       | .cells _ _=>fN ((o ()+(j ()).toNat)*s) fun g=>K (.ptr i g)
       | _=>False)
      | false=>False)
     | _=>False)
    | none=>False)
   | some (.array len e)=>(match bR P e with
    | some sz=>(match ev env x with
     | .ptr i g=>Ob (fun u=>0<=j u/\j u<len)/\fN (g+(j ()).toNat*sz) fun g=>K (.ptr i g)
     | .bg i s q g=>Ob (fun u=>0<=j u/\j u<len)/\fN (g+(j ()).toNat*sz) fun g=>K (.bg i s q g)
     | .dv ty y g=>Ob (fun u=>0<=j u/\j u<len)/\fN (g+(j ()).toNat*sz) fun g=>K (.dv ty y g)
     | .hp i f=>Ob (fun u=>f u≠none/\0<=j u/\j u<len)/\K (.hp i fun u=>(f u).map fun x=>(x.1,x.2+(j u).toNat*sz))
     | _=>False)
    | none=>False)
   | _=>False)
  | _=>False)
 | .index t x ix=>(match ev env ix with
  | .int _ j=>(match aS P t with
   | some .string=>(match ev env x with
    | .str s=>Ob (fun u=>0<=j u/\j u<(s u).length)/\K (.int .u8 fun u=>(((s u).getD (j u).toNat 0).toNat:Int))
    | _=>False)
   | some (.array len e)=>(match bR P e with
    | some sz=>(match ev env x with
     | .agg cs=>Ob (fun u=>0<=j u/\j u<len)/\KY P e cs ((j ()).toNat*sz) K
     | _=>False)
    | none=>False)
   | _=>False)
  | _=>False)
 | .slice t x lo hi none=>(match aS P t with
  | some .string=>(match ev env x with
   | .str s=>uU env lo (fun _=>0) fun l=>uU env hi (fun u=>(s u).length) fun h =>
    Ob (fun u=>0<=l u/\l u<=h u/\h u<=(s u).length)/\K (.str fun u=>((s u).take (h u).toNat).drop (l u).toNat)
   | _=>False)
  | some (.slice e)=>(match ev env x with
   | .aL ty xs=>(match bR P e with
    | some sz=>(match Nat.beq ty.size sz with
     | true=>uU env lo (fun _=>0) fun l=>uU env hi (fun u=>(xs u).length) fun h =>
      Ob (fun u=>0<=l u/\l u<=h u/\h u<=(xs u).length)/\K (.aL ty fun u=>((xs u).take (h u).toNat).drop (l u).toNat)
     | false=>False)
    | none=>False)
   | .vec i s o n=>(match bR P e with
    | some sz=>(match Nat.beq s sz with
     | true=>uU env lo (fun _=>0) fun l=>uU env hi (fun u=>n u) fun h =>
      Ob (fun u=>0<=l u/\l u<=h u/\h u<=n u)/\K (.vec i s (fun u=>o u+(l u).toNat) (fun u=>(h u).toNat - (l u).toNat))
     | false=>False)
    | none=>False)
   | .aZ=>(match bR P e with
    | some _=>uU env lo (fun _=>0) fun l=>uU env hi (fun _=>0) fun h=>Ob (fun u=>l u=0/\h u=0)/\K .aZ
    | none=>False)
   | _=>False)
  | _=>False)
 | .slice t x none (some hi) (some mx)=>(match ev env hi,ev env mx with
  | .int _ h,.int _ m=>(match aS P t with
   | some (.slice e)=>(match bR P e with
    | some sz=>(match ev env x with
     | .aL ty xs=>(match Nat.beq ty.size sz with
      | true=>Ob (fun u=>h u=(xs u).length/\m u=(xs u).length)/\K (.aL ty xs)
      | false=>False)
     | .aZ=>Ob (fun u=>h u=0/\m u=0)/\K .aZ
     | _=>False)
    | none=>False)
   | _=>False)
  | _,_=>False)
 | .binOp op dH x y _=>L8 P op dH x y E (ev env x) (ev env y) K
 | .unOp op _ x=>(match op,ev env x with
  | .not,.bool b=>K (.bool fun u=>!b u)|.not,.tt=>K .ff|.not,.ff=>K .tt
  | .neg,.int k n=>K (.int k fun u=>k.wrap (0 - n u))
  | .xor,.int k n=>K (.int k fun u=>k.wrap (BitVec.ofInt k.bits (if k.signed then -1 else k.max) ^^^ BitVec.ofInt k.bits (n u)).toNat)
  | _,_=>False)
 | .convert src dst x=>(match aS P src,aS P dst,ev env x with
  | some _,some (.int k),.int _ n=>K (.int k fun u=>k.wrap (n u))
  | some _,some .string,.str s=>K (.str s)
  | some (.slice e),some .string,.aL (.int .u8) xs=>(match aS P e with|some (.int .u8)=>K (.str fun u=>(xs u).map fun z=>UInt8.ofNat z.toNat)|_=>False)
  | some (.slice e),some .string,.aZ=>(match aS P e with|some (.int .u8)=>K (.str fun _=>[])|_=>False)
  | some (.slice e),some .string,.vec i 1 o n=>(match aS P e,af E i with
   | some (.int .u8),.aq _ (.int .u8) xs=>K (.str fun u=>((xs u).drop (o u) |>.take (n u)).map fun z=>UInt8.ofNat z.toNat)
   | _,_=>False)
  | some (.pointer t),some .unsafePointer,.ptr i g=>(match bR P t,af E i with
   | some (_+1),.cells _ cs=>(match Nat.blt g (Db cs)with|true=>K (.ptr i g)|false=>False)
   | _,_=>False)
  | some .unsafePointer,some (.pointer t),.ptr i g=>(match gn P t,af E i with
   | some _,.cells T cs=>fN (Db cs) fun n=>Ck (liesAt P P.depth T (n / P.cellsOf T) g t 1)/\K (.ptr i g)
   | _,_=>False)
  | _,_,_=>False)
 | .makeInterface t x=>(match aS P t with|some (.interface _)=>False|some _=>K (.nO t (ev env x))|none=>False)
 | .makeFunc f a b=>fL (p9 env a.toList) fun a=>fL (p9 env b.toList) fun b=>K (.fn f a b)
 | .extract x i=>(match ev env x with|.bQ cs=>(match nth cs i with|some v=>fV v K|none=>False)|_=>False)
 | .lookup t x k ok=>Fc P t ok (ev env x) (ev env k) E K
 | .build t parts=>(match nP env parts.toList with|some ps=>zU P t ps K|none=>False)
 | .call { callee:=.builtin b,args,argTypes }=>(match argTypes.toList with
  | t::_=>sl P b t (p9 env args.toList) E K
  | []=>False)
 | _=>False
end
structure Gh where
 n:Nat
 Φ:Nat->Option Obj
 B:Nat->Nat
 V:Nat->Option Nat
 L:Nat->Nat
 k:Nat
 W:Nat->Nat->Nat
 M:Nat->Nat
def At (g:Gh) (A:Option Addr) (k:Nat) (u:Value):Prop :=
 ∃ b off cells T fr,A=some ⟨b,off,none⟩/\g.Φ b=some (.cells cells T fr)/\cells[off+k]?=some u
inductive R (g:Gh):AV->Value->Prop
 | undef (v):R g .undef v
 | skip:R g .skip Go.undef
 | int (k n):R g (.int k n) (.int k (n ()))
 | bool (b):R g (.bool b) (.bool (b ()))
 | tt:R g .tt (.bool true)
 | ff:R g .ff (.bool false)
 | str (s):R g (.str s) (.string ⟨(s ()).toArray⟩)
 | aL (t) (xs:Unit->List (Ty.den t)) (A) (c) (u:Nat->Nat->Value) (hc:(xs ()).length<=c) (hm:(xs ()).length<=9223372036854775807)
   (ha:∀ (i:Nat) (x:Ty.den t) (j:Nat) (y:AV),(xs ())[i]?=some x->(enc t (fun _=>x) [])[j]?=some y->At g A (i*t.size+j) (u i j))
   (hr:∀ (i:Nat) (x:Ty.den t) (j:Nat) (y:AV),(xs ())[i]?=some x->(enc t (fun _=>x) [])[j]?=some y->R g y (u i j)):R g (.aL t xs) (.slice A (xs ()).length c)
 | agg (cs) (vs:Array Value) (hl:cs.length=vs.size) (hr:∀ (i:Nat) (y:AV) (u:Value),cs[i]?=some y->vs[i]?=some u->R g y u):R g (.agg cs) (.agg vs)
 | bQ (cs) (vs:Array Value) (hl:cs.length=vs.size) (hr:∀ (i:Nat) (y:AV) (u:Value),cs[i]?=some y->vs[i]?=some u->R g y u):R g (.bQ cs) (.tuple vs)
 | bW:R g .bW (.pointer none)
 | ptr (i off) (hi:i<g.n):R g (.ptr i off) (.pointer (some ⟨g.B i,off,none⟩))
 | bg (i sz idx off) (hi:i<g.n) (h:idx ()<g.L i):R g (.bg i sz idx off) (.pointer (some ⟨g.B i,idx ()*sz+off,none⟩))
 | dv (t) (x:Unit->Ty.den t) (off b o:Nat) (u:Nat->Value)
   (ha:∀ (j:Nat) (y:AV),(enc t x [])[j]?=some y->At g (some ⟨b,o,none⟩) j (u j))
   (hr:∀ (j:Nat) (y:AV),(enc t x [])[j]?=some y->R g y (u j)):R g (.dv t x off) (.pointer (some ⟨b,o+off,none⟩))
 | cM (cs:List AV) (off b o:Nat) (u:Nat->Value) (ha:∀ (j:Nat) (y:AV),cs[j]?=some y->At g (some ⟨b,o,none⟩) j (u j)) (hr:∀ (j:Nat) (y:AV),cs[j]?=some y->R g y (u j)):R g (.cM cs off) (.pointer (some ⟨b,o+off,none⟩))
 | aZ:R g .aZ (.slice none 0 0)
 | vec (i sz off n) (A c) (hi:i<g.n) (hL:off ()+n ()<=g.L i) (hn:g.V i=none->A=none/\n ()=0/\c=0/\off ()=0)
   (hs:∀ cap,g.V i=some cap->cap<=9223372036854775807/\off ()+n ()<=cap/\off ()+c=cap/\(off ()<cap\/off ()=0->A=some ⟨g.B i,off ()*sz,none⟩)/\A≠none):R g (.vec i sz off n) (.slice A (n ()) c)
 | fn (f az bs) (vs ws:Array Value) (hl:az.length=vs.size) (k9:bs.length=ws.size) (hr:∀ (i:Nat) (y:AV) (u:Value),az[i]?=some y->vs[i]?=some u->R g y u)
   (qS:∀ (i:Nat) (y:AV) (u:Value),bs[i]?=some y->ws[i]?=some u->R g y u):R g (.fn f az bs) (.func f vs ws)
 | gD:R g .gD .nilFunc
 | nO (t v u) (h:R g v u):R g (.nO t v) (.iface t u)
 | jO:R g .jO .nilIface
 | mp (i) (hi:i<g.n):R g (.mp i) (.map (some (g.B i)))
 | jP:R g .jP (.map none)
 | hp (i f) (hi:i<g.n) (hf:∀ x,f ()=some x->x.1<g.M i):R g (.hp i f) (.pointer ((f ()).map fun x=>⟨g.W i x.1,x.2,none⟩))
 | hm (i f) (hi:i<g.n) (hf:f ()<g.M i):R g (.hm i f) (.map (some (g.W i (f ()))))
def RL (g:Gh):List AV->List Value->Prop
 | [],[]=>True
 | c::r,u::us=>R g c u/\RL g r us
 | _,_=>False
theorem RL.length {g:Gh}:∀ {cs:List AV} {us:List Value},RL g cs us->cs.length=us.length
 | [],[],_=>rfl
 | c::r,u::us,h=>by simp[RL.length h.2]
theorem RL.at_ {g:Gh}:∀ {cs:List AV} {us:List Value},RL g cs us->∀ (i:Nat) (y:AV) (u:Value),cs[i]?=some y->us[i]?=some u->R g y u
 | [],[],_,i,y,u,h,_=>by simp at h
 | c::r,v::us,h,0,y,u,h1,h2=>by simp at h1 h2;subst h1 h2;exact h.1
 | c::r,v::us,h,i+1,y,u,h1,h2=>RL.at_ h.2 i y u (by simpa using h1) (by simpa using h2)
theorem RL.mk {g:Gh}:∀ {cs:List AV} {us:List Value},cs.length=us.length->(∀ (i:Nat) (y:AV) (u:Value),cs[i]?=some y->us[i]?=some u->R g y u)->RL g cs us
 | [],[],_,_=>trivial
 | [],_::_,h,_=>by simp at h
 | _::_,[],h,_=>by simp at h
 | c::r,u::us,h,hr=>⟨hr 0 c u rfl rfl,RL.mk (by simpa using h) fun i y v h1 h2=>hr (i+1) y v (by simpa using h1) (by simpa using h2)⟩
theorem RL.append {g:Gh}:∀ {cs:List AV} {us:List Value} {ds vs},RL g cs us->RL g ds vs->RL g (cs++ds) (us++vs)
 | [],[],_,_,_,h=>h
 | c::r,u::us,_,_,h,h'=>⟨h.1,RL.append h.2 h'⟩
theorem RL.get {g:Gh} {cs:List AV} {us:List Value} (h:RL g cs us) {i:Nat} {y:AV} (hy:cs[i]?=some y):∃ u,us[i]?=some u/\R g y u:=by
 have hl:=h.length;have hi:i<cs.length:=(Z2.1 hy).1;exact⟨us[i]'(by omega),Z1 (by omega),h.at_ i y _ hy (Z1 (by omega))⟩
theorem R.gR {g:Gh} {cs:List AV} {v:Value} (h:R g (.agg cs) v):∃ vs,v=.agg vs/\RL g cs vs.toList:=by
 cases h with|agg _ vs hl hr=>exact⟨vs,rfl,RL.mk (by simpa using hl) fun i y u h1 h2=>hr i y u h1 (by simpa using h2)⟩
theorem R.rV {g:Gh} {cs:List AV} {v:Value} (h:R g (.bQ cs) v):∃ vs,v=.tuple vs/\RL g cs vs.toList:=by
 cases h with|bQ _ vs hl hr=>exact⟨vs,rfl,RL.mk (by simpa using hl) fun i y u h1 h2=>hr i y u h1 (by simpa using h2)⟩
theorem R.jf {g:Gh} {cs:List AV} {vs:List Value} (h:RL g cs vs):R g (.agg cs) (.agg vs.toArray) :=
 .agg _ _ (by simpa using h.length) fun i y u h1 h2=>h.at_ i y u h1 (by simpa using h2)
theorem R.gP {g:Gh} {cs:List AV} {vs:List Value} (h:RL g cs vs):R g (.bQ cs) (.tuple vs.toArray) :=
 .bQ _ _ (by simpa using h.length) fun i y u h1 h2=>h.at_ i y u h1 (by simpa using h2)
theorem R.Dc {g:Gh} {az bs:List AV} {vs ws:List Value} {f:Fn} (h:RL g az vs) (h':RL g bs ws):R g (.fn f az bs) (.func f vs.toArray ws.toArray) :=
 .fn _ _ _ _ _ (by simpa using h.length) (by simpa using h'.length) (fun i y u h1 h2=>h.at_ i y u h1 (by simpa using h2)) (fun i y u h1 h2=>h'.at_ i y u h1 (by simpa using h2))
theorem cK:∀ (t:Ty) (x:Unit->t.den) (r:List AV),enc t x r=enc t x []++r
 | .int _,_,_|.bool,_,_|.str,_,_|.list _,_,_=>rfl
 | .pair a b,x,r=>by
  simp only[enc];rw[cK a _ (enc b _ r),cK b _ r,cK a _ (enc b _ [])];simp
theorem bt:∀ (t:Ty) (x:Unit->t.den),(enc t x []).length=t.size
 | .int _,_|.bool,_|.str,_|.list _,_=>rfl
 | .pair a b,x=>by
  simp only[enc];rw[cK a,aab,bt a,bt b];rfl
theorem Ty.size_pos:∀ t:Ty,0<t.size
 | .int _|.bool|.str|.list _=>Nat.one_pos
 | .pair a b=>Nat.add_pos_left (Ty.size_pos a) _
section
variable {P:Program}
theorem bu {t:Nat} {i:TypeInfo} (h:gn P t=some i):P.info? t=some i:=by
 unfold gn at h;rw[gE]at h;have hl:t<P.types.size:=by
  have:=(Z2.1 h).1;simpa using this
 show Tables.info? _ _=_;unfold Tables.info?;rw[Z0 hl];simpa using h
theorem au {t:Nat} {d:TypeDesc} (h:aS P t=some d):P.underlying t=some d:=by
 unfold aS at h;split at h
 .rename_i i hi
  have dW:=bu hi;unfold Program.underlying;rw[dW];cases i with
  | mk desc str size bytes hp al fa zero comp ms =>
   cases desc <;> simp only at h ⊢ <;> try exact h
   rename_i nm u;split at h
   .rename_i j hj
    rw[bu hj];exact h
   .cases h
 .cases h
theorem aT {t n:Nat} (h:bR P t=some n) (w:World):(sizeOf t).run P w=.ok n w:=by
 unfold bR at h;split at h
 .rename_i i hi
  simp only[aaJ]at h;simp[sizeOf,typeInfo,bu hi,h]
 .cases h
theorem dO {t:Nat} {z:Value} (h:fQ P t=some z) (w:World):(zeroValue t).run P w=.ok z w:=by
 unfold fQ at h;split at h
 .rename_i i hi
  simp[zeroValue,typeInfo,bu hi,h]
 .cases h
theorem ag {t:Nat} {d:TypeDesc} (h:aS P t=some d) (w:World):(underlying t).run P w=.ok d w:=run_underlying (au h) w
end
def gG (g:Gh) (i:Nat):List (Nat×Int×HV)->List MapEntry->Prop
 | [],[]=>True
 | (b,n,v)::r,e::es=>e.born=b/\e.key=.int .i64 n/\R g (v.av i) e.val/\gG g i r es
 | _,_=>False
def HO.sat (g:Gh) (i:Nat) (ob:Obj):HO->Prop
 | .cells T n c=>∃ vs:Array Value,ob=.cells vs T (0,0)/\vs.size=n/\∀ (j:Nat) (u:Value),vs[j]?=some u->R g ((c j).av i) u
 | .map es clock=>∃ ms:Array MapEntry,ob=.map ms clock/\gG g i es ms.toList
def Fe:Obj->Bool
 | .cells _ _ _=>true|.map _ _=>true|.mapIter _ _ _ _=>true|_=>false
def Chunk.sat (g:Gh) (i:Nat) (w:World):Chunk->Prop
 | .none=>True
 | .cells T cs=>∃ vs:Array Value,w.heap[g.B i]?=some (.cells vs T (0,0))/\RL g cs vs.toList
 | .aq T t xs=>(xs ()).length=g.L i/\(g.V i=Option.none->xs ()=[])/\∀ cap,g.V i=some cap ->
   ∃ vs:Array Value,w.heap[g.B i]?=some (.cells vs T (0,0))/\vs.size=cap*t.size/\(xs ()).length<=cap /\
    ∀ (k:Nat) (x:t.den),(xs ())[k]?=some x->RL g (enc t (fun _=>x) []) ((vs.toList.drop (k*t.size)).take t.size)
 | .row T t xs=>(xs ()).length=g.L i/\(g.V i=Option.none->xs ()=[])/\∀ cap,g.V i=some cap ->
   ∃ vs:Array Value,w.heap[g.B i]?=some (.cells vs T (0,0))/\vs.size=cap*t.size/\(xs ()).length<=cap /\
    ∀ (k:Nat) (x:t.den),(xs ())[k]?=some x->RL g (enc t (fun _=>x) []) ((vs.toList.drop (k*t.size)).take t.size)
 | .count k=>k ()=g.k
 | .heap h=>g.M i=(h ()).m/\(∀ k k',k<g.M i->k'<g.M i->g.W i k=g.W i k'->k=k')/\∀ k,k<g.M i->∃ ob,w.heap[g.W i k]?=some ob/\((h ()).o k).sat g i ob
 | .je x since last seen=>∃ b,R g x (.map (some b))/\w.heap[g.B i]?=some (.mapIter (some b) since (seen ()).toArray last)
 | .iZ T cs=>∃ vs:Array Value,w.heap[g.B i]?=some (.cells vs T (0,0))/\RL g cs vs.toList
 | .bq q=>g.M i=0/\(∀ b k,g.W i k=b+1->∃ o,w.heap[b]?=some o/\Fe o=true)/\q.h g.Φ (g.B i) (fun b=>∃ k,g.W i k=b+1) (fun b=>w.heap[b]?)
 | .jd k ks vs=>∃ (es:Array MapEntry) (clock:Nat),w.heap[g.B i]?=some (.map es clock)/\es.toList.map (·.key)=ks.map (Value.int k)/\RL g vs (es.toList.map (·.val))
def Chunk.own (g:Gh) (i:Nat) (c:Chunk) (b:Nat):Prop:=match c with
 | .none=>False
 | .cells _ _=>g.B i=b
 | .aq _ _ _=>g.V i≠Option.none/\g.B i=b
 | .row _ _ _=>g.V i≠Option.none/\g.B i=b
 | .count _=>False
 | .jd _ _ _=>g.B i=b
 | .heap _=>∃ k,k<g.M i/\g.W i k=b
 | .je _ _ _ _=>g.B i=b
 | .iZ _ _=>g.B i=b
 | .bq _=>∃ k,g.W i k=b+1
structure eE (g:Gh) (E:List Chunk) (w:World):Prop where
 len:ah E=g.n
 dn:∀ b o,g.Φ b=some o->w.heap[b]?=some o
 sat:∀ i,(af E i).sat g i w
 lf:∀ i j b,(af E i).own g i b->(af E j).own g j b->i=j
 dE:∀ i b,(af E i).own g i b->g.Φ b=none
def ER (g:Gh) (env:Env) (tmps:Array Value):Prop:=∀ t,R g (look env t) (tmps.getD t Go.undef)
theorem zV (g:Gh) (v:Value):R g (E8 v) v:=by
 unfold E8;split <;> constructor
theorem vT (g:Gh):∀ l:List Value,RL g (Bv l) l
 | []=>trivial
 | c::r=>⟨zV g c,vT g r⟩
theorem nr (g:Gh) (v:Value):R g (xz v) v:=by
 unfold xz;split
 .exact R.jf (vT g _)
 .exact R.gP (vT g _)
 .exact R.nO _ _ _ (zV g _)
 .exact zV g _
theorem ER.ev {g:Gh} {env:Env} {a:Act} (h:ER g env a.tmps) (x:Operand):R g (ev env x) (a.eval x):=by
 cases x with
 | tmp t=>exact h t
 | const v=>exact nr g v
 | global n=>exact R.undef _
 | func f=>exact R.Dc (az:=[]) (bs:=[]) (vs:=[]) (ws:=[]) trivial trivial
theorem ER.p9 {g:Gh} {env:Env} {a:Act} (h:ER g env a.tmps):∀ l:List Operand,RL g (p9 env l) (l.map a.eval)
 | []=>trivial
 | x::r=>⟨h.ev x,ER.p9 h r⟩
theorem RL.lu {g:Gh}:∀ {n:Nat} {cs:List AV} {us:List Value},RL g cs us->RL g (lu n cs) (us.drop n)
 | 0,_,_,h=>by simpa [Fw.lu]using h
 | n+1,[],[],_=>by simp[Fw.lu,RL]
 | n+1,_::_,_::_,h=>by simpa [Fw.lu]using RL.lu (n:=n) h.2
theorem RL.kU {g:Gh}:∀ {n:Nat} {cs r:List AV} {us:List Value},RL g cs us->kU n cs=some r->RL g r (us.take n)/\n<=us.length
 | 0,_,r,us,_,hr=>by simp[Fw.kU]at hr;subst hr;simp[RL]
 | n+1,[],_,_,_,hr=>by simp[Fw.kU]at hr
 | n+1,c::cs,r,u::us,h,hr=>by
  simp only[Fw.kU]at hr;split at hr
  .rename_i l hl
   simp only[aaJ]at hr;subst hr;obtain⟨h1,h2⟩:=RL.kU h.2 hl;exact⟨⟨h.1,h1⟩,by simp;omega⟩
  .cases hr
def Bx (w:World) (a:Addr) (us:List Value):Prop:=a.spot=none/\∀ j u,us[j]?=some u->w.cell? ⟨a.block,a.off+j,none⟩=some u
theorem bX {a:Addr} (h:a.spot=none) (n:Nat):a.add n=⟨a.block,a.off+n,none⟩:=by
 cases a with
 | mk b o s =>
  simp only at h;subst h;unfold Addr.add;split <;> simp_all
section
variable {P:Program}
theorem xK {g:Gh} {t:Nat} {cs:List AV} {n:Nat} {K:AV->Prop} {w:World} {a:Addr} {us:List Value} (h:KY P t cs n K) (hr:RL g cs us) (ha:Bx w a (us.drop n)) :
  ∃ v u,(loadVar t a).run P w=.ok u w/\R g v u/\K v:=by
 have hd:=hr.lu (n:=n);unfold KY at h;split at h
 .rename_i fs ht
  split at h
  .rename_i m hm
   split at h
   .rename_i l hl
    rw[fg]at h;obtain⟨h1,h2⟩:=hd.kU hl;refine⟨_,_,?_,R.jf h1,h⟩;have hlen:((us.drop n).take m).length=m:=by rw[aak];omega
    have:=run_loadCells_list (P:=P) w a ((us.drop n).take m) (fun j v hv=>by
     rw[bX ha.1];refine ha.2 j v ?_;rw[aap]at hv;split at hv <;> simp_all)
    rw[hlen]at this;simp[loadVar,isAgg,ag ht,aT hm,this]
   .exact h.elim
  .exact h.elim
 .rename_i k e ht
  split at h
  .rename_i m hm
   split at h
   .rename_i l hl
    rw[fg]at h;obtain⟨h1,h2⟩:=hd.kU hl;refine⟨_,_,?_,R.jf h1,h⟩;have hlen:((us.drop n).take m).length=m:=by rw[aak];omega
    have:=run_loadCells_list (P:=P) w a ((us.drop n).take m) (fun j v hv=>by
     rw[bX ha.1];refine ha.2 j v ?_;rw[aap]at hv;split at hv <;> simp_all)
    rw[hlen]at this;simp[loadVar,isAgg,ag ht,aT hm,this]
   .exact h.elim
  .exact h.elim
 .rename_i d Vy K1 ht
  split at h
  .rename_i v r hv
   rw[fP]at h;rw[hv]at hd;cases hu:us.drop n with
   | nil=>rw[hu]at hd;exact hd.elim
   | cons u r' =>
    rw[hu]at hd;refine⟨v,u,?_,hd.1,h⟩;have hc:=ha.2 0 u (by simp[hu]);have Dd:w.cell? a=some u:=by
     have e:(⟨a.block,a.off+0,none⟩:Addr)=a:=by cases a;simp at *;exact ha.1.symm
     rwa [e]at hc
    have oK:(isAgg t).run P w=.ok false w:=by
     simp only[isAgg,Sem.run_bind,ag ht,Result.andThen_ok];cases d <;> simp_all
    simp[loadVar,oK,Dd]
  .exact h.elim
 .exact h.elim
theorem xL {g:Gh} {t:Nat} {cs:List AV} {n:Nat} {K:AV->Prop} {w:World} {us:Array Value} (h:KY P t cs n K) (hr:RL g cs us.toList) :
  ∃ v u,(part t us n).run P w=.ok u w/\R g v u/\K v:=by
 have hd:=hr.lu (n:=n);unfold KY at h;split at h
 .rename_i fs ht
  split at h
  .rename_i m hm
   split at h
   .rename_i l hl
    rw[fg]at h;obtain⟨h1,h2⟩:=hd.kU hl;refine⟨_,_,?_,R.jf h1,h⟩;simp only[part,isAgg,Sem.run_bind,ag ht,aT hm,Result.andThen_ok,Sem.run_pure,if_true,Sem.run_ite,Sem.run_map];congr 2;apply abq;simp[ach]
   .exact h.elim
  .exact h.elim
 .rename_i k e ht
  split at h
  .rename_i m hm
   split at h
   .rename_i l hl
    rw[fg]at h;obtain⟨h1,h2⟩:=hd.kU hl;refine⟨_,_,?_,R.jf h1,h⟩;simp only[part,isAgg,Sem.run_bind,ag ht,aT hm,Result.andThen_ok,Sem.run_pure,if_true,Sem.run_ite,Sem.run_map];congr 2;apply abq;simp[ach]
   .exact h.elim
  .exact h.elim
 .rename_i d Vy K1 ht
  split at h
  .rename_i v r hv
   rw[fP]at h;rw[hv]at hd;cases hu:us.toList.drop n with
   | nil=>rw[hu]at hd;exact hd.elim
   | cons u r' =>
    rw[hu]at hd;refine⟨v,u,?_,hd.1,h⟩;have hn:us[n]?=some u:=by
     have:(us.toList.drop n)[0]?=some u:=by rw[hu];rfl
     simpa using this
    have oK:(isAgg t).run P w=.ok false w:=by
     simp only[isAgg,Sem.run_bind,ag ht,Result.andThen_ok];cases d <;> simp_all
    simp[part,oK,hn]
  .exact h.elim
 .exact h.elim
end
section
variable {P:Program}
theorem Ff {α:Type} (f:Unit->α):(fun _=>f ())=f:=by funext u;cases u;rfl
theorem ik (t:Ty) (x:Unit->t.den):enc t (fun _=>x ()) []=enc t x []:=by rw[Ff]
theorem qb {g:Gh} (cs:List AV) (u:Nat->Value) (h:∀ (j:Nat) (y:AV),cs[j]?=some y->R g y (u j)):RL g cs ((List.range cs.length).map u) :=
 RL.mk (by simp) fun i y v h1 h2=>by
  have hi:i<cs.length:=(Z2.1 h1).1;simp[hi]at h2;subst h2;exact h i y h1
theorem At.cell {g:Gh} {E:List Chunk} {w:World} (hS:eE g E w) {b o k:Nat} {u:Value} (h:At g (some ⟨b,o,none⟩) k u):w.cell? ⟨b,o+k,none⟩=some u:=by
 obtain⟨b',off,cells,T,fr,h1,h2,h3⟩:=h;simp only[aaJ,Addr.mk.injEq]at h1;obtain⟨rfl,rfl,_⟩:=h1;have:=hS.dn _ _ h2;simp[World.cell?,this,h3]
theorem R.kl {g:Gh} {i:Nat} {f:Unit->Option (Nat×Nat)} {v:Value} (h:R g (.hp i f) v):v=.pointer ((f ()).map fun x=>⟨g.W i x.1,x.2,none⟩)/\i<g.n/\∀ x,f ()=some x->x.1<g.M i:=by
 cases h with|hp _ _ hi hf=>exact⟨rfl,hi,hf⟩
theorem R.nQ {g:Gh} {i:Nat} {f:Unit->Nat} {v:Value} (h:R g (.hm i f) v):v=.map (some (g.W i (f ())))/\i<g.n/\f ()<g.M i:=by
 cases h with|hm _ _ hi hf=>exact⟨rfl,hi,hf⟩
theorem eE.nR {g:Gh} {E:List Chunk} {w:World} (hS:eE g E w) {i k n:Nat} {h:Unit->Hp} {T:TypeId} {c:Nat->HV} (hE:af E i=.heap h) (hk:k<g.M i) (ho:(h ()).o k=.cells T n c) :
  ∃ vs:Array Value,w.heap[g.W i k]?=some (.cells vs T (0,0))/\vs.size=n/\∀ (j:Nat) (u:Value),vs[j]?=some u->R g ((c j).av i) u:=by
 have hs:=hS.sat i;rw[hE]at hs;obtain⟨ob,h1,h2⟩:=hs.2.2 k hk;rw[ho]at h2;obtain⟨vs,rfl,h3,h4⟩:=h2;exact⟨vs,h1,h3,h4⟩
theorem eE.zW {g:Gh} {E:List Chunk} {w:World} (hS:eE g E w) {i k clock:Nat} {h:Unit->Hp} {es:List (Nat×Int×HV)} (hE:af E i=.heap h) (hk:k<g.M i) (ho:(h ()).o k=.map es clock) :
  ∃ ms:Array MapEntry,w.heap[g.W i k]?=some (.map ms clock)/\gG g i es ms.toList:=by
 have hs:=hS.sat i;rw[hE]at hs;obtain⟨ob,h1,h2⟩:=hs.2.2 k hk;rw[ho]at h2;obtain⟨ms,rfl,h3⟩:=h2;exact⟨ms,h1,h3⟩
theorem gG.length {g:Gh} {i:Nat}:∀ {es:List (Nat×Int×HV)} {ms:List MapEntry},gG g i es ms->es.length=ms.length
 | [],[],_=>rfl
 | (_,_,_)::_,_::_,h=>by simp[gG.length h.2.2.2]
theorem gG.find {g:Gh} {i:Nat} {d:IntKind} {n:Int}:∀ {es:List (Nat×Int×HV)} {ms:List MapEntry} (j:Nat),gG g i es ms ->
  (∃ v k u,aP es n=some v/\Instr.findNow (.int d) (.int .i64 n) ms j=some (some (k,u))/\R g (v.av i) u)\/(aP es n=none/\Instr.findNow (.int d) (.int .i64 n) ms j=some none)
 | [],[],j,_=>.inr ⟨rfl,rfl⟩
 | (b,m,v)::es,e::ms,j,h=>by
  obtain⟨h1,h2,h3,h4⟩:=h;by_cases hn:m=n
  .exact .inl ⟨v,j,e.val,by simp[aP,hn],by simp[Instr.findNow,h2,Instr.sameNow,hn],h3⟩
  .have hb:(n == m)=false:=by simpa using fun e=>hn e.symm
   have e1:Instr.findNow (.int d) (.int .i64 n) (e::ms) j=Instr.findNow (.int d) (.int .i64 n) ms (j+1):=by simp[Instr.findNow,h2,Instr.sameNow,hb]
   rw[e1];rcases gG.find (d:=d) (n:=n) (j+1) h4 with⟨v',k,u,g1,g2,g3⟩|⟨g1,g2⟩
   .exact .inl ⟨v',k,u,by simp[aP,hn,g1],g2,g3⟩
   .exact .inr ⟨by simp[aP,hn,g1],g2⟩
theorem Fg {P:Program} {t:Nat} (h:oI P t=true) (w:World):(isAgg t).run P w=.ok false w:=by
 unfold oI at h;split at h <;> first|(cases h;done)|skip
 rename_i d Vy K1 ht;simp only[isAgg,Sem.run_bind,ag ht,Result.andThen_ok];cases d <;> simp_all
theorem cell_of_heap {w:World} {b:Nat} {vs:Array Value} {T:TypeId} {fr:Nat×Nat} (h:w.heap[b]?=some (.cells vs T fr)) (k:Nat):w.cell? ⟨b,k,none⟩=vs[k]?:=by
 simp[World.cell?,h]
theorem uV {g:Gh} {E:List Chunk} {w:World} {p:AV} {v:Value} {K:List AV->Nat->Prop} (hS:eE g E w) (hr:R g p v) (h:Sm E p K) :
  ∃ cs n us a,v=.pointer (some a)/\RL g cs us/\Bx w a (us.drop n)/\K cs n:=by
 unfold Sm at h;split at h
 .rename_i i off
  split at h
  .rename_i T cs hE
   have hs:=hS.sat i;rw[hE]at hs;obtain⟨vs,hv,hl⟩:=hs;cases hr;exact⟨cs,off,vs.toList,_,rfl,hl,⟨rfl,fun j u hu=>by rw[cell_of_heap hv];simpa using hu⟩,h⟩
  .exact h.elim
 .rename_i i sz j off
  split at h
  .rename_i T t xs hE
   split at h
   .rename_i cu
    have zX:t.size=sz:=Z3 cu;have hs:=hS.sat i;rw[hE]at hs;obtain⟨hL,hn,hc⟩:=hs;cases hr with
    | bg _ _ _ _ _ hj =>
    have lg:j ()<(xs ()).length:=by omega
    cases hV:g.V i with
    | none=>rw[hn hV]at lg;simp at lg
    | some cap =>
     obtain⟨vs,hv,By,cS,hx⟩:=hc cap hV;have hk:=hx (j ()) _ (Z1 lg);have e:(fun u=>(xs u).getD (j u) t.bA)=(fun _=>(xs ())[j ()]'lg):=by
      funext u;cases u;simp[List.getD,Z1 lg]
     rw[e]at h;refine⟨_,_,_,_,rfl,hk,⟨rfl,fun k u hu=>?_⟩,h⟩;rw[cell_of_heap hv];subst zX;rw[aam,aap]at hu;split at hu
     .simpa [aam,ab7]using hu
     .cases hu
   .exact h.elim
  .rename_i T t xs hE
   split at h
   .rename_i cu
    have zX:t.size=sz:=Z3 cu;have hs:=hS.sat i;rw[hE]at hs;obtain⟨hL,hn,hc⟩:=hs;cases hr with
    | bg _ _ _ _ _ hj =>
    have lg:j ()<(xs ()).length:=by omega
    cases hV:g.V i with
    | none=>rw[hn hV]at lg;simp at lg
    | some cap =>
     obtain⟨vs,hv,By,cS,hx⟩:=hc cap hV;have hk:=hx (j ()) _ (Z1 lg);have e:(fun u=>(xs u).getD (j u) t.bA)=(fun _=>(xs ())[j ()]'lg):=by
      funext u;cases u;simp[List.getD,Z1 lg]
     rw[e]at h;refine⟨_,_,_,_,rfl,hk,⟨rfl,fun k u hu=>?_⟩,h⟩;rw[cell_of_heap hv];subst zX;rw[aam,aap]at hu;split at hu
     .simpa [aam,ab7]using hu
     .cases hu
   .exact h.elim
  .exact h.elim
 .rename_i t x off
  cases hr with
  | dv _ _ _ b o u ha hr =>
  refine⟨_,off,_,_,rfl,qb _ u hr,⟨rfl,fun j v hv=>?_⟩,h⟩;have:off+j<(enc t x []).length:=by
   have:=(Z2.1 hv).1;simp at this;omega
  have h1:=(ha (off+j) _ (Z1 this)).cell hS;simp[aam,this]at hv;subst hv;show w.cell? ⟨b,o+off+j,none⟩=_;rw[ab7];exact h1
 .rename_i cs off
  cases hr with
  | cM _ _ b o u ha hr =>
  refine⟨_,off,_,_,rfl,qb _ u hr,⟨rfl,fun j v hv=>?_⟩,h⟩;have:off+j<cs.length:=by
   have:=(Z2.1 hv).1;simp at this;omega
  have h1:=(ha (off+j) _ (Z1 this)).cell hS;simp[aam,this]at hv;subst hv;show w.cell? ⟨b,o+off+j,none⟩=_;rw[ab7];exact h1
 .exact h.elim
theorem eO {g:Gh} {w:World} {s:Sem Value} {K:AV->Prop} (h:∃ v u,s.run P w=.ok u w/\R g v u/\K v) :
  ∃ v u,(do pure (Next.value (<-s)):Sem Next).run P w=.ok (.value u) w/\R g v u/\K v:=by
 obtain⟨v,u,h1,h2,h3⟩:=h;exact⟨v,u,by simp[h1],h2,h3⟩
theorem R.bY {g:Gh} {k:IntKind} {n:Unit->Int} {v:Value} (h:R g (.int k n) v):v=.int k (n ()):=by cases h;rfl
theorem R.da {g:Gh} {n:Unit->Bool} {v:Value} (h:R g (.bool n) v):v=.bool (n ()):=by cases h;rfl
theorem R.km {g:Gh} {v:Value} (h:R g .tt v):v=.bool true:=by cases h;rfl
theorem R.lx {g:Gh} {v:Value} (h:R g .ff v):v=.bool false:=by cases h;rfl
theorem R.gS {g:Gh} {n:Unit->List UInt8} {v:Value} (h:R g (.str n) v):v=.string ⟨(n ()).toArray⟩:=by cases h;rfl
theorem R.oN {g:Gh} {b:Unit->Bool} {c:Bool} (h:b ()=c):R g (.bool b) (.bool c):=by subst h;exact .bool b
theorem R.uD {g:Gh} {k:IntKind} {b:Unit->Int} {c:Int} (h:b ()=c):R g (.int k b) (.int k c):=by subst h;exact .int k b
theorem R.zY {g:Gh} {b:Unit->List UInt8} {c:ByteArray} (h:c=⟨(b ()).toArray⟩):R g (.str b) (.string c):=by subst h;exact .str b
theorem IS {g:Gh} {w:World} {op:BinOp} {k:IntKind} {a b:Unit->Int} {K:AV->Prop} (hs:op≠.shl) (sm:op≠.shr) (h:IQ op k a b K) :
  ∃ v u,(match op with
   | .add|.sub|.mul=>Op.intArith op k (a ()) (b ())
   | .quo|.rem=>Op.intDiv op k (a ()) (b ())
   | .and|.or|.xor|.andNot=>Op.intBits op k (a ()) (b ())
   | _=>Op.intCmp op (a ()) (b ())).run P w=.ok u w/\R g v u/\K v:=by
 cases op <;> simp only[IQ]at h
 case add=>exact⟨_,_,rfl,.int k _,h⟩
 case sub=>exact⟨_,_,rfl,.int k _,h⟩
 case mul=>exact⟨_,_,rfl,.int k _,h⟩
 case quo=>exact⟨_,_,by simp[Op.intDiv,h.1.h],.int k _,h.2⟩
 case rem=>exact⟨_,_,by simp[Op.intDiv,h.1.h],.int k _,h.2⟩
 case and=>exact⟨_,_,rfl,.int k _,h⟩
 case or=>exact⟨_,_,rfl,.int k _,h⟩
 case xor=>exact⟨_,_,rfl,.int k _,h⟩
 case andNot=>exact⟨_,_,rfl,.int k _,h⟩
 case eql=>exact⟨_,_,rfl,.bool _,h⟩
 case neq=>exact⟨_,_,rfl,.bool _,h⟩
 case lss=>exact⟨_,_,rfl,.bool _,h⟩
 case leq=>exact⟨_,_,rfl,.bool _,h⟩
 case gtr=>exact⟨_,_,rfl,.bool _,h⟩
 case geq=>exact⟨_,_,rfl,.bool _,h⟩
theorem toList_mk (l:List UInt8):(ByteArray.mk l.toArray).toList=l:=by
 rw[ByteArray.toList_eq]
theorem IT {g:Gh} {w:World} {op:BinOp} {a b:Unit->List UInt8} {K:AV->Prop} (h:L7 op a b K) :
  ∃ v u,(Op.stringOp op ⟨(a ()).toArray⟩ ⟨(b ()).toArray⟩).run P w=.ok u w/\R g v u/\K v:=by
 cases op <;> simp only[L7]at h <;> try exact h.elim
 case add =>
  refine⟨_,_,?_,.str _,h.2⟩;have:=h.1.h;have h1:(ByteArray.mk (a ()).toArray).size=(a ()).length:=by simp[ByteArray.size]
  have h2:(ByteArray.mk (b ()).toArray).size=(b ()).length:=by simp[ByteArray.size]
  simp only[Op.stringOp,h1,h2];rw[ZY (by simp[IntKind.max,IntKind.signed,IntKind.bits];omega)];simp only[Sem.run_pure];congr 2
 all_goals
  simp only[Op.stringOp,toList_mk,Sem.run_pure];exact⟨_,_,rfl,.bool _,h⟩
theorem R.nb {g:Gh} {r:AV} {b:Bool} (h:R g r (.bool b)):R g (nb r) (.bool !b):=by
 cases h with
 | tt=>exact .ff
 | ff=>exact .tt
 | bool c=>exact .bool (fun u=>!c u)
 | undef=>exact .undef _
section
variable {t:Nat} (n:Nat) (w:World)
theorem fh (h:aS P t=some .bool) (a b:Bool):(Op.equalIn (n+1) t (.bool a) (.bool b)).run P w=.ok (a == b) w:=by simp[Op.equalIn,ag h]
theorem cn {e:Nat} (h:aS P t=some (.pointer e)) (b:Option Addr):(Op.equalIn (n+1) t (.pointer none) (.pointer b)).run P w=.ok b.isNone w:=by simp[Op.equalIn,ag h]
theorem dX {e:Nat} (h:aS P t=some (.pointer e)) (b:Addr):(Op.equalIn (n+1) t (.pointer (some b)) (.pointer none)).run P w=.ok false w:=by simp[Op.equalIn,ag h]
theorem ns {e:Nat} {i:TypeInfo} (h:aS P t=some (.pointer e)) (hi:gn P e=some i) (a:Addr):(Op.equalIn (n+1) t (.pointer (some a)) (.pointer (some a))).run P w=.ok true w:=by
 simp[Op.equalIn,ag h,sizeOf,typeInfo,bu hi,run_sameAddr_same]
theorem so {e:Nat} {i:TypeInfo} {a b:Addr} {ca cb:Array Value} {ta tb:TypeId} (h:aS P t=some (.pointer e)) (hi:gn P e=some i) (cu:i.size≠0) (bC:a≠b)
  (ha:w.heap[a.block]?=some (.cells ca ta (0,0))) (hb:w.heap[b.block]?=some (.cells cb tb (0,0))):(Op.equalIn (n+1) t (.pointer (some a)) (.pointer (some b))).run P w=.ok false w:=by
 simp[Op.equalIn,ag h,sizeOf,typeInfo,bu hi,cu,run_sameAddr_other w bC ha hb]
theorem ly {e:Nat} (h:aS P t=some (.slice e)) (A:Option Addr) (l c:Nat):(Op.equalIn (n+1) t (.slice A l c) (.slice none 0 0)).run P w=.ok A.isNone w:=by
 cases A <;> simp[Op.equalIn,ag h]
theorem xM {a b c} (h:aS P t=some (.func a b c)) (f x y):(Op.equalIn (n+1) t (.func f x y) .nilFunc).run P w=.ok false w:=by simp[Op.equalIn,ag h]
theorem vU {a b c} (h:aS P t=some (.func a b c)):(Op.equalIn (n+1) t .nilFunc .nilFunc).run P w=.ok true w:=by simp[Op.equalIn,ag h]
end
theorem qc (g:Gh) (t:Ty):R g (.aL t fun _=>[]) (.slice none 0 0) :=
 .aL t (fun _=>[]) none 0 (fun _ _=>.nilIface) (Z8 _) (by show 0<=_;omega) (fun i x j y h _=>by simp at h) (fun i x j y h _=>by simp at h)
theorem vV {g:Gh}:∀ (t:Ty) (cs:List AV) (us:List Value) (K:(Unit->t.den)->List AV->Prop),dec t cs K->RL g cs us ->
  ∃ (y:Unit->t.den) (rest:List AV) (Vz VA:List Value),us=Vz++VA/\RL g (enc t y []) Vz/\RL g rest VA/\K y rest
 | .int k,cs,us,K,h,hr=>by
  obtain _|⟨c,cs⟩:=cs
  .simp[dec]at h
  obtain _|⟨u,us⟩:=us
  .exact hr.elim
  cases c <;> simp only[dec]at h <;> try exact h.elim
  split at h
  .rename_i hk _
   subst hk;exact⟨_,_,[u],us,rfl,⟨hr.1,trivial⟩,hr.2,h⟩
  .exact h.elim
 | .bool,cs,us,K,h,hr=>by
  obtain _|⟨c,cs⟩:=cs
  .simp[dec]at h
  obtain _|⟨u,us⟩:=us
  .exact hr.elim
  cases c <;> simp only[dec]at h <;> try exact h.elim
  .exact⟨_,_,[u],us,rfl,⟨hr.1,trivial⟩,hr.2,h⟩
  .have:=hr.1.km
   subst this;exact⟨fun _=>true,_,[_],us,rfl,⟨.bool (fun _=>true),trivial⟩,hr.2,h⟩
  .have:=hr.1.lx
   subst this;exact⟨fun _=>false,_,[_],us,rfl,⟨.bool (fun _=>false),trivial⟩,hr.2,h⟩
 | .str,cs,us,K,h,hr=>by
  obtain _|⟨c,cs⟩:=cs
  .simp[dec]at h
  obtain _|⟨u,us⟩:=us
  .exact hr.elim
  cases c <;> simp only[dec]at h <;> try exact h.elim
  exact⟨_,_,[u],us,rfl,⟨hr.1,trivial⟩,hr.2,h⟩
 | .list e,cs,us,K,h,hr=>by
  obtain _|⟨c,cs⟩:=cs
  .simp[dec]at h
  obtain _|⟨u,us⟩:=us
  .exact hr.elim
  cases c <;> simp only[dec]at h <;> try exact h.elim
  .split at h
   .rename_i hk _
    subst hk;exact⟨_,_,[u],us,rfl,⟨hr.1,trivial⟩,hr.2,h⟩
   .exact h.elim
  .have hu:u=.slice none 0 0:=by have:=hr.1;cases this;rfl
   subst hu;exact⟨fun _=>[],_,[_],us,rfl,⟨qc g e,trivial⟩,hr.2,h⟩
 | .pair a b,cs,us,K,h,hr=>by
  simp only[dec]at h;obtain⟨x,r1,u1,u2,rfl,h1,h2,h3⟩:=vV a cs us _ h hr;obtain⟨y,r2,u3,u4,rfl,h4,h5,h6⟩:=vV b r1 u2 _ h3 h2;refine⟨fun u=>(x u,y u),r2,u1++u3,u4,by simp,?_,h5,h6⟩;simp only[enc];rw[cK];exact h1.append h4
theorem ko {g:Gh} {t:Ty} {cs:List AV} {us:List Value} {K:(Unit->t.den)->Prop} (h:vS t cs K) (hr:RL g cs us):∃ y,RL g (enc t y []) us/\K y:=by
 unfold vS at h;obtain⟨y,rest,u1,u2,rfl,h1,h2,h3⟩:=vV t cs us _ h hr;cases rest with
 | nil =>
  cases u2 with
  | nil=>exact⟨y,by simpa using h1,h3⟩
  | cons _ _=>exact h2.elim
 | cons _ _=>exact h3.elim
section
variable {w:World}
theorem De {t:Nat} {d:TypeDesc} (ht:aS P t=some d) (hs:∀ fs,d≠.struct fs) (ha:∀ n e,d≠.array n e) {us:Array Value} {n:Nat} {u:Value} (hu:us[n]?=some u):(part t us n).run P w=.ok u w:=by
 have K1:(isAgg t).run P w=.ok false w:=by
  simp only[isAgg,Sem.run_bind,ag ht,Result.andThen_ok];cases d <;> simp_all
 simp[part,K1,hu]
theorem xN {t:Nat} {fs:Array Field} (ht:aS P t=some (.struct fs)) {m:Nat} (hm:bR P t=some m) (us:Array Value) (n:Nat):(part t us n).run P w=.ok (.agg (us.extract n (n+m))) w:=by
 simp only[part,isAgg,Sem.run_bind,ag ht,aT hm,Result.andThen_ok,Sem.run_pure,if_true,Sem.run_ite,Sem.run_map]
def IU (P:Program) (t:Nat) (us:List Value):Value:=match aS P t with|some (.struct _)=>.agg us.toArray|_=>us.headD .nilIface
theorem Bz {g:Gh}:∀ (d:Nat) (t:Nat) (ty:Ty),gp P d t=some ty->xJ P d t=true->∀ (n:Nat) (us vs:List Value) (x y:Unit->ty.den),RL g (enc ty x []) us->RL g (enc ty y []) vs->d<=n ->
  (Op.equalIn n t (IU P t us) (IU P t vs)).run P w=.ok (Bu ty (x ()) (y ())) w
 | 0,_,_,h,_=>by simp[gp]at h
 | d+1,t,ty,h,ho=>by
  intro n us vs x y hu hv hn;obtain⟨m,rfl⟩:∃ m,n=m+1:=⟨n - 1,by omega⟩
  simp only[gp]at h;simp only[xJ]at ho;split at h
  .rename_i k ht
   cases h;obtain _|⟨u,us⟩:=us <;> obtain _|⟨v,vs⟩:=vs <;> try exact hu.elim
   .exact hv.elim
   rw[hu.1.bY,hv.1.bY];simp only[IU,ht,List.headD_cons];rw[run_equalIn_int w m t k k _ _ (au ht)];rfl
  .rename_i ht
   cases h;obtain _|⟨u,us⟩:=us <;> obtain _|⟨v,vs⟩:=vs <;> try exact hu.elim
   .exact hv.elim
   rw[hu.1.da,hv.1.da];simp only[IU,ht,List.headD_cons];rw[fh m w ht];rfl
  .rename_i ht
   cases h;obtain _|⟨u,us⟩:=us <;> obtain _|⟨v,vs⟩:=vs <;> try exact hu.elim
   .exact hv.elim
   rw[hu.1.gS,hv.1.gS];simp only[IU,ht,List.headD_cons];rw[run_equalIn_string w m t _ _ (au ht),ByteArray.toList_eq,ByteArray.toList_eq];rfl
  .rename_i e ht
   rw[ht]at ho;cases ho
  .rename_i fs ht
   rw[ht]at ho;simp only[aai,aa4]at ho;have VB:P.fieldsOf t=fs:=by unfold Program.fieldsOf;rw[au ht]
   simp only[IU,ht];rw[run_equalIn_struct w m t _ _ (by rw[VB];exact au ht) ho.1,VB];have go:∀ (l:List Field) (k:Nat) (ty:Ty) (x y:Unit->ty.den),uC (gp P d) l=some ty->E9 P (gp P d) (xJ P d) l k=true->RL g (enc ty x []) (us.drop k)->RL g (enc ty y []) (vs.drop k) ->
     (Op.eqFields m us.toArray vs.toArray l).run P w=.ok (Bu ty (x ()) (y ())) w:=by
    intro l;induction l with
    | nil=>intro k ty x y h;simp[uC]at h
    | cons f r ih =>
     intro k ty x y h he hu hv;simp only[E9]at he;obtain⟨fn,xA,hk,cu,zM,h1,h2,h3,h4⟩:∃ fn xA,Nat.beq f.offset k=true/\bR P f.type=some fn/\gp P d f.type=some xA/\Nat.beq fn xA.size=true/\f.name ≠ "_" /\ xJ P d f.type=true/\E9 P (gp P d) (xJ P d) r (k+fn)=true:=by
      cases hk:Nat.beq f.offset k with
      | false=>rw[hk]at he;cases he
      | true =>
       cases cu:bR P f.type with
       | none=>rw[hk,cu]at he;cases he
       | some fn =>
        cases zM:gp P d f.type with
        | none=>rw[hk,cu,zM]at he;cases he
        | some xA =>
         rw[hk,cu,zM]at he;simp only[aai,aa4,beq_eq_false_iff_ne]at he;exact⟨fn,xA,rfl,rfl,rfl,he.1.1.1,he.1.1.2,he.1.2,he.2⟩
     have hk:=Z3 hk;have h1:=Z3 h1;subst hk;have field:∀ (us:List Value) (z:Unit->xA.den),RL g (enc xA z []) ((us.drop f.offset).take fn)->(part f.type us.toArray f.offset).run P w=.ok (IU P f.type ((us.drop f.offset).take fn)) w:=by
      intro us z hz;unfold IU;cases hd:aS P f.type with
      | none=>cases d <;> simp[gp,hd]at zM
      | some dd =>
       by_cases fR:∃ Sp,dd=.struct Sp
       .obtain⟨Sp,rfl⟩:=fR
        simp only[];rw[xN hd cu];congr 2;apply abq;simp[ach]
       .have K1:∀ n e,dd≠.array n e:=by
         rintro n e rfl;cases d <;> simp[xJ,hd]at h3
        have hlen:=hz.length;rw[bt]at hlen;have sq:=Ty.size_pos xA;obtain⟨u,Iw⟩:∃ u,((us.drop f.offset).take fn)[0]?=some u:=⟨_,Z1 (by omega)⟩
        rw[De hd (fun Sp e=>fR ⟨Sp,e⟩) K1 (u:=u) (by
         rw[aap]at Iw;split at Iw
         .simpa using Iw
         .cases Iw)]
        have:((us.drop f.offset).take fn).headD .nilIface=u:=by
         cases hl:(us.drop f.offset).take fn with
         | nil=>rw[hl]at Iw;cases Iw
         | cons a b=>rw[hl]at Iw;simpa using Iw
        cases dd <;> first|(exfalso;exact fR ⟨_,rfl⟩)|(simp only[this])
     have step:∀ (zx zy:Unit->xA.den),RL g (enc xA zx []) ((us.drop f.offset).take fn)->RL g (enc xA zy []) ((vs.drop f.offset).take fn) ->
       (Op.eqFields m us.toArray vs.toArray (f::r)).run P w=if Bu xA (zx ()) (zy ())=true then(Op.eqFields m us.toArray vs.toArray r).run P w else .ok false w:=by
      intro zx zy VC VD;simp only[Op.eqFields];rw[Z0 h2];simp only[Sem.run_bind,field us zx VC,field vs zy VD,Result.andThen_ok,Bz d f.type xA zM h3 m _ _ zx zy VC VD (by omega)];cases Bu xA (zx ()) (zy ()) <;> simp
     cases r with
     | nil =>
      simp only[uC]at h;rw[zM]at h;cases h;have Ix:=hu.length;have zZ:=hv.length;rw[bt]at Ix zZ;rw[step x y (by rw[Z6 (by omega)];exact hu) (by rw[Z6 (by omega)];exact hv)];simp only[Op.eqFields,Sem.run_pure];generalize Bu _ (x ()) (y ())=b;cases b <;> simp
     | cons f2 r2 =>
      simp only[uC]at h;rw[zM]at h;split at h <;> try cases h
      rename_i ta tb Tc ux;cases Tc;simp only[enc]at hu hv;rw[cK xA]at hu hv;have sp:∀ {us:List Value} {a b:List AV},RL g (a++b) us->a.length=fn->RL g a (us.take fn)/\RL g b (us.drop fn):=by
       intro us a b rB hl;refine⟨RL.mk ?_ (fun i z u h1 h2=>?_),RL.mk ?_ (fun i z u h1 h2=>?_)⟩
       .have:=rB.length;simp at this ⊢;omega
       .rw[aap]at h2
        split at h2
        .exact rB.at_ i z u (by rw[ab1 (by omega)];exact h1) h2
        .cases h2
       .have:=rB.length;simp at this ⊢;omega
       .exact rB.at_ (fn+i) z u (by rw[abZ (by omega),hl,Nat.add_sub_cancel_left];exact h1) (by simpa using h2)
      have hl:∀ z:Unit->xA.den,(enc xA z []).length=fn:=fun z=>by rw[bt,h1]
      obtain⟨Td,Df⟩:=sp hu (hl _);obtain⟨Pm,Fh⟩:=sp hv (hl _);rw[acq]at Df Fh;rw[step _ _ Td Pm,ih (f.offset+fn) tb _ _ ux h4 Df Fh];simp only[Bu];cases Bu xA (x ()).1 (y ()).1 <;> simp
   have:=go fs.toList 0 ty x y h ho.2 (by simpa using hu) (by simpa using hv);exact this
  .rename_i n' e ht
   rw[ht]at ho;cases ho
  .cases h
end
theorem Fi {g:Gh} {E:List Chunk} {w:World} {t:Nat} {x y:Operand} {a b:AV} {va vb:Value} {K:AV->Prop} (hS:eE g E w) (ha:R g a va) (hb:R g b vb) (h:Sn P t x y E a b K) :
  ∃ r c,K r/\R g r (.bool c)/\(eqGuard .eql t x y va vb).run P w=.ok () w/\(eqGuard .neq t x y va vb).run P w=.ok () w /\
   (binOp .eql t va vb).run P w=.ok (.bool c) w/\(binOp .neq t va vb).run P w=.ok (.bool !c) w:=by
 unfold Sn at h;have H:∀ (c:Bool) (r:AV),K r->R g r (.bool c)->(∀ k n k' m,va=.int k n->vb=.int k' m->False)->(∀ s s',va=.string s->vb=.string s'->False)->(va=.nilIface->vb=.nilIface->False)->(∀ p q,va=.agg p->vb=.agg q->False) ->
   (∀ f k p q,va=.float f k->vb=.float p q->False)->(∀ f k l p q m,va=.complex f k l->vb=.complex p q m->False) ->
   (Op.equalIn 10000 t va vb).run P w=.ok c w->∃ r c,K r/\R g r (.bool c)/\(eqGuard .eql t x y va vb).run P w=.ok () w/\(eqGuard .neq t x y va vb).run P w=.ok () w /\
   (binOp .eql t va vb).run P w=.ok (.bool c) w/\(binOp .neq t va vb).run P w=.ok (.bool !c) w:=by
  intro c r hK hR h1 h2 h3 h4 h5 h6 he;refine⟨r,c,hK,hR,?_,?_,?_,?_⟩
  .unfold eqGuard;cases va <;> cases vb <;> first|rfl|exact(h3 rfl rfl).elim|exact(h4 _ _ rfl rfl).elim
  .unfold eqGuard;cases va <;> cases vb <;> first|rfl|exact(h3 rfl rfl).elim|exact(h4 _ _ rfl rfl).elim
  .have hb:binOp .eql t va vb=(do pure (.bool (<-Op.equal t va vb))):=by
    unfold binOp;cases va <;> cases vb <;> first|rfl|exact(h1 _ _ _ _ rfl rfl).elim|exact(h2 _ _ rfl rfl).elim|exact(h5 _ _ _ _ rfl rfl).elim|exact(h6 _ _ _ _ _ _ rfl rfl).elim
   rw[hb];simp[Op.equal,Op.maxDepth,he]
  .have hb:binOp .neq t va vb=(do pure (.bool (!(<-Op.equal t va vb)))):=by
    unfold binOp;cases va <;> cases vb <;> first|rfl|exact(h1 _ _ _ _ rfl rfl).elim|exact(h2 _ _ rfl rfl).elim|exact(h5 _ _ _ _ rfl rfl).elim|exact(h6 _ _ _ _ _ _ rfl rfl).elim
   rw[hb];simp[Op.equal,Op.maxDepth,he]
 split at h
 ·
  split at h
  .rename_i hk _
   subst hk;cases ha;cases hb;refine⟨_,_,h,.bool _,rfl,rfl,?_,?_⟩ <;> simp[binOp,Op.intCmp,bne]
  .exact h.elim
 .cases ha;cases hb
  refine⟨_,_,h,.bool _,rfl,rfl,?_,?_⟩ <;> simp[binOp,Op.stringOp,toList_mk]
 all_goals
  first
  | exact h.elim
  | (split at h <;> try exact h.elim)
 all_goals rename_i ht
 .cases ha;cases hb;exact H _ _ h (.bool _) (by simp) (by simp) (by simp) (by simp) (by simp) (by simp) (fh 9999 w ht _ _)
 .cases ha;cases hb;exact H _ _ h (R.oN (by simp)) (by simp) (by simp) (by simp) (by simp) (by simp) (by simp) (fh 9999 w ht _ _)
 .cases ha;cases hb;exact H _ _ h (R.oN (by simp)) (by simp) (by simp) (by simp) (by simp) (by simp) (by simp) (fh 9999 w ht _ _)
 .cases ha;cases hb;exact H _ _ h .tt (by simp) (by simp) (by simp) (by simp) (by simp) (by simp) (fh 9999 w ht _ _)
 .cases ha;cases hb;exact H _ _ h .tt (by simp) (by simp) (by simp) (by simp) (by simp) (by simp) (fh 9999 w ht _ _)
 .cases ha;cases hb;exact H _ _ h .ff (by simp) (by simp) (by simp) (by simp) (by simp) (by simp) (fh 9999 w ht _ _)
 .cases ha;cases hb;exact H _ _ h .ff (by simp) (by simp) (by simp) (by simp) (by simp) (by simp) (fh 9999 w ht _ _)
 .cases ha;cases hb;exact H _ _ h .tt (by simp) (by simp) (by simp) (by simp) (by simp) (by simp) (cn 9999 w ht _)
 .cases ha;cases hb;exact H _ _ h .ff (by simp) (by simp) (by simp) (by simp) (by simp) (by simp) (dX 9999 w ht _)
 .cases ha;cases hb;exact H _ _ h .ff (by simp) (by simp) (by simp) (by simp) (by simp) (by simp) (dX 9999 w ht _)
 .cases ha;cases hb;exact H _ _ h .ff (by simp) (by simp) (by simp) (by simp) (by simp) (by simp) (dX 9999 w ht _)
 .cases ha;cases hb;exact H _ _ h .ff (by simp) (by simp) (by simp) (by simp) (by simp) (by simp) (dX 9999 w ht _)
 .cases ha;cases hb;exact H _ _ h .ff (by simp) (by simp) (by simp) (by simp) (by simp) (by simp) (cn 9999 w ht _)
 .cases ha;cases hb;exact H _ _ h .ff (by simp) (by simp) (by simp) (by simp) (by simp) (by simp) (cn 9999 w ht _)
 .cases ha;cases hb;exact H _ _ h .ff (by simp) (by simp) (by simp) (by simp) (by simp) (by simp) (cn 9999 w ht _)
 .cases ha;cases hb;exact H _ _ h .ff (by simp) (by simp) (by simp) (by simp) (by simp) (by simp) (cn 9999 w ht _)
 .rename_i i f _ _
  obtain⟨rfl,_,_⟩:=ha.kl;cases hb;refine H _ _ h (.bool _) (by simp) (by simp) (by simp) (by simp) (by simp) (by simp) ?_;cases hf:f ()with
  | none=>simpa using cn 9999 w ht none
  | some x=>simpa using dX 9999 w ht ⟨g.W i x.1,x.2,none⟩
 .rename_i i f _ _
  obtain⟨rfl,_,_⟩:=hb.kl;cases ha;refine H _ _ h (.bool _) (by simp) (by simp) (by simp) (by simp) (by simp) (by simp) ?_;cases hf:f ()with
  | none=>simpa using cn 9999 w ht none
  | some x=>simpa using cn 9999 w ht (some ⟨g.W i x.1,x.2,none⟩)
 .rename_i i f j q _ te
  split at h <;> try exact h.elim
  rename_i sz hp cu cx hE;have cx:=Z3 cx;subst cx;obtain⟨rfl,hi,h1⟩:=ha.kl;obtain⟨rfl,_,h2⟩:=hb.kl;obtain⟨h3,h4,h5⟩:=h.h;refine H _ _ h5 (.bool _) (by simp) (by simp) (by simp) (by simp) (by simp) (by simp) ?_;cases hf:f ()with
  | none =>
   cases hq:q ()with
   | none=>simpa using cn 9999 w ht none
   | some y=>simpa using cn 9999 w ht (some ⟨g.W i y.1,y.2,none⟩)
  | some x =>
   cases hq:q ()with
   | none=>simpa using dX 9999 w ht ⟨g.W i x.1,x.2,none⟩
   | some y =>
    obtain⟨T,n,c,g1⟩:=h3 x hf;obtain⟨T',n',c',g2⟩:=h4 y hq;obtain⟨vs,g3,_⟩:=hS.nR hE (h1 x hf) g1;obtain⟨Te,g4,_⟩:=hS.nR hE (h2 y hq) g2;have Md:=(by have:=hS.sat i;rw[hE]at this;exact this.2.1:∀ k k',k<g.M i->k'<g.M i->g.W i k=g.W i k'->k=k')
    obtain⟨ti,vW,gC⟩:∃ ti,gn P te=some ti/\ti.size=sz+1:=by
     unfold bR at cu;split at cu
     .rename_i ti vW;exact⟨ti,vW,by simpa using cu⟩
     .cases cu
    by_cases IV:x=y
    .subst IV
     have:=ns 9999 w ht vW ⟨g.W i x.1,x.2,none⟩;simpa using this
    .have bC:(⟨g.W i x.1,x.2,none⟩:Addr)≠⟨g.W i y.1,y.2,none⟩:=fun e=>by
      simp only[Addr.mk.injEq,and_true]at e;exact IV (Prod.ext (Md _ _ (h1 x hf) (h2 y hq) e.1) e.2)
     have hb:(some x == some y)=false:=by simpa using IV
     rw[hb];exact so 9999 w ht vW (by omega) bC g3 g4
 .cases ha;cases hb;exact H _ _ h .tt (by simp) (by simp) (by simp) (by simp) (by simp) (by simp) (ly 9999 w ht _ _ _)
 .rename_i ty xs _ _
  cases ha with
  | aL _ _ A c u hc hm ha hr =>
   cases hb;refine H _ _ (h A.isNone fun hn=>?_) (.bool _) (by simp) (by simp) (by simp) (by simp) (by simp) (by simp) (ly 9999 w ht _ _ _);cases hx:xs ()with
   | nil=>rfl
   | cons x r =>
    have hp:=Ty.size_pos ty;have he:0<(enc ty (fun _=>x) []).length:=by rw[bt];exact hp
    obtain⟨b,off,cells,T,fr,h1,_⟩:=ha 0 x 0 _ (by rw[hx];rfl) (Z1 he);rw[h1]at hn;simp at hn
 .rename_i i sz off n _ _
  cases ha with
  | vec _ _ _ _ A c _ hL hn hs =>
   cases hb;refine H _ _ (h A.isNone fun qT=>?_) (.bool _) (by simp) (by simp) (by simp) (by simp) (by simp) (by simp) (ly 9999 w ht _ _ _);cases hV:g.V i with
   | none=>exact(hn hV).2.1
   | some cap =>
    have:=(hs cap hV).2.2.2.2;simp at qT;exact(this qT).elim
 .cases ha;cases hb;exact H _ _ h .tt (by simp) (by simp) (by simp) (by simp) (by simp) (by simp) (vU 9999 w ht)
 .cases ha;cases hb;exact H _ _ h .ff (by simp) (by simp) (by simp) (by simp) (by simp) (by simp) (xM 9999 w ht _ _ _)
 .rename_i ty _
  obtain⟨qU,h⟩:=h;obtain⟨us,rfl,hu⟩:=ha.gR;obtain⟨vs,rfl,hv⟩:=hb.gR;have hc:=qU.h;rw[aai,aa4]at hc;obtain⟨x',hx,h⟩:=ko h hu;obtain⟨y',hy,h⟩:=ko h hv;have he:=Bz (w:=w) 6 t ty ‹_› hc.1 10000 _ _ x' y' hx hy (by omega);have qW:∃ fs,aS P t=some (.struct fs):=⟨_,‹_›⟩
  obtain⟨fs,qW⟩:=qW;simp only[IU,qW]at he;have e1:us.toList.toArray=us:=by simp
  have e2:vs.toList.toArray=vs:=by simp
  rw[e1,e2]at he;refine⟨_,_,h,.bool _,run_eqGuard_agg w _ _ _ _ _ _ hc.2,run_eqGuard_agg w _ _ _ _ _ _ hc.2,?_,?_⟩
  .rw[run_eql_struct,he];rfl
  .rw[run_neq_struct,he];rfl
 .rename_i i p j q _ te
  split at h <;> try exact h.elim
  rename_i ti vW hi hg;have hi:=Z3 hi;have hg:=Z3 hg;subst hi hg;cases ha;cases hb;exact H _ _ h .tt (by simp) (by simp) (by simp) (by simp) (by simp) (by simp) (ns 9999 w ht vW _)
end
section
variable {P:Program}
theorem nS (op:BinOp) (t:Nat) (x y:Operand) (k k':IntKind) (a b:Int) (w:World):(eqGuard op t x y (.int k a) (.int k' b)).run P w=.ok () w:=by
 unfold eqGuard;cases op <;> rfl
theorem z1 (op:BinOp) (t:Nat) (x y:Operand) (a b:ByteArray) (w:World):(eqGuard op t x y (.string a) (.string b)).run P w=.ok () w:=by
 unfold eqGuard;cases op <;> rfl
theorem Fj {g:Gh} {w:World} {op:BinOp} {t:Nat} {x y:Operand} {k k':IntKind} {a b:Unit->Int} {K:AV->Prop} (h:KZ op k k' a b K) :
  ∃ r c,(do eqGuard op t x y (.int k (a ())) (.int k' (b ()));binOp op t (.int k (a ())) (.int k' (b ())):Sem Value).run P w=.ok c w/\R g r c/\K r:=by
 have H:op≠.shl->op≠.shr->(match decEq k k' with|isTrue _=>IQ op k a b K|isFalse _=>False) ->
   ∃ r c,(do eqGuard op t x y (.int k (a ())) (.int k' (b ()));binOp op t (.int k (a ())) (.int k' (b ())):Sem Value).run P w=.ok c w/\R g r c/\K r:=by
  clear h;intro n1 n2 h;split at h
  .rename_i hk _
   subst hk;obtain⟨r,u,h1,h2,h3⟩:=IS (P:=P) (g:=g) (w:=w) n1 n2 h;refine⟨r,u,?_,h2,h3⟩;simp only[Sem.run_bind,nS,Result.andThen_ok];rw[<-h1];cases op <;> first|exact(n1 rfl).elim|exact(n2 rfl).elim|(simp[binOp])
  .exact h.elim
 cases op
 case shl =>
  have h1:=h.1.h;refine⟨_,_,?_,.int k _,h.2⟩;simp only[Sem.run_bind,nS,Result.andThen_ok,binOp,Op.shift];rw[ZY (by omega)];rfl
 case shr =>
  have h1:=h.1.h;refine⟨_,_,?_,.int k _,h.2⟩;simp only[Sem.run_bind,nS,Result.andThen_ok,binOp,Op.shift];rw[ZY (by omega)];rfl
 all_goals exact H (by simp) (by simp) h
theorem IW {g:Gh} {E:List Chunk} {w:World} {op:BinOp} {t:Nat} {x y:Operand} {a b:AV} {va vb:Value} {K:AV->Prop} (hS:eE g E w) (ha:R g a va) (hb:R g b vb) (h:L8 P op t x y E a b K) :
  ∃ r c,(do eqGuard op t x y va vb;binOp op t va vb:Sem Value).run P w=.ok c w/\R g r c/\K r:=by
 unfold L8 at h;split at h
 .cases ha;cases hb
  exact Fj h
 .cases ha;cases hb
  obtain⟨r,u,h1,h2,h3⟩:=IT (P:=P) (g:=g) (w:=w) h;refine⟨r,u,?_,h2,h3⟩;simp only[Sem.run_bind,z1,Result.andThen_ok];rw[<-h1];cases op <;> rfl
 .split at h
  .obtain⟨r,c,hK,hR,g1,_,b1,_⟩:=Fi (P:=P) (w:=w) hS ha hb h
   exact⟨r,_,by simp[g1,b1],hR,hK⟩
  .obtain⟨r,c,hK,hR,_,g1,_,b1⟩:=Fi (P:=P) (w:=w) hS ha hb h
   exact⟨nb r,_,by simp[g1,b1],hR.nb,hK⟩
  .exact h.elim
theorem Fk {g:Gh} {w:World} {b a:AV} {v u:Value} {K:AV->Prop} (hb:R g b v) (ha:R g a u) (h:Fa b a K):∃ r c,(Builtin.min2 u v).run P w=.ok c w/\R g r c/\K r:=by
 unfold Fa at h;split at h
 .cases hb;cases ha;exact⟨_,_,by simp[Builtin.min2],R.uD rfl,h⟩
 .exact h.elim
theorem Fl {g:Gh} {w:World} {b a:AV} {v u:Value} {K:AV->Prop} (hb:R g b v) (ha:R g a u) (h:Fb b a K):∃ r c,(Builtin.max2 u v).run P w=.ok c w/\R g r c/\K r:=by
 unfold Fb at h;split at h
 .cases hb;cases ha;exact⟨_,_,by simp[Builtin.max2],R.uD rfl,h⟩
 .exact h.elim
theorem BA {g:Gh} {w:World}:∀ (l:List AV) (us:List Value) (a:AV) (u:Value) (K:AV->Prop),RL g l us->R g a u->L9 l a K->∃ r c,(us.foldlM Builtin.min2 u).run P w=.ok c w/\R g r c/\K r
 | [],[],a,u,K,_,ha,h=>⟨a,u,rfl,ha,h⟩
 | b::l,v::us,a,u,K,hl,ha,h=>by
  obtain⟨r,c,h1,h2,h3⟩:=Fk (P:=P) (w:=w) hl.1 ha h;obtain⟨r',c',h4,h5,h6⟩:=BA (w:=w) l us r c K hl.2 h2 h3;exact⟨r',c',by simp[h1,h4],h5,h6⟩
theorem BB {g:Gh} {w:World}:∀ (l:List AV) (us:List Value) (a:AV) (u:Value) (K:AV->Prop),RL g l us->R g a u->Ma l a K->∃ r c,(us.foldlM Builtin.max2 u).run P w=.ok c w/\R g r c/\K r
 | [],[],a,u,K,_,ha,h=>⟨a,u,rfl,ha,h⟩
 | b::l,v::us,a,u,K,hl,ha,h=>by
  obtain⟨r,c,h1,h2,h3⟩:=Fl (P:=P) (w:=w) hl.1 ha h;obtain⟨r',c',h4,h5,h6⟩:=BB (w:=w) l us r c K hl.2 h2 h3;exact⟨r',c',by simp[h1,h4],h5,h6⟩
theorem IX {g:Gh} {w:World} {t:Nat} {ts:List Nat} {ty:Nat} {cs:Array Bool} {a:AV} {u:Value} {K:AV->Prop} (hr:R g a u) (h:Mb P t a K) :
  ∃ r c,(builtin .len (t::ts).toArray ty cs #[u]).run P w=.ok (.value c) w/\R g r c/\K r:=by
 unfold Mb at h;split at h <;> try exact h.elim
 all_goals
  split at h <;> try exact h.elim
  rename_i ht;cases hr;exact⟨_,_,by simp[builtin,Builtin.len_,ag ht];rfl,R.uD (by simp[goInt,ByteArray.size]),h⟩
theorem IY {g:Gh} {w:World} {t:Nat} {ts:List Nat} {ty:Nat} {cs:Array Bool} {a:AV} {u:Value} {K:AV->Prop} (hr:R g a u) (h:Mc P t a K) :
  ∃ r c,(builtin .cap (t::ts).toArray ty cs #[u]).run P w=.ok (.value c) w/\R g r c/\K r:=by
 cases a <;> simp only[Mc]at h <;> try exact h.elim
 .split at h <;> try exact h.elim
  rename_i ht;cases hr;exact⟨_,_,by simp[builtin,Builtin.cap_,ag ht];rfl,R.uD (by simp[goInt]),h⟩
 .rename_i i sz off n
  split at h <;> try exact h.elim
  rename_i ht;cases hr with|vec _ _ _ _ A c hi hL hn hs =>
  have hle:n ()<=c:=by
   cases hV:g.V i with
   | none=>have:=hn hV;omega
   | some cap=>have:=hs cap hV;omega
  exact⟨_,_,by simp[builtin,Builtin.cap_,ag ht];rfl,R.uD (by simp[goInt]),h c hle⟩
theorem xO {g:Gh} {E:List Chunk} {w:World} {b:Builtin} {t:Nat} {ts:List Nat} {ty:Nat} {cs:Array Bool} {az:List AV} {us:List Value} {K:AV->Prop} (hS:eE g E w) (hr:RL g az us) (h:sl P b t az E K) :
  ∃ r c,(builtin b (t::ts).toArray ty cs us.toArray).run P w=.ok (.value c) w/\R g r c/\K r:=by
 unfold sl at h;split at h
 .exact h.elim
 .obtain _|⟨u,us⟩:=us <;> simp only[RL]at hr
  split at h
  .split at h
   .obtain _|⟨u',us⟩:=us
    .split at h
     .rename_i i f
      split at h <;> try exact h.elim
      rename_i ht hE;obtain⟨es,cl,h1,h2⟩:=h.h;obtain⟨rfl,hi,hf⟩:=hr.1.nQ;obtain⟨ms,h3,h4⟩:=hS.zW hE hf h1;have hl:(ms.size:Int)=(es.length:Int):=by rw[h4.length];simp
      exact⟨_,_,by simp[builtin,Builtin.len_,ag ht,MapKept.run_getObj_map h3];rfl,R.uD (by simp[goInt,hl]),h2⟩
     .exact IX hr.1 h
    .exact hr.2.elim
   .exact h.elim
  .split at h
   .obtain _|⟨u',us⟩:=us
    .exact IY hr.1 h
    .exact hr.2.elim
   .exact h.elim
  .obtain⟨r,c,h1,h2,h3⟩:=BA (P:=P) (w:=w) _ us _ u K hr.2 hr.1 h
   exact⟨r,c,by simp[builtin,Builtin.min_,h1],h2,h3⟩
  .obtain⟨r,c,h1,h2,h3⟩:=BB (P:=P) (w:=w) _ us _ u K hr.2 hr.1 h
   exact⟨r,c,by simp[builtin,Builtin.max_,h1],h2,h3⟩
  .split at h <;> try exact h.elim
   rename_i i o n;obtain _|⟨u',us⟩:=us
   .have hr:=hr.1
    obtain⟨dM,hk⟩:=h;obtain⟨h0,h1⟩:=dM.h;cases hr with|vec _ _ _ _ A c hi hL hn hs =>
    cases hV:g.V i with
    | none=>exact(h1 (hn hV).2.1).elim
    | some cap =>
     obtain⟨h2,h3,h4,h5,h6⟩:=hs cap hV;have hA:=h5 (.inr h0);rw[h0]at hA;subst hA;refine⟨_,.pointer (some ⟨g.B i,0,none⟩),?_,?_,hk⟩
     .have:=Lib.run_unsafeSliceData_row (P:=P) w (t::ts).toArray ty ⟨g.B i,0*1,none⟩ (n ()) c (by omega)
      simp[builtin,this]
     .have:=R.bg (g:=g) i 1 (fun _=>0) 0 hi (by show 0<g.L i;omega)
      simpa using this
   .exact hr.2.elim
  .exact h.elim
end
section
variable {P:Program}
theorem mr {g:Gh}:∀ (n:Nat) (cs vs r:List AV) (us ws:List Value),k8 n cs vs=some r->RL g cs us->RL g vs ws->RL g r (us.take n++ws++us.drop (n+ws.length))/\n+ws.length<=us.length
 | 0,cs,[],r,us,ws,h,h1,h2=>by
  cases ws with
  | cons _ _=>exact h2.elim
  | nil =>
   cases cs <;> simp[k8]at h <;> subst h <;> simpa using h1
 | 0,[],_::_,r,us,ws,h,h1,h2=>by simp[k8]at h
 | 0,c::cs,v::vs,r,us,ws,h,h1,h2=>by
  simp only[k8]at h;split at h
  .rename_i r' hr
   simp only[aaJ]at h;subst h;cases us with
   | nil=>exact h1.elim
   | cons u us =>
    cases ws with
    | nil=>exact h2.elim
    | cons x ws =>
     obtain⟨h3,h4⟩:=mr 0 cs vs r' us ws hr h1.2 h2.2;simp only[abR,ab3,aaf]at h3 h4 ⊢;exact⟨⟨h2.1,by simpa using h3⟩,by simpa using h4⟩
  .cases h
 | n+1,[],vs,r,us,ws,h,h1,h2=>by simp[k8]at h
 | n+1,c::cs,vs,r,us,ws,h,h1,h2=>by
  simp only[k8]at h;split at h
  .rename_i r' hr
   simp only[aaJ]at h;subst h;cases us with
   | nil=>exact h1.elim
   | cons u us =>
    obtain⟨h3,h4⟩:=mr n cs vs r' us ws hr h1.2 h2;refine⟨?_,by simp;omega⟩;rw[show n+1+ws.length=n+ws.length+1 by omega];exact⟨h1.1,h3⟩
  .cases h
theorem xP (off:Nat):∀ (l:List Value) (k:Nat) (arr:Array Value),off+k+l.length<=arr.size ->
  ((l.zipIdx k).foldl (fun cs (cj:Value×Nat)=>cs.setIfInBounds (off+cj.2) cj.1) arr).toList=arr.toList.take (off+k)++l++arr.toList.drop (off+k+l.length)
 | [],k,arr,h=>by simp
 | c::l,k,arr,h=>by
  simp only[List.zipIdx_cons,List.foldl_cons,Z9]at h ⊢;rw[xP off l (k+1) _ (by simp;omega)];simp only[Array.toList_setIfInBounds];apply abG;intro i;have hs:arr.toList.length=arr.size:=by simp
  rcases abr i (off+k)with hi|hi|hi
  .simp[aau,aap,abh,hs,show i<off+(k+1) by omega,show i<arr.size by omega,hi,show¬off+k=i by omega,show min (off+(k+1)) arr.size=off+(k+1) by omega,show min (off+k) arr.size=off+k by omega]
  .subst hi
   simp[aau,aap,abh,hs,show min (off+(k+1)) arr.size=off+(k+1) by omega,show min (off+k) arr.size=off+k by omega]
  .obtain⟨j,rfl⟩:∃ j,i=off+k+1+j:=⟨i - (off+k+1),by omega⟩
   simp[aau,aap,abh,hs,show min (off+(k+1)) arr.size=off+(k+1) by omega,show min (off+k) arr.size=off+k by omega,show¬(off+k+1+j<off+(k+1)) by omega,show¬(off+k+1+j<off+k) by omega,
    show off+k+1+j - (off+(k+1))=j by omega,show off+k+1+j - (off+k)=j+1 by omega]
   by_cases hj:j<l.length
   .simp[hj]
   .simp[hj,aam,abh] <;> (try (rw[ZY (by omega)];congr 1;omega))
theorem R.cells {g:Gh} {v:AV} {u:Value} {cs:List AV} (h:R g v u) (hc:gF v=some cs):RL g cs u.cells.toList:=by
 cases h <;> simp only[gF,aaJ]at hc <;> try (cases hc;done)
 case agg mu vs hl hr=>subst hc;exact(R.gR (.agg mu vs hl hr)).elim fun Te ⟨e,h⟩=>by cases e;exact h
 case hp i f hi hf=>subst hc;exact⟨.hp i f hi hf,trivial⟩
 case hm i f hi hf=>subst hc;exact⟨.hm i f hi hf,trivial⟩
 all_goals (subst hc;exact⟨by constructor <;> assumption,trivial⟩)
theorem qd {g:Gh} {env:Env} {a:Act} (hE:ER g env a.tmps):∀ (l:List (Nat×Operand)) (ps:List (Nat×List AV)),nP env l=some ps ->
  ps.length=l.length/\∀ (i:Nat) (c:Nat×List AV),ps[i]?=some c->∃ (j:Nat) (x:Operand),l[i]?=some (j,x)/\c.1=j/\RL g c.2 (a.eval x).cells.toList
 | [],ps,h=>by simp[nP]at h;subst h;simp
 | (j,x)::l,ps,h=>by
  simp only[nP]at h;split at h
  .rename_i c l' hc hl
   simp only[aaJ]at h;subst h;obtain⟨h1,h2⟩:=qd hE l l' hl;refine⟨by simp[h1],fun i c' hi=>?_⟩;cases i with
   | zero=>simp at hi;subst hi;exact⟨j,x,rfl,rfl,(hE.ev x).cells hc⟩
   | succ i=>simpa using h2 i c' (by simpa using hi)
  .cases h
theorem oO {g:Gh} (place:Nat->Option (Nat×Nat)):∀ (ps:List (Nat×List AV)) (vs:List (Nat×Value)) (cs r:List AV) (cells:Array Value),nq place cs ps=some r->RL g cs cells.toList ->
  ps.length=vs.length->(∀ (i:Nat) (c:Nat×List AV),ps[i]?=some c->∃ u:Value,vs[i]?=some (c.1,u)/\RL g c.2 u.cells.toList)->∃ out,Instr.fill place cells vs=some out/\RL g r out.toList
 | [],[],cs,r,cells,h,hr,_,_=>by simp[nq]at h;subst h;exact⟨cells,rfl,hr⟩
 | [],_::_,_,_,_,_,_,hl,_=>by simp at hl
 | _::_,[],_,_,_,_,_,hl,_=>by simp at hl
 | (i,c)::ps,(j,v)::vs,cs,r,cells,h,hr,hl,hp=>by
  obtain⟨u,hu,hc⟩:=hp 0 (i,c) rfl;simp at hu;obtain⟨rfl,rfl⟩:=hu;simp only[nq]at h;split at h
  .rename_i off size vX
   split at h
   .rename_i cu
    have zX:c.length=size:=Z3 cu;split at h
    .rename_i mu qe
     obtain⟨h1,h2⟩:=mr off cs c mu cells.toList v.cells.toList qe hr hc;have IZ:v.cells.size=size:=by have:=hc.length;simp at this;omega
     have nT:off+v.cells.size<=cells.size:=by simpa using h2
     have xQ:=xP off v.cells.toList 0 cells (by simpa using nT);simp only[aa6]at xQ;obtain⟨out,h3,h4⟩:=oO place ps vs mu r ((v.cells.toList.zipIdx 0).foldl (fun cs (cj:Value×Nat)=>cs.setIfInBounds (off+cj.2) cj.1) cells) h (by rw[xQ];exact h1) (by simpa using hl)
      (fun k c' hk=>by simpa using hp (k+1) c' (by simpa using hk))
     refine⟨out,?_,h4⟩;simp only[Instr.fill,vX];rw[ZY (by simp[IZ];omega)];rw[<-h3];congr 1;rw[<-Array.foldl_toList,Array.toList_zipIdx]
    .cases h
   .cases h
  .cases h
theorem sr (w:World):∀ (fs:List Field) (pl:List (Nat×Nat)),oJ P fs=some pl->(fs.mapM fun f=>(do pure (f.offset,<-sizeOf f.type):Sem (Nat×Nat))).run P w=.ok pl w
 | [],pl,h=>by simp[oJ]at h;subst h;rfl
 | f::r,pl,h=>by
  simp only[oJ]at h;split at h
  .rename_i s l hs hl
   simp only[aaJ]at h;subst h;have ih:=sr w r l hl;simp at ih;simp[List.mapM_cons,aT hs,ih]
  .cases h
end
section
variable {P:Program}
theorem Dg {g:Gh} {env:Env} {a:Act} {w:World} {t:Nat} {l:List (Nat×Operand)} {ps:List (Nat×List AV)} {K:AV->Prop} (hE:ER g env a.tmps) (hp:nP env l=some ps) (h:zU P t ps K) :
  ∃ r c,(Instr.build t (l.map fun ix=>(ix.1,a.eval ix.2)).toArray).run P w=.ok c w/\R g r c/\K r:=by
 obtain⟨hl,Tf⟩:=qd hE l ps hp;unfold zU at h;split at h <;> try exact h.elim
 rename_i z hz;split at h <;> try exact h.elim
 rename_i cs uW;have hr:=(nr g z).cells uW;have Iu:∀ (i:Nat) (c:Nat×List AV),ps[i]?=some c->∃ u:Value,(l.map fun ix=>(ix.1,a.eval ix.2))[i]?=some (c.1,u)/\RL g c.2 u.cells.toList:=by
  intro i c hi;obtain⟨j,x,h1,h2,h3⟩:=Tf i c hi;exact⟨a.eval x,by simp[h1,h2],h3⟩
 split at h <;> try exact h.elim
 .rename_i fs ht
  split at h <;> try exact h.elim
  rename_i pl vX;split at h <;> try exact h.elim
  rename_i mu hf;rw[fg]at h;obtain⟨out,h1,h2⟩:=oO (nth pl) ps _ cs mu z.cells hf hr (by simp[hl]) Iu;refine⟨_,_,?_,R.jf h2,h⟩;have hm:(fs.mapM fun f=>(do pure (f.offset,<-sizeOf f.type):Sem (Nat×Nat))).run P w=.ok pl.toArray w:=by
   have:=sr (P:=P) w fs.toList pl vX;rw[<-Array.toArray_toList (xs:=fs),List.mapM_toArray];simp at this;simp[this]
  simp at hm;have e:(fun i=>pl.toArray[i]?)=nth pl:=by funext i;simp[gE]
  simp[Instr.build,dO hz,ag ht,hm,gE];have xB:Instr.fill (fun x=>pl[x]?) z.cells (l.map fun ix=>(ix.1,a.eval ix.2))=some out:=by
   rw[<-h1];congr 1;funext i;simp[gE]
  simp[xB]
 .rename_i n e ht
  split at h <;> try exact h.elim
  rename_i s hs;split at h <;> try exact h.elim
  rename_i mu hf;rw[fg]at h;obtain⟨out,h1,h2⟩:=oO (fun i=>some (i*s,s)) ps _ cs mu z.cells hf hr (by simp[hl]) Iu;refine⟨_,_,?_,R.jf h2,h⟩;simp[Instr.build,dO hz,ag ht,aT hs,h1]
theorem R.dP {g:Gh} {p:AV} {v:Value} (h:R g p v) (n:Nat):(∀ i o,p=.ptr i o->∃ a,v=.pointer (some a)/\a.spot=none/\R g (.ptr i (o+n)) (.pointer (some (a.add n)))) /\
  (∀ i s j o,p=.bg i s j o->∃ a,v=.pointer (some a)/\a.spot=none/\R g (.bg i s j (o+n)) (.pointer (some (a.add n)))) /\
  (∀ t x o,p=.dv t x o->∃ a,v=.pointer (some a)/\a.spot=none/\R g (.dv t x (o+n)) (.pointer (some (a.add n)))) /\
  (∀ cs o,p=.cM cs o->∃ a,v=.pointer (some a)/\a.spot=none/\R g (.cM cs (o+n)) (.pointer (some (a.add n)))):=by
 refine⟨?_,?_,?_,?_⟩
 .rintro i o rfl
  cases h with|ptr _ _ hi =>
  refine⟨_,rfl,rfl,?_⟩;rw[bX rfl];exact .ptr i (o+n) hi
 .rintro i s j o rfl
  cases h with|bg _ _ _ _ hi hL =>
  refine⟨_,rfl,rfl,?_⟩;rw[bX rfl];have:=R.bg i s j (o+n) hi hL;simpa [ab7]using this
 .rintro t x o rfl
  cases h with|dv _ _ _ b ob u ha hr =>
  refine⟨_,rfl,rfl,?_⟩;rw[bX rfl];have:=R.dv t x (o+n) b ob u ha hr;simpa [ab7]using this
 .rintro cs o rfl
  cases h with|cM _ _ b ob u ha hr =>
  refine⟨_,rfl,rfl,?_⟩;rw[bX rfl];have:=R.cM cs (o+n) b ob u ha hr;simpa [ab7]using this
theorem dQ {f:Field} {n:Nat} (h:bR P f.type=some (n+1)) (a:Addr) (w:World):(fieldPlace a f).run P w=.ok (a.add f.offset) w:=by
 simp[fieldPlace,aT h]
theorem lz {g:Gh} {env:Env} {a:Act} {x:Option Operand} {d:Unit->Int} {K:(Unit->Int)->Prop} (hE:ER g env a.tmps) (h:uU env x d K) :
  (x=none/\K d)\/∃ y k n,x=some y/\a.eval y=.int k (n ())/\K n:=by
 unfold uU at h;split at h
 .exact .inl ⟨rfl,h⟩
 .rename_i y
  split at h
  .rename_i k n he
   have:=hE.ev y;rw[he]at this;exact .inr ⟨y,k,n,rfl,this.bY,h⟩
  .exact h.elim
theorem eF {k:IntKind} {n:Int} {y:Nat} {c:BoundsCode} (w:World) (h0:0<=n) (h1:n<=y):(Instr.sliceBound (.int k n) y c).run P w=.ok n.toNat w:=by
 simp[Instr.sliceBound,asIntOf,h0,h1]
theorem Dh {g:Gh} {ty:Ty} {xs:Unit->List ty.den} {A:Option Addr} {n c l h:Nat} (hr:R g (.aL ty xs) (.slice A n c)) (Xb:l<=h) (hn:h<=n) :
  R g (.aL ty fun u=>((xs u).take h).drop l) (.slice (if c=l then A else A.map (·.add (l*ty.size))) (h - l) (c - l)):=by
 cases hr with|aL _ _ A c u hc hm ha hr =>
 have hlen:(((xs ()).take h).drop l).length=h - l:=by simp;omega
 have:=R.aL (g:=g) ty (fun u=>((xs u).take h).drop l) (if c=l then A else A.map (·.add (l*ty.size))) (c - l) (fun i j=>u (l+i) j) (by show(((xs ()).take h).drop l).length<=_;omega) (by show(((xs ()).take h).drop l).length<=_;omega)
  (fun i x j y hi hj=>?_) (fun i x j y hi hj=>?_)
 .show R g _ (.slice _ (h - l) _)
  rw[<-hlen];exact this
 .have dW:(((xs ()).take h).drop l)[i]?=some x:=hi
  have bf:i<h - l:=by rw[<-hlen];exact(Z2.1 dW).1
  have cD:(xs ())[l+i]?=some x:=by
   rw[aam,aap]at dW;split at dW
   .exact dW
   .cases dW
  obtain⟨b,off,cells,T,fr,h1,h2,h3⟩:=ha (l+i) x j y cD hj;subst h1;rw[ZY (by omega)];refine⟨b,off+l*ty.size,cells,T,fr,?_,h2,?_⟩
  .simp[bX (a:=⟨b,off,none⟩) rfl]
  .rw[<-h3];congr 1;rw[aaQ];omega
 .have dW:(((xs ()).take h).drop l)[i]?=some x:=hi
  have cD:(xs ())[l+i]?=some x:=by
   rw[aam,aap]at dW;split at dW
   .exact dW
   .cases dW
  exact hr (l+i) x j y cD hj
theorem Di {g:Gh} {i s:Nat} {o n:Unit->Nat} {A:Option Addr} {m c l h:Nat} (hr:R g (.vec i s o n) (.slice A m c)) (Xb:l<=h) (hn:h<=m) :
  R g (.vec i s (fun u=>o u+l) (fun u=>h - l)) (.slice (if c=l then A else A.map (·.add (l*s))) (h - l) (c - l)):=by
 cases hr with|vec _ _ _ _ A c hi hL qT hs =>
 refine R.vec i s (fun u=>o u+l) (fun u=>h - l) _ _ hi (by show o ()+l+(h - l)<=_;omega) (fun hV=>?_) (fun cap hV=>?_)
 .obtain⟨h1,h2,h3,h4⟩:=qT hV
  have:l=0:=by omega
  subst this;refine⟨by simp[h1,h3],by show h - 0=0;omega,by omega,by show o ()+0=0;omega⟩
 .obtain⟨h0,h1,h2,h3,h4⟩:=hs cap hV
  refine⟨h0,by show o ()+l+(h - l)<=cap;omega,by show o ()+l+(c - l)=cap;omega,?_,?_⟩
  .intro bf
   have bf:o ()+l<cap\/o ()+l=0:=bf;rcases acA l with h0|h0
   .subst h0
    have hA:=h3 (by simpa using bf);subst hA;split
    .simp
    .simp[bX]
   .have hA:=h3 (Or.inl (by omega))
    subst hA;rw[ZY (by omega)];simp[bX,aaQ]
  .split
   .exact h4
   .cases A with
    | none=>exact(h4 rfl).elim
    | some a=>simp
theorem qf {a:Act} {w:World} {t e sz:Nat} {A:Option Addr} {n c:Nat} {lo hi:Option Operand} {L H:Int} (ht:aS P t=some (.slice e)) (hs:bR P e=some sz)
  (uE:(lo=none/\L=0)\/∃ y k,lo=some y/\a.eval y=.int k L) (Tg:(hi=none/\H=n)\/∃ y k,hi=some y/\a.eval y=.int k H)
  (h0:0<=L) (h1:L<=H) (h2:H<=n) (hc:n<=c) :
  (Instr.sliceAt t (.slice A n c) (lo.map a.eval) (hi.map a.eval) none).run P w=.ok (.slice (if c=L.toNat then A else A.map (·.add (L.toNat*sz))) (H.toNat - L.toNat) (c - L.toNat)) w:=by
 have hb:(Instr.sliceBounds true n c (lo.map a.eval) (hi.map a.eval) none).run P w=.ok (L.toNat,H.toNat,c) w:=by
  have hH:∀ code,(Instr.sliceBound (.int .i64 H) c code).run P w=.ok H.toNat w:=fun code=>eF w (by omega) (by omega);rcases uE with⟨rfl,rfl⟩|⟨y,k,rfl,hy⟩ <;> rcases Tg with⟨rfl,rfl⟩|⟨z,k',rfl,hz⟩
  .simp[Instr.sliceBounds]
  .simp[Instr.sliceBounds,hz,eF (k:=k') (c:=.sliceAcap) (P:=P) w (show 0<=H by omega) (show H<=(c:Nat) by omega)]
  .simp[Instr.sliceBounds,hy,eF (k:=k) (c:=.sliceB) (P:=P) w h0 (show L<=(n:Nat) by omega)]
  .simp[Instr.sliceBounds,hz,hy,eF (k:=k') (c:=.sliceAcap) (P:=P) w (show 0<=H by omega) (show H<=(c:Nat) by omega),eF (k:=k) (c:=.sliceB) (P:=P) w h0 (show L<=(H.toNat:Nat) by omega)]
 simp[Instr.sliceAt,Instr.slice,ag ht,hb,aT hs]
theorem ss {w:World} {t e sz:Nat} {A:Option Addr} {n c:Nat} {hv mv:Value} {k k':IntKind} (ht:aS P t=some (.slice e)) (hs:bR P e=some sz) (hh:hv=.int k n) (hm:mv=.int k' n) (hc:n<=c) :
  (Instr.sliceAt t (.slice A n c) none (some hv) (some mv)).run P w=.ok (.slice (if n=0 then A else A.map (·.add (0*sz))) n n) w:=by
 subst hh hm;have hb:(Instr.sliceBounds true n c none (some (.int k n)) (some (.int k' n))).run P w=.ok (0,n,n) w:=by
  have h1:∀ (k:IntKind) (m:Nat) code,n<=m->(Instr.sliceBound (.int k n) m code).run P w=.ok n w:=fun k m code h=>by
   have:=eF (k:=k) (c:=code) (P:=P) w (n:=(n:Int)) (y:=m) (by omega) (by omega);simpa using this
  simp[Instr.sliceBounds,h1 _ _ _ hc,h1 _ _ _ (Z8 n)]
 simp[Instr.sliceAt,Instr.slice,ag ht,hb,aT hs]
theorem Dj {g:Gh} {ty:Ty} {xs:Unit->List ty.den} {A:Option Addr} {n c sz:Nat} (hr:R g (.aL ty xs) (.slice A n c)):R g (.aL ty xs) (.slice (if n=0 then A else A.map (·.add (0*sz))) n n):=by
 cases hr with|aL _ _ A c u hc hm ha hr =>
 have e:(if(xs ()).length=0 then A else A.map (·.add (0*sz)))=A:=by
  split
  .rfl
  .cases A with
   | none=>rfl
   | some a=>simp[Addr.add]
 rw[e];exact .aL ty xs A _ u (Z8 _) hm ha hr
theorem uF {a:Act} {w:World} {t:Nat} {s:ByteArray} {lo hi:Option Operand} {L H:Int} (ht:aS P t=some .string)
  (uE:(lo=none/\L=0)\/∃ y k,lo=some y/\a.eval y=.int k L) (Tg:(hi=none/\H=s.size)\/∃ y k,hi=some y/\a.eval y=.int k H)
  (h0:0<=L) (h1:L<=H) (h2:H<=s.size) :
  (Instr.sliceAt t (.string s) (lo.map a.eval) (hi.map a.eval) none).run P w=.ok (.string (s.extract L.toNat H.toNat)) w:=by
 have hb:(Instr.sliceBounds false s.size s.size (lo.map a.eval) (hi.map a.eval) none).run P w=.ok (L.toNat,H.toNat,s.size) w:=by
  rcases uE with⟨rfl,rfl⟩|⟨y,k,rfl,hy⟩ <;> rcases Tg with⟨rfl,rfl⟩|⟨z,k',rfl,hz⟩
  .simp[Instr.sliceBounds]
  .simp[Instr.sliceBounds,hz,eF (k:=k') (c:=.sliceAlen) (P:=P) w (show 0<=H by omega) (show H<=(s.size:Nat) by omega)]
  .simp[Instr.sliceBounds,hy,eF (k:=k) (c:=.sliceB) (P:=P) w h0 (show L<=(s.size:Nat) by omega)]
  .simp[Instr.sliceBounds,hz,hy,eF (k:=k') (c:=.sliceAlen) (P:=P) w (show 0<=H by omega) (show H<=(s.size:Nat) by omega),eF (k:=k) (c:=.sliceB) (P:=P) w h0 (show L<=(H.toNat:Nat) by omega)]
 simp[Instr.sliceAt,Instr.slice,ag ht,hb]
end
section
variable {P:Program}
theorem qX (w:World):∀ (l:List Int) (s:ByteArray),
  (forIn (m:=Sem) (l.map fun z=>Value.int .u8 z) s fun c s=>(match c with|.int .u8 n=>pure (ForInStep.yield (s.push (UInt8.ofNat n.toNat)))|_=>do let r <-stuck "bytesToString: byte expected";pure (ForInStep.yield r))).run P w
   = .ok (⟨(s.data.toList++l.map fun z=>UInt8.ofNat z.toNat).toArray⟩) w
 | [],s=>by simp
 | z::r,s=>by
  simp only[aal,List.forIn_cons,Sem.run_bind,Sem.run_pure,Result.andThen_ok];rw[qX w r];simp[ByteArray.push]
theorem uX {w:World} {A:Option Addr} {n c:Nat} {zs:List Int} (hl:zs.length=n) (h:n=0\/∃ b o,A=some ⟨b,o,none⟩/\∀ i,i<n->w.cell? ⟨b,o+i,none⟩=some (.int .u8 (zs.getD i 0))) :
  (Conv.bytesToString (.slice A n c)).run P w=.ok (.string ⟨(zs.map fun z=>UInt8.ofNat z.toNat).toArray⟩) w:=by
 cases A with
 | none =>
  rcases h with rfl|⟨b,o,h,_⟩
  .obtain rfl:zs=[]:=aaY hl
   rfl
  .cases h
 | some a =>
  have Pn:(loadCells a n).run P w=.ok (zs.map fun z=>Value.int .u8 z).toArray w:=by
   have:=run_loadCells_list (P:=P) w a (zs.map fun z=>Value.int .u8 z) (fun j v hv=>by
    rcases h with rfl|⟨b,o,e,hc⟩
    .obtain rfl:zs=[]:=aaY hl
     simp at hv
    .cases e
     have hj:j<zs.length:=by simpa using(Z2.1 hv).1
     rw[bX rfl,hc j (by omega)];simp[hj]at hv;simp[hj,<-hv])
   simpa [hl]using this
  have hf:=qX (P:=P) w zs ByteArray.empty;simp only[Conv.bytesToString,Sem.run_bind,Pn,Result.andThen_ok];rw[List.forIn_toArray];simp at hf;simp[hf]
theorem Dk {g:Gh} {E:List Chunk} {w:World} (hS:eE g E w) {xs:Unit->List Int} {A:Option Addr} {n c:Nat} (hr:R g (.aL (.int .u8) xs) (.slice A n c)) :
  (xs ()).length=n/\(n=0\/∃ b o,A=some ⟨b,o,none⟩/\∀ i,i<n->w.cell? ⟨b,o+i,none⟩=some (.int .u8 ((xs ()).getD i 0))):=by
 cases hr with|aL _ _ A c u hc hm ha hr =>
 refine⟨rfl,?_⟩;cases hx:(xs ())with
 | nil=>exact .inl rfl
 | cons x r =>
  right;obtain⟨b,off,cells,T,fr,h1,h2,h3⟩:=ha 0 x 0 (.int .u8 fun _=>x) (by rw[hx];rfl) rfl;refine⟨b,off,h1,fun i hi=>?_⟩;have dW:i<(xs ()).length:=by rw[hx];exact hi
  have h4:=ha i _ 0 (.int .u8 fun _=>(xs ())[i]'dW) (Z1 dW) rfl;have h5:=hr i _ 0 (.int .u8 fun _=>(xs ())[i]'dW) (Z1 dW) rfl;rw[h1]at h4;have h6:=h4.cell hS;simp only[Ty.size,ac8,aa6]at h6;rw[h6,h5.bY];rw[<-hx];simp[List.getD,Z1 dW]
theorem Dl {g:Gh} {E:List Chunk} {w:World} (hS:eE g E w) {i s T:Nat} {xs:Unit->List Int} {o n:Unit->Nat} {A:Option Addr} {m c:Nat} (hE:af E i=.aq T (.int .u8) xs) (hr:R g (.vec i s o n) (.slice A m c)) (uY:s=1) :
  (((xs ()).drop (o ())).take (n ())).length=m/\(m=0\/∃ b o',A=some ⟨b,o',none⟩/\∀ k,k<m->w.cell? ⟨b,o'+k,none⟩=some (.int .u8 ((((xs ()).drop (o ())).take (n ())).getD k 0))):=by
 subst uY;have hs:=hS.sat i;rw[hE]at hs;obtain⟨hL,qY,hc⟩:=hs;cases hr with|vec _ _ _ _ A c _ Dn hn sm =>
 have hlen:(((xs ()).drop (o ())).take (n ())).length=n ():=by simp;omega
 refine⟨hlen,?_⟩;cases hV:g.V i with
 | none=>exact .inl (hn hV).2.1
 | some cap =>
  obtain⟨h0,h1,h2,h3,h4⟩:=sm cap hV;obtain⟨vs,hv,By,cS,hx⟩:=hc cap hV;rcases acA (n ())with hz|hz
  .exact .inl hz
  right;refine⟨_,_,h3 (.inl (by omega)),fun k hk=>?_⟩;have vY:o ()+k<(xs ()).length:=by omega
  have Pp:=hx (o ()+k) _ (Z1 vY);have cu:(Ty.int IntKind.u8).size=1:=rfl;rw[cu]at Pp By;cases hd:(vs.toList.drop ((o ()+k)*1)).take 1 with
  | nil=>rw[hd]at Pp;exact Pp.elim
  | cons u r =>
   rw[hd]at Pp;have hu:=Pp.1;have Th:=hu.bY;have:((vs.toList.drop ((o ()+k)*1)).take 1)[0]?=some u:=by rw[hd];rfl
   rw[cell_of_heap hv];simp at this;rw[show o ()*1+k=o ()+k by omega,this,Th];simp[List.getD,aap,hk,aam,Z1 vY]
end
section
variable {P:Program}
theorem z6 {g:Gh} {k:IntKind} {d:IntKind} {n:Unit->Int}:∀ {ks:List Int} {vs:List AV} {es:List MapEntry} {K:AV->Prop} {D:Prop} (i:Nat),Pk ks vs n K D->es.map (·.key)=ks.map (Value.int k)->RL g vs (es.map (·.val)) ->
  (∃ j v u,Instr.findNow (.int d) (.int k (n ())) es i=some (some (j,u))/\R g v u/\K v)\/(Instr.findNow (.int d) (.int k (n ())) es i=some none/\D)
 | [],vs,[],K,D,i,h,hk,hr=>by
  cases vs with
  | nil=>exact .inr ⟨rfl,h⟩
  | cons _ _=>exact h.elim
 | [],_,_::_,_,_,_,_,hk,_=>by simp at hk
 | _::_,_,[],_,_,_,_,hk,_=>by simp at hk
 | k0::ks,[],e::es,_,_,_,h,_,_=>h.elim
 | k0::ks,v::vs,e::es,K,D,i,h,hk,hr=>by
  simp only[aal,List.cons.injEq]at hk;simp only[Pk,fP]at h;by_cases hn:n ()=k0
  .exact .inl ⟨i,v,e.val,by simp[Instr.findNow,hk.1,Instr.sameNow,hn],hr.1,h.1 hn⟩
  .have ih:=z6 (d:=d) (i+1) (h.2 hn) hk.2 hr.2
   have e1:Instr.findNow (.int d) (.int k (n ())) (e::es) i=Instr.findNow (.int d) (.int k (n ())) es (i+1):=by
    have hb:(n () == k0)=false:=by simpa using hn
    simp[Instr.findNow,hk.1,Instr.sameNow,hb]
   rw[e1];exact ih
theorem Fm {g:Gh} {E:List Chunk} {w:World} {t:Nat} {ok:Bool} {x k:AV} {u uk:Value} {K:AV->Prop} (hS:eE g E w) (hx:R g x u) (hk:R g k uk) (h:Fc P t ok x k E K) :
  ∃ r c,(Instr.lookup t u uk ok).run P w=.ok c w/\R g r c/\K r:=by
 unfold Fc at h;split at h <;> try exact h.elim
 .rename_i i f n
  split at h <;> try exact h.elim
  rename_i hp hE;obtain⟨es,cl,z,h1,h2,h3,h4⟩:=h.h;obtain⟨rfl,hi,hf⟩:=hx.nQ;obtain⟨ms,h5,h6⟩:=hS.zW hE hf h1;have Tj:=hk.bY;rw[Tj];unfold iC at h2;split at h2 <;> try (cases h2;done)
  rename_i kt et ht;split at h2 <;> try (cases h2;done)
  rename_i oP;have qU:(Instr.checkKey ms.isEmpty 10000 kt (.int .i64 (n ()))).run P w=.ok () w:=by
   unfold Instr.checkKey;simp only[Sem.run_bind,ag oP,Result.andThen_ok];rfl
  have Dp:=dO (P:=P) (w:=w) h2;have Pq:=nr g z;rcases gG.find (d:=.i64) (n:=n ()) 0 h6 with⟨v,k,u,g1,g2,g3⟩|⟨g1,g2⟩
  .have hK:=h3 v g1
   cases ok with
   | true =>
    refine⟨_,_,?_,R.gP (cs:=[v.av i,.tt]) (vs:=[u,.bool true]) ⟨g3,.tt,trivial⟩,hK⟩;simp[Instr.lookup,ag ht,MapKept.run_getObj_map h5,qU,MapKept.run_findKey (au oP) g2,Result.andThen]
   | false =>
    refine⟨v.av i,u,?_,g3,hK⟩;simp[Instr.lookup,ag ht,MapKept.run_getObj_map h5,qU,MapKept.run_findKey (au oP) g2,Result.andThen]
  .have hK:=h4 g1
   cases ok with
   | true =>
    refine⟨_,_,?_,R.gP (cs:=[xz z,.ff]) (vs:=[z,.bool false]) ⟨Pq,.ff,trivial⟩,hK⟩;simp[Instr.lookup,ag ht,MapKept.run_getObj_map h5,qU,MapKept.run_findKey (au oP) g2,Result.andThen,Dp]
   | false =>
    refine⟨xz z,z,?_,Pq,hK⟩;simp[Instr.lookup,ag ht,MapKept.run_getObj_map h5,qU,MapKept.run_findKey (au oP) g2,Result.andThen,Dp]
 rename_i i kk n;split at h <;> try exact h.elim
 rename_i kt et k' ks vs ht hE;split at h <;> try exact h.elim
 rename_i d e2 z oP Xc hz;subst e2;have hs:=hS.sat i;rw[hE]at hs;obtain⟨es,cl,h1,h2,h3⟩:=hs;have hu:u=.map (some (g.B i)):=by cases hx;rfl
 have Tj:=hk.bY;subst hu;rw[Tj];have qU:(Instr.checkKey es.isEmpty 10000 kt (.int kk (n ()))).run P w=.ok () w:=by
  unfold Instr.checkKey;simp only[Sem.run_bind,ag oP,Result.andThen_ok];rfl
 have Dp:=dO (P:=P) (w:=w) hz;have Pq:=nr g z;cases ok with
 | true =>
  simp only[]at h;rcases z6 (d:=d) 0 h h2 h3 with⟨j,v,u,h4,h5,h6⟩|⟨h4,h5⟩
  .refine⟨_,_,?_,R.gP (cs:=[v,.tt]) (vs:=[u,.bool true]) ⟨h5,.tt,trivial⟩,h6⟩
   simp[Instr.lookup,ag ht,MapKept.run_getObj_map h1,qU,MapKept.run_findKey (au oP) h4,Result.andThen]
  .refine⟨_,_,?_,R.gP (cs:=[xz z,.ff]) (vs:=[z,.bool false]) ⟨Pq,.ff,trivial⟩,h5⟩
   simp[Instr.lookup,ag ht,MapKept.run_getObj_map h1,qU,MapKept.run_findKey (au oP) h4,Result.andThen,Dp]
 | false =>
  simp only[]at h;rcases z6 (d:=d) 0 h h2 h3 with⟨j,v,u,h4,h5,h6⟩|⟨h4,h5⟩
  .refine⟨v,u,?_,h5,h6⟩
   simp[Instr.lookup,ag ht,MapKept.run_getObj_map h1,qU,MapKept.run_findKey (au oP) h4,Result.andThen]
  .refine⟨xz z,z,?_,Pq,h5⟩
   simp[Instr.lookup,ag ht,MapKept.run_getObj_map h1,qU,MapKept.run_findKey (au oP) h4,Result.andThen,Dp]
set_option maxHeartbeats 1000000 in
theorem K2 {g:Gh} {E:List Chunk} {w:World} {env:Env} {a:Act} {op:Op} {K:AV->Prop} (hS:eE g E w) (hE:ER g env a.tmps) (h:qV P op env E K) (o:Oper) (ho:o.op=op) :
  ∃ r c,(execOp a.eval o).run P w=.ok (.value c) w/\R g r c/\K r:=by
 unfold execOp;simp only[ho];unfold qV at h;split at h
 ·
  exact⟨_,_,rfl,hE.ev _,h⟩
 .exact⟨_,_,rfl,hE.ev _,h⟩
 ·
  rename_i c x y;have hc:=hE.ev c;split at h
  .rename_i b e
   rw[e]at hc;have Dd:=hc.da;cases hb:b ()
   .exact⟨_,_,by simp[Dd,hb,asBool],hE.ev y,h.2 hb⟩
   .exact⟨_,_,by simp[Dd,hb,asBool],hE.ev x,h.1 hb⟩
  .rename_i e
   rw[e]at hc;exact⟨_,_,by simp[hc.km,asBool],hE.ev x,h⟩
  .rename_i e
   rw[e]at hc;exact⟨_,_,by simp[hc.lx,asBool],hE.ev y,h⟩
  .exact h.elim
 ·
  rename_i t x;apply eO;split at h
  .rename_i i f ex
   split at h <;> try exact h.elim
   rename_i hp Xd;obtain⟨k,off,T,n,c,v,h1,h2,h3,h4,h5,h6⟩:=h.h;have hx:=hE.ev x;rw[ex]at hx;obtain⟨hv,hi,hf⟩:=hx.kl;rw[h1]at hv;obtain⟨vs,h7,h8,h9⟩:=hS.nR Xd (hf _ h1) h2;have bf:off<vs.size:=by omega
   have hc:=cell_of_heap h7 off;rw[aaN bf]at hc;refine⟨v.av i,vs[off],?_,by rw[<-h4];exact h9 off _ (aaN bf),h6⟩;simp[Instr.loadAt,Instr.sureAddr,hv,loadVar,Fg h5,hc]
  rename_i VE;obtain⟨cs,n,us,ad,h1,h2,h3,h4⟩:=uV hS (hE.ev x) h;obtain⟨r,u,h5,h6,h7⟩:=xK h4 h2 h3;exact⟨r,u,by simp[Instr.loadAt,Instr.sureAddr,h1,h5],h6,h7⟩
 ·
  rename_i x;have hx:=hE.ev x;split at h
  .rename_i i off e
   rw[e]at hx;obtain⟨ad,h1,_,_⟩:=(hx.dP 0).1 _ _ rfl;exact⟨_,.pointer (some ad),by simp[h1],by rw[<-h1];exact hx,h⟩
  .rename_i i s j off e
   rw[e]at hx;obtain⟨ad,h1,_,_⟩:=(hx.dP 0).2.1 _ _ _ _ rfl;exact⟨_,.pointer (some ad),by simp[h1],by rw[<-h1];exact hx,h⟩
  .rename_i t y off e
   rw[e]at hx;obtain⟨ad,h1,_,_⟩:=(hx.dP 0).2.2.1 _ _ _ rfl;exact⟨_,.pointer (some ad),by simp[h1],by rw[<-h1];exact hx,h⟩
  .rename_i cs off e
   rw[e]at hx;obtain⟨ad,h1,_,_⟩:=(hx.dP 0).2.2.2 _ _ rfl;exact⟨_,.pointer (some ad),by simp[h1],by rw[<-h1];exact hx,h⟩
  .rename_i f p q e
   rw[e]at hx;obtain⟨vs,ws,hv,hr⟩:∃ vs ws,a.eval x=.func (.func f) vs ws/\R g (.fn (.func f) p q) (.func (.func f) vs ws):=by
    generalize a.eval x=v at hx;cases hx with|fn _ _ _ vs ws hl k9 hr qS=>exact⟨vs,ws,rfl,.fn _ _ _ vs ws hl k9 hr qS⟩
   exact⟨_,.func (.func f) vs ws,by simp[hv],hr,h⟩
  .rename_i i f e
   rw[e]at hx;obtain⟨hv,hi,hf⟩:=hx.kl;obtain⟨x',qg⟩:=acQ.1 h.1.h;rw[qg]at hv;exact⟨_,.pointer (some ⟨g.W i x'.1,x'.2,none⟩),by simp[hv],by have:=hx;rw[hv]at this;exact this,h.2⟩
  .exact h.elim
 ·
  rename_i s x f;apply eO;split at h <;> try exact h.elim
  rename_i fs ht;split at h <;> try exact h.elim
  rename_i fd hf;rw[gE]at hf;simp only[abK]at hf;split at h <;> try exact h.elim
  rename_i n hs;have hx:=hE.ev x;split at h
  .rename_i i off e
   rw[e]at hx;rw[fe]at h;obtain⟨ad,h1,_,h2⟩:=(hx.dP fd.offset).1 _ _ rfl;exact⟨_,_,by simp[Instr.fieldAt,ag ht,hf,Instr.sureAddr,h1,dQ hs],h2,h⟩
  .rename_i i s j off e
   rw[e]at hx;rw[fe]at h;obtain⟨ad,h1,_,h2⟩:=(hx.dP fd.offset).2.1 _ _ _ _ rfl;exact⟨_,_,by simp[Instr.fieldAt,ag ht,hf,Instr.sureAddr,h1,dQ hs],h2,h⟩
  .rename_i t y off e
   rw[e]at hx;rw[fe]at h;obtain⟨ad,h1,_,h2⟩:=(hx.dP fd.offset).2.2.1 _ _ _ rfl;exact⟨_,_,by simp[Instr.fieldAt,ag ht,hf,Instr.sureAddr,h1,dQ hs],h2,h⟩
  .rename_i cs off e
   rw[e]at hx;rw[fe]at h;obtain⟨ad,h1,_,h2⟩:=(hx.dP fd.offset).2.2.2 _ _ rfl;exact⟨_,_,by simp[Instr.fieldAt,ag ht,hf,Instr.sureAddr,h1,dQ hs],h2,h⟩
  .rename_i i f' e
   rw[e]at hx;obtain⟨hv,hi,Me⟩:=hx.kl;obtain⟨x',qg⟩:=acQ.1 h.1.h;rw[qg]at hv;refine⟨_,.pointer (some ⟨g.W i x'.1,x'.2+fd.offset,none⟩),by simp[Instr.fieldAt,ag ht,hf,Instr.sureAddr,hv,dQ hs,bX],?_,h.2⟩;have:=R.hp (g:=g) i (fun u=>(f' u).map fun x=>(x.1,x.2+fd.offset)) hi (fun y hy=>by simp[qg]at hy;rw[<-hy];exact Me x' qg);simpa [qg]using this
  .exact h.elim
 ·
  rename_i s x f;apply eO;split at h <;> try exact h.elim
  rename_i fs ht;split at h <;> try exact h.elim
  rename_i fd hf;rw[gE]at hf;simp only[abK]at hf;have hx:=hE.ev x;split at h <;> try exact h.elim
  rename_i cs e;rw[e]at hx;obtain⟨vs,h1,h2⟩:=hx.gR;obtain⟨r,u,h5,h6,h7⟩:=xL (w:=w) h h2;exact⟨r,u,by simp[Instr.field,ag ht,hf,h1,asAgg,h5],h6,h7⟩
 ·
  rename_i t x ix;apply eO;have hi:=hE.ev ix;split at h <;> try exact h.elim
  rename_i k j ej;rw[ej]at hi;have dW:=hi.bY;have hx:=hE.ev x;split at h <;> try exact h.elim
  .rename_i e ht
   split at h <;> try exact h.elim
   rename_i sz cu;split at h <;> try exact h.elim
   .rename_i ty xs ex
    split at h <;> try exact h.elim
    rename_i hb;have dw:ty.size=sz:=Z3 hb;rw[ex]at hx;generalize a.eval x=v at hx ⊢;cases hx with|aL _ _ A c u hc hm ha hr =>
    have dM:=h.1.h;have bf:(j ()).toNat<(xs ()).length:=by omega
    have hp:=Ty.size_pos ty;have VF:0<(enc ty (fun _=>(xs ())[(j ()).toNat]'bf) []).length:=by rw[bt];exact hp
    obtain⟨b,off,cells,T,fr,h1,h2,h3⟩:=ha (j ()).toNat _ 0 _ (Z1 bf) (Z1 VF);subst h1;refine⟨_,_,by simp[Instr.indexAt,dW,asIntOf,ag ht,dM.1,dM.2,aT cu];rfl,?_,h.2⟩;have e:(fun u=>(xs u).getD (j u).toNat ty.bA)=(fun _=>(xs ())[(j ()).toNat]'bf):=by
     funext u;cases u;simp[List.getD,Z1 bf]
    rw[e,bX rfl];have:=R.dv ty (fun _=>(xs ())[(j ()).toNat]'bf) 0 b (off+(j ()).toNat*sz) (u (j ()).toNat) (fun k y hy=>?_) (fun k y hy=>hr _ _ k y (Z1 bf) hy)
    .simpa using this
    .obtain⟨b',Tk,Mf,T',Pr,g1,g2,g3⟩:=ha (j ()).toNat _ k y (Z1 bf) hy
     cases g1;exact⟨b,_,Mf,T',Pr,rfl,g2,by rw[<-g3];congr 1;rw[dw];omega⟩
   .rename_i i s o n ex
    split at h <;> try exact h.elim
    rename_i hb;have dw:s=sz:=Z3 hb;rw[ex]at hx;generalize a.eval x=v at hx ⊢;cases hx with|vec _ _ _ _ A c hi hL hn hs =>
    have dM:=h.1.h;have hV:∃ cap,g.V i=some cap:=by
     cases hV:g.V i with
     | none=>have:=(hn hV).2.1;omega
     | some cap=>exact⟨cap,rfl⟩
    obtain⟨cap,hV⟩:=hV;obtain⟨h0,h1,h2,h3,h4⟩:=hs cap hV;have hA:=h3 (.inl (by omega));subst hA;have bh:(Instr.indexAt t (.slice (some ⟨g.B i,o ()*s,none⟩) (n ()) c) (a.eval ix)).run P w=.ok (.pointer (some ⟨g.B i,o ()*s+(j ()).toNat*sz,none⟩)) w:=by
     simp[Instr.indexAt,dW,asIntOf,ag ht,dM.1,dM.2,aT cu,bX]
    have h':=h.2;split at h' <;> try exact h'.elim
    .refine⟨_,_,bh,?_,h'⟩
     have:=R.bg (g:=g) i s (fun u=>o u+(j u).toNat) 0 hi (by show o ()+(j ()).toNat<_;omega);rw[<-dw,<-aaQ];simpa using this
    .refine⟨_,_,bh,?_,h'⟩
     have:=R.bg (g:=g) i s (fun u=>o u+(j u).toNat) 0 hi (by show o ()+(j ()).toNat<_;omega);rw[<-dw,<-aaQ];simpa using this
    .rw[fe]at h'
     refine⟨_,_,bh,?_,h'⟩;rw[<-dw,<-aaQ];exact .ptr _ _ hi
  .rename_i len e ht
   split at h <;> try exact h.elim
   rename_i sz cu;split at h <;> try exact h.elim
   .rename_i i off ex
    rw[ex]at hx;rw[fe]at h;obtain⟨ad,h1,_,h2⟩:=(hx.dP ((j ()).toNat*sz)).1 _ _ rfl;have dM:=h.1.h;exact⟨_,_,by simp[Instr.indexAt,dW,asIntOf,ag ht,h1,Instr.sureAddr,dM.1,dM.2,aT cu],h2,h.2⟩
   .rename_i i s q off ex
    rw[ex]at hx;rw[fe]at h;obtain⟨ad,h1,_,h2⟩:=(hx.dP ((j ()).toNat*sz)).2.1 _ _ _ _ rfl;have dM:=h.1.h;exact⟨_,_,by simp[Instr.indexAt,dW,asIntOf,ag ht,h1,Instr.sureAddr,dM.1,dM.2,aT cu],h2,h.2⟩
   .rename_i ty y off ex
    rw[ex]at hx;rw[fe]at h;obtain⟨ad,h1,_,h2⟩:=(hx.dP ((j ()).toNat*sz)).2.2.1 _ _ _ rfl;have dM:=h.1.h;exact⟨_,_,by simp[Instr.indexAt,dW,asIntOf,ag ht,h1,Instr.sureAddr,dM.1,dM.2,aT cu],h2,h.2⟩
   .rename_i i f' ex
    rw[ex]at hx;obtain⟨hv,hi,Me⟩:=hx.kl;have dM:=h.1.h;obtain⟨x',qg⟩:=acQ.1 dM.1;rw[qg]at hv;refine⟨_,.pointer (some ⟨g.W i x'.1,x'.2+(j ()).toNat*sz,none⟩),by simp[Instr.indexAt,dW,asIntOf,ag ht,hv,Instr.sureAddr,dM.2.1,dM.2.2,aT cu,bX],?_,h.2⟩;have:=R.hp (g:=g) i (fun u=>(f' u).map fun x=>(x.1,x.2+(j u).toNat*sz)) hi (fun y hy=>by simp[qg]at hy;rw[<-hy];exact Me x' qg);simpa [qg]using this
 ·
  rename_i t x ix;apply eO;have hi:=hE.ev ix;split at h <;> try exact h.elim
  rename_i k j ej;rw[ej]at hi;have dW:=hi.bY;have hx:=hE.ev x;split at h <;> try exact h.elim
  .rename_i ht
   split at h <;> try exact h.elim
   rename_i s ex;rw[ex]at hx;have qg:=hx.gS;have dM:=h.1.h;have bf:(j ()).toNat<(s ()).length:=by omega
   refine⟨_,_,?_,.int _ _,h.2⟩;have hg:(ByteArray.mk (s ()).toArray)[(j ()).toNat]?=some ((s ())[(j ()).toNat]'bf):=by
    rw[getElem?_pos (h:=by simpa [ByteArray.size]using bf)];rfl
   simp[Instr.index,dW,qg,asIntOf,ag ht,dM.1,hg,List.getD,Z1 bf]
  .rename_i len e ht
   split at h <;> try exact h.elim
   rename_i sz cu;split at h <;> try exact h.elim
   rename_i cs ex;rw[ex]at hx;obtain⟨vs,h1,h2⟩:=hx.gR;have dM:=h.1.h;obtain⟨r,u,h5,h6,h7⟩:=xL (w:=w) h.2 h2;exact⟨r,u,by simp[Instr.index,dW,h1,asIntOf,ag ht,dM.1,dM.2,aT cu,h5],h6,h7⟩
 ·
  rename_i t x lo hi;apply eO;have hx:=hE.ev x;split at h <;> try exact h.elim
  .rename_i ht
   split at h <;> try exact h.elim
   rename_i s ex;rw[ex]at hx;have qg:=hx.gS;have cu:(ByteArray.mk (s ()).toArray).size=(s ()).length:=by simp[ByteArray.size]
   have fin:∀ L H:Unit->Int,((lo=none/\L ()=0)\/∃ y k,lo=some y/\a.eval y=.int k (L ()))->((hi=none/\H ()=(s ()).length)\/∃ y k,hi=some y/\a.eval y=.int k (H ())) ->
     (Ob (fun u=>0<=L u/\L u<=H u/\H u<=(s u).length)/\K (.str fun u=>((s u).take (H u).toNat).drop (L u).toNat)) ->
     ∃ r c,(Instr.sliceAt t (a.eval x) (lo.map a.eval) (hi.map a.eval) none).run P w=.ok c w/\R g r c/\K r:=by
    intro L H hL hH h;have dM:=h.1.h;refine⟨_,_,by rw[qg];exact uF ht hL (by rw[cu];exact hH) dM.1 dM.2.1 (by rw[cu];exact dM.2.2),R.zY ?_,h.2⟩;apply ByteArray.ext;simp[ByteArray.data_extract,ach]
   rcases lz hE h with⟨rfl,h1⟩|⟨y,k,n,rfl,hy,h1⟩ <;> rcases lz hE h1 with⟨rfl,h2⟩|⟨z,k',m,rfl,hz,h2⟩
   .exact fin _ _ (.inl ⟨rfl,rfl⟩) (.inl ⟨rfl,rfl⟩) h2
   .exact fin _ _ (.inl ⟨rfl,rfl⟩) (.inr ⟨_,_,rfl,hz⟩) h2
   .exact fin _ _ (.inr ⟨_,_,rfl,hy⟩) (.inl ⟨rfl,rfl⟩) h2
   .exact fin _ _ (.inr ⟨_,_,rfl,hy⟩) (.inr ⟨_,_,rfl,hz⟩) h2
  .rename_i e ht
   split at h <;> try exact h.elim
   .rename_i ty xs ex
    split at h <;> try exact h.elim
    rename_i sz cu;split at h <;> try exact h.elim
    rename_i hb;have dw:ty.size=sz:=Z3 hb;rw[ex]at hx;obtain⟨A,c,hv,hc⟩:∃ A c,a.eval x=.slice A (xs ()).length c/\(xs ()).length<=c:=by
     generalize a.eval x=v at hx;cases hx with|aL _ _ A c u hc=>exact⟨A,c,rfl,hc⟩
    rw[hv]at hx;have fin:∀ L H:Unit->Int,((lo=none/\L ()=0)\/∃ y k,lo=some y/\a.eval y=.int k (L ()))->((hi=none/\H ()=(xs ()).length)\/∃ y k,hi=some y/\a.eval y=.int k (H ())) ->
      (Ob (fun u=>0<=L u/\L u<=H u/\H u<=(xs u).length)/\K (.aL ty fun u=>((xs u).take (H u).toNat).drop (L u).toNat)) ->
      ∃ r c,(Instr.sliceAt t (a.eval x) (lo.map a.eval) (hi.map a.eval) none).run P w=.ok c w/\R g r c/\K r:=by
     intro L H hL hH h;have dM:=h.1.h;refine⟨_,_,by rw[hv];exact qf ht cu hL hH dM.1 dM.2.1 dM.2.2 hc,?_,h.2⟩;have:=Dh (l:=(L ()).toNat) (h:=(H ()).toNat) hx (by omega) (by omega);rw[dw]at this;have e:(fun u=>((xs u).take (H u).toNat).drop (L u).toNat)=(fun u=>((xs u).take (H ()).toNat).drop (L ()).toNat):=by funext u;cases u;rfl
     rw[e];exact this
    rcases lz hE h with⟨rfl,h1⟩|⟨y,k,n,rfl,hy,h1⟩ <;> rcases lz hE h1 with⟨rfl,h2⟩|⟨z,k',m,rfl,hz,h2⟩
    .exact fin _ _ (.inl ⟨rfl,rfl⟩) (.inl ⟨rfl,rfl⟩) h2
    .exact fin _ _ (.inl ⟨rfl,rfl⟩) (.inr ⟨_,_,rfl,hz⟩) h2
    .exact fin _ _ (.inr ⟨_,_,rfl,hy⟩) (.inl ⟨rfl,rfl⟩) h2
    .exact fin _ _ (.inr ⟨_,_,rfl,hy⟩) (.inr ⟨_,_,rfl,hz⟩) h2
   .rename_i i s o n ex
    split at h <;> try exact h.elim
    rename_i sz cu;split at h <;> try exact h.elim
    rename_i hb;have dw:s=sz:=Z3 hb;rw[ex]at hx;obtain⟨A,c,hv,hc⟩:∃ A c,a.eval x=.slice A (n ()) c/\n ()<=c:=by
     generalize a.eval x=v at hx;cases hx with|vec _ _ _ _ A c hi hL hn hs =>
     refine⟨A,c,rfl,?_⟩;cases hV:g.V i with
     | none=>have:=hn hV;omega
     | some cap=>have:=hs cap hV;omega
    rw[hv]at hx;have fin:∀ L H:Unit->Int,((lo=none/\L ()=0)\/∃ y k,lo=some y/\a.eval y=.int k (L ()))->((hi=none/\H ()=n ())\/∃ y k,hi=some y/\a.eval y=.int k (H ())) ->
      (Ob (fun u=>0<=L u/\L u<=H u/\H u<=n u)/\K (.vec i s (fun u=>o u+(L u).toNat) (fun u=>(H u).toNat - (L u).toNat))) ->
      ∃ r c,(Instr.sliceAt t (a.eval x) (lo.map a.eval) (hi.map a.eval) none).run P w=.ok c w/\R g r c/\K r:=by
     intro L H hL hH h;have dM:=h.1.h;refine⟨_,_,by rw[hv];exact qf ht cu hL hH dM.1 dM.2.1 dM.2.2 hc,?_,h.2⟩;have:=Di (l:=(L ()).toNat) (h:=(H ()).toNat) hx (by omega) (by omega);rw[dw]at this;have e1:(fun u=>o u+(L u).toNat)=(fun u=>o u+(L ()).toNat):=by funext u;cases u;rfl
     have e2:(fun u=>(H u).toNat - (L u).toNat)=(fun _:Unit=>(H ()).toNat - (L ()).toNat):=by funext u;cases u;rfl
     rw[e1,e2,dw];exact this
    rcases lz hE h with⟨rfl,h1⟩|⟨y,k,n,rfl,hy,h1⟩ <;> rcases lz hE h1 with⟨rfl,h2⟩|⟨z,k',m,rfl,hz,h2⟩
    .exact fin _ _ (.inl ⟨rfl,rfl⟩) (.inl ⟨rfl,rfl⟩) h2
    .exact fin _ _ (.inl ⟨rfl,rfl⟩) (.inr ⟨_,_,rfl,hz⟩) h2
    .exact fin _ _ (.inr ⟨_,_,rfl,hy⟩) (.inl ⟨rfl,rfl⟩) h2
    .exact fin _ _ (.inr ⟨_,_,rfl,hy⟩) (.inr ⟨_,_,rfl,hz⟩) h2
   .rename_i ex
    rw[ex]at hx;have hv:a.eval x=.slice none 0 0:=by generalize a.eval x=v at hx;cases hx;rfl
    split at h <;> try exact h.elim
    rename_i sz cu;have fin:∀ L H:Unit->Int,((lo=none/\L ()=0)\/∃ y k,lo=some y/\a.eval y=.int k (L ()))->((hi=none/\H ()=0)\/∃ y k,hi=some y/\a.eval y=.int k (H ())) ->
      (Ob (fun u=>L u=0/\H u=0)/\K .aZ)->∃ r c,(Instr.sliceAt t (a.eval x) (lo.map a.eval) (hi.map a.eval) none).run P w=.ok c w/\R g r c/\K r:=by
     intro L H hL hH h;have dM:=h.1.h;have bh:=qf (P:=P) (a:=a) (w:=w) (A:=none) (n:=0) (c:=0) (lo:=lo) (hi:=hi) (L:=L ()) (H:=H ()) ht cu hL (by simpa using hH) (by omega) (by omega) (by simp;omega) (Z8 _);refine⟨_,_,by rw[hv];exact bh,?_,h.2⟩;simp[dM.1,dM.2];exact .aZ
    rcases lz hE h with⟨rfl,h1⟩|⟨y,k,n,rfl,hy,h1⟩ <;> rcases lz hE h1 with⟨rfl,h2⟩|⟨z,k',m,rfl,hz,h2⟩
    .exact fin _ _ (.inl ⟨rfl,rfl⟩) (.inl ⟨rfl,rfl⟩) h2
    .exact fin _ _ (.inl ⟨rfl,rfl⟩) (.inr ⟨_,_,rfl,hz⟩) h2
    .exact fin _ _ (.inr ⟨_,_,rfl,hy⟩) (.inl ⟨rfl,rfl⟩) h2
    .exact fin _ _ (.inr ⟨_,_,rfl,hy⟩) (.inr ⟨_,_,rfl,hz⟩) h2
 ·
  rename_i t x hi mx;apply eO;have hx:=hE.ev x;have hh:=hE.ev hi;have hm:=hE.ev mx;split at h <;> try exact h.elim
  rename_i k hn k' mn eh em;rw[eh]at hh;rw[em]at hm;have hh:=hh.bY;have hm:=hm.bY;split at h <;> try exact h.elim
  rename_i e ht;split at h <;> try exact h.elim
  rename_i sz cu;split at h <;> try exact h.elim
  .rename_i ty xs ex
   split at h <;> try exact h.elim
   rename_i hb;have dw:ty.size=sz:=Z3 hb;rw[ex]at hx;obtain⟨dM,hk⟩:=h;obtain⟨h1,h2⟩:=dM.h;obtain⟨A,c,hv,hc⟩:∃ A c,a.eval x=.slice A (xs ()).length c/\(xs ()).length<=c:=by
    generalize a.eval x=v at hx;cases hx with|aL _ _ A c u hc=>exact⟨A,c,rfl,hc⟩
   rw[hv]at hx;refine⟨_,_,by rw[hv];exact ss ht cu (by rw[hh,h1]) (by rw[hm,h2]) hc,?_,hk⟩;exact Dj hx
  .rename_i ex
   rw[ex]at hx;obtain⟨dM,hk⟩:=h;obtain⟨h1,h2⟩:=dM.h;have hv:a.eval x=.slice none 0 0:=by generalize a.eval x=v at hx;cases hx;rfl
   exact⟨_,_,by rw[hv];exact ss ht cu (n:=0) (by rw[hh,h1];rfl) (by rw[hm,h2];rfl) (Z8 _),.aZ,hk⟩
 ·
  rename_i op t x y t';apply eO;exact IW hS (hE.ev x) (hE.ev y) h
 ·
  rename_i op t x;apply eO;have hx:=hE.ev x;generalize a.eval x=v at hx ⊢;split at h <;> try exact h.elim
  all_goals (rename_i e;rw[e]at hx;cases hx)
  .exact⟨_,_,by simp[Op.unary],R.oN rfl,h⟩
  .exact⟨_,_,by simp[Op.unary],.ff,h⟩
  .exact⟨_,_,by simp[Op.unary],.tt,h⟩
  .exact⟨_,_,rfl,.int _ _,h⟩
  .exact⟨_,_,rfl,.int _ _,h⟩
 ·
  rename_i src dst x;apply eO;have hx:=hE.ev x;split at h <;> try exact h.elim
  .rename_i d k k' n hs hd e
   rw[e]at hx;exact⟨_,_,by simp[convert,ag hs,ag hd,hx.bY,Conv.intToInt],.int _ _,h⟩
  .rename_i d s hs hd e
   rw[e]at hx;exact⟨_,_,by simp[convert,ag hs,ag hd,hx.gS],.str _,h⟩
  .rename_i e xs hs hd ex
   split at h <;> try exact h.elim
   rename_i he;rw[ex]at hx;obtain⟨A,c,hv⟩:∃ A c,a.eval x=.slice A (xs ()).length c:=by
    generalize a.eval x=v at hx;cases hx with|aL _ _ A c u hc=>exact⟨A,c,rfl⟩
   rw[hv]at hx;obtain⟨h1,h2⟩:=Dk hS hx;exact⟨_,_,by simp[convert,ag hs,ag hd,hv,ag he,uX h1 h2],R.zY rfl,h⟩
  .rename_i e hs hd ex
   split at h <;> try exact h.elim
   rename_i he;rw[ex]at hx;have hv:a.eval x=.slice none 0 0:=by generalize a.eval x=v at hx;cases hx;rfl
   exact⟨_,_,by simp[convert,ag hs,ag hd,hv,ag he,Conv.bytesToString];rfl,R.zY rfl,h⟩
  .rename_i e i o n hs hd ex
   split at h <;> try exact h.elim
   rename_i T xs he hc;rw[ex]at hx;obtain⟨A,c,hv⟩:∃ A c,a.eval x=.slice A (n ()) c:=by
    generalize a.eval x=v at hx;cases hx with|vec _ _ _ _ A c=>exact⟨A,c,rfl⟩
   rw[hv]at hx;obtain⟨h1,h2⟩:=Dl hS hc hx rfl;exact⟨_,_,by simp[convert,ag hs,ag hd,hv,ag he,uX h1 h2],R.zY rfl,h⟩
  .rename_i t i gg hs hd ex
   split at h <;> try exact h.elim
   rename_i k T cs cu hc;split at h <;> try exact h.elim
   rename_i bf;have bf:gg<Db cs:=aaM bf;rw[ex]at hx;have fU:=hS.sat i;rw[hc]at fU;obtain⟨vs,hb,Dq⟩:=fU;have hlen:=Dq.length;rw[Bw]at bf;obtain⟨ti,vW,Ps⟩:∃ ti,P.info? t=some ti/\ti.size=k+1:=by
    unfold bR at cu;split at cu
    .rename_i ti vW
     exact⟨ti,bu vW,by simpa using cu⟩
    .cases cu
   have hv:a.eval x=.pointer (some ⟨g.B i,gg,none⟩):=by generalize a.eval x=v at hx;cases hx;rfl
   rw[hv]at hx;exact⟨_,_,by rw[hv];exact Lib.run_to_unsafe w _ (au hs) (au hd) vW (by omega) (e:=T) (cells:=vs.size) (by simp[World.shape?,hb]) (by simp at hlen;show gg<vs.size;omega),hx,h⟩
  .rename_i t i gg hs hd ex
   split at h <;> try exact h.elim
   rename_i ti T cs vW hc;rw[fe]at h;obtain⟨qU,hk⟩:=h;rw[ex]at hx;have fU:=hS.sat i;rw[hc]at fU;obtain⟨vs,hb,Dq⟩:=fU;have hlen:=Dq.length;have qU:=qU.h;rw[Bw]at qU;have hv:a.eval x=.pointer (some ⟨g.B i,gg,none⟩):=by generalize a.eval x=v at hx;cases hx;rfl
   rw[hv]at hx;exact⟨_,_,by rw[hv];exact Lib.run_from_unsafe w _ (au hs) (au hd) (bu vW) (e:=T) (cells:=vs.size) (by simp[World.shape?,hb]) (by simp at hlen;rw[<-hlen];exact qU),hx,hk⟩
 ·
  rename_i t x;apply eO;split at h <;> try exact h.elim
  rename_i d I0 ht;refine⟨_,_,?_,.nO _ _ _ (hE.ev x),h⟩;simp only[Instr.makeInterface,Sem.run_bind,ag ht,Result.andThen_ok];cases d <;> first|rfl|exact(I0 _ rfl).elim
 ·
  rename_i f p q;apply eO;rw[fg,fg]at h;refine⟨_,_,rfl,?_,h⟩;have:=R.Dc (f:=f) (hE.p9 p.toList) (hE.p9 q.toList);have e1:(List.map a.eval p.toList).toArray=p.map a.eval:=by apply abq;simp
  have e2:(List.map a.eval q.toList).toArray=q.map a.eval:=by apply abq;simp
  rw[e1,e2]at this;exact this
 ·
  rename_i x i;apply eO;have hx:=hE.ev x;split at h <;> try exact h.elim
  rename_i cs e;rw[e]at hx;split at h <;> try exact h.elim
  rename_i v hv;rw[fP]at h;obtain⟨vs,h1,h2⟩:=hx.rV;rw[gE]at hv;obtain⟨u,hu,hr⟩:=h2.get hv;simp at hu;exact⟨v,u,by simp[Instr.extract,h1,hu],hr,h⟩
 ·
  apply eO;exact Fm hS (hE.ev _) (hE.ev _) h
 ·
  rename_i t parts;apply eO;split at h <;> try exact h.elim
  rename_i ps Fo;obtain⟨r,c,h1,h2,h3⟩:=Dg (P:=P) (w:=w) hE Fo h;refine⟨r,c,?_,h2,h3⟩;rw[<-h1];congr 2;apply abq;simp
 ·
  rename_i b args ts;split at h <;> try exact h.elim
  rename_i t r gC;obtain⟨r',c,h1,h2,h3⟩:=xO (P:=P) (w:=w) (ts:=r) (ty:=o.type) (cs:=args.map fun|.const _=>true|_=>false) hS (hE.p9 args.toList) h;refine⟨r',c,?_,h2,h3⟩;simp only[resolve,invoke,Sem.run_bind,Sem.run_pure,Result.andThen_ok];rw[<-h1];congr 2
  .apply abq;simp[gC]
  .apply abq;simp
 .exact h.elim
end
end Go.Proofs.YthnefnlhcijekaaGreat.Fw
namespace Go.Proofs.YthnefnlhcijekaaGreat.Fw
open Go Go.RowKit
mutual
def df (f:AV->AV):AV->AV
 | .ptr i o=>f (.ptr i o)|.bg i s j o=>f (.bg i s j o)|.vec i s o n=>f (.vec i s o n)|.mp i=>f (.mp i)|.hp i g=>f (.hp i g)|.hm i g=>f (.hm i g)
 | .agg cs=>.agg (eP f cs)|.bQ cs=>.bQ (eP f cs)|.fn g az bs=>.fn g (eP f az) (eP f bs)|.nO t v=>.nO t (df f v)
 | .undef=>.undef|.skip=>.skip|.int k n=>.int k n|.bool b=>.bool b|.tt=>.tt|.ff=>.ff|.str s=>.str s|.aL t xs=>.aL t xs
 | .bW=>.bW|.dv t x o=>.dv t x o|.cM cs o=>.cM (eP f cs) o|.aZ=>.aZ|.gD=>.gD|.jO=>.jO|.jP=>.jP
def eP (f:AV->AV):List AV->List AV
 | []=>[]|c::r=>df f c::eP f r
end
theorem gq (f:AV->AV):∀ l:List AV,(eP f l).length=l.length
 | []=>by simp[eP]
 | c::r=>by simp[eP,gq f r]
theorem iD (f:AV->AV):∀ (l:List AV) (i:Nat),(eP f l)[i]?=l[i]?.map (df f)
 | [],i=>by simp[eP]
 | c::r,0=>by simp[eP]
 | c::r,i+1=>by simp[eP,iD f r i]
def isRef:AV->Bool
 | .ptr _ _|.bg _ _ _ _|.vec _ _ _ _|.mp _|.hp _ _|.hm _ _=>true|_=>false
theorem At.mono {g g':Gh} (hΦ:∀ b o,g.Φ b=some o->g'.Φ b=some o) {A:Option Addr} {k:Nat} {u:Value} (h:At g A k u):At g' A k u:=by
 obtain⟨b,off,cells,T,fr,h1,h2,h3⟩:=h;exact⟨b,off,cells,T,fr,h1,hΦ _ _ h2,h3⟩
theorem il (f:AV->AV):∀ (t:Ty) (x:Unit->t.den) (j:Nat) (y:AV),(enc t x [])[j]?=some y->df f y=y
 | .int _,x,j,y,h=>by cases j <;> simp[enc]at h;subst h;rfl
 | .bool,x,j,y,h=>by cases j <;> simp[enc]at h;subst h;rfl
 | .str,x,j,y,h=>by cases j <;> simp[enc]at h;subst h;rfl
 | .list _,x,j,y,h=>by cases j <;> simp[enc]at h;subst h;rfl
 | .pair a b,x,j,y,h=>by
  simp only[enc]at h;rw[cK,aau]at h;split at h
  .exact il f a _ j y h
  .exact il f b _ _ y h
theorem R.mapA {g g':Gh} (f:AV->AV) (hA:∀ A k u,At g A k u->At g' A k u) (hf:∀ v u,isRef v=true->R g v u->R g' (f v) u) {v:AV} {u:Value} (h:R g v u):R g' (df f v) u:=by
 induction h with
 | undef v=>exact .undef v
 | skip=>exact .skip
 | int k n=>exact .int k n
 | bool b=>exact .bool b
 | tt=>exact .tt
 | ff=>exact .ff
 | str s=>exact .str s
 | aL t xs A c u hc hm ha hr ih =>
  refine .aL t xs A c u hc hm (fun i x j y h1 h2=>hA _ _ _ (ha i x j y h1 h2)) (fun i x j y h1 h2=>?_);have:=ih i x j y h1 h2;rwa [il f t _ j y h2]at this
 | agg cs vs hl hr ih =>
  refine .agg _ vs (by rw[gq];exact hl) (fun i y u h1 h2=>?_);rw[iD]at h1;cases hc:cs[i]? with
  | none=>rw[hc]at h1;cases h1
  | some c=>rw[hc]at h1;cases h1;exact ih i c u hc h2
 | bQ cs vs hl hr ih =>
  refine .bQ _ vs (by rw[gq];exact hl) (fun i y u h1 h2=>?_);rw[iD]at h1;cases hc:cs[i]? with
  | none=>rw[hc]at h1;cases h1
  | some c=>rw[hc]at h1;cases h1;exact ih i c u hc h2
 | bW=>exact .bW
 | ptr i off hi=>exact hf _ _ rfl (.ptr i off hi)
 | bg i sz idx off hi h=>exact hf _ _ rfl (.bg i sz idx off hi h)
 | dv t x off b o u ha hr ih =>
  refine .dv t x off b o u (fun j y h=>hA _ _ _ (ha j y h)) (fun j y h=>?_);have:=ih j y h;rwa [il f t _ j y h]at this
 | cM cs off b o u ha hr ih =>
  refine .cM _ off b o u (fun j y h=>?_) (fun j y h=>?_)
  .rw[iD]at h
   cases hc:cs[j]? with
   | none=>rw[hc]at h;cases h
   | some c=>exact hA _ _ _ (ha j c hc)
  .rw[iD]at h
   cases hc:cs[j]? with
   | none=>rw[hc]at h;cases h
   | some c=>rw[hc]at h;cases h;exact ih j c hc
 | aZ=>exact .aZ
 | vec i sz off n A c hi hL hn hs=>exact hf _ _ rfl (.vec i sz off n A c hi hL hn hs)
 | fn h az bs vs ws hl k9 hr qS ih Xe =>
  refine .fn h _ _ vs ws (by rw[gq];exact hl) (by rw[gq];exact k9) (fun i y u h1 h2=>?_) (fun i y u h1 h2=>?_)
  .rw[iD]at h1
   cases hc:az[i]? with
   | none=>rw[hc]at h1;cases h1
   | some c=>rw[hc]at h1;cases h1;exact ih i c u hc h2
  .rw[iD]at h1
   cases hc:bs[i]? with
   | none=>rw[hc]at h1;cases h1
   | some c=>rw[hc]at h1;cases h1;exact Xe i c u hc h2
 | gD=>exact .gD
 | nO t v u h ih=>exact .nO t _ u ih
 | jO=>exact .jO
 | mp i hi=>exact hf _ _ rfl (.mp i hi)
 | hp i f hi h=>exact hf _ _ rfl (.hp i f hi h)
 | hm i f hi h=>exact hf _ _ rfl (.hm i f hi h)
 | jP=>exact .jP
theorem R.map {g g':Gh} (f:AV->AV) (hΦ:∀ b o,g.Φ b=some o->g'.Φ b=some o) (hf:∀ v u,isRef v=true->R g v u->R g' (f v) u) {v:AV} {u:Value} (h:R g v u):R g' (df f v) u:=h.mapA f (fun _ _ _ h=>h.mono hΦ) hf
mutual
theorem gT:∀ v:AV,df id v=v
 | .agg cs=>by simp only[df];rw[kp cs]
 | .bQ cs=>by simp only[df];rw[kp cs]
 | .cM cs o=>by simp only[df];rw[kp cs]
 | .fn g az bs=>by simp only[df];rw[kp az,kp bs]
 | .nO t v=>by simp only[df];rw[gT v]
 | .ptr _ _|.bg _ _ _ _|.vec _ _ _ _|.mp _|.hp _ _|.hm _ _|.undef|.skip|.int _ _|.bool _|.tt|.ff|.str _|.aL _ _|.bW|.dv _ _ _|.aZ|.gD|.jO|.jP=>rfl
theorem kp:∀ l:List AV,eP id l=l
 | []=>rfl
 | c::r=>by simp only[eP];rw[gT c,kp r]
end
structure Gh.le (g g':Gh):Prop where
 n:g.n<=g'.n
 dn:∀ b o,g.Φ b=some o->g'.Φ b=some o
 B:∀ i,i<g.n->g'.B i=g.B i
 V:∀ i,i<g.n->g'.V i=g.V i
 L:∀ i,i<g.n->g'.L i=g.L i
 k:g'.k=g.k
 W:∀ i k,i<g.n->k<g.M i->g'.W i k=g.W i k
 M:∀ i,i<g.n->g.M i<=g'.M i
theorem R.mono {g g':Gh} (hg:g.le g') {v:AV} {u:Value} (h:R g v u):R g' v u:=by
 have:=R.map (g':=g') id hg.dn (fun v u hv h=>?_) h
 .rwa [gT]at this
 .cases h <;> first|(cases hv;done)|skip
  .rename_i i off hi
   show R g' (.ptr i off) _;rw[<-hg.B i hi];exact .ptr i off (aag hi hg.n)
  .rename_i i sz idx off hi h
   show R g' (.bg i sz idx off) _;rw[<-hg.B i hi];exact .bg i sz idx off (aag hi hg.n) (by rw[hg.L i hi];exact h)
  .rename_i i sz off n A c hi hL hn hs
   exact .vec i sz off n A c (aag hi hg.n) (by rw[hg.L i hi];exact hL) (by rw[hg.V i hi];exact hn) (by rw[hg.V i hi,hg.B i hi];exact hs)
  .rename_i i hi
   show R g' (.mp i) _;rw[<-hg.B i hi];exact .mp i (aag hi hg.n)
  .rename_i i f hi hf
   show R g' (.hp i f) _;have:=R.hp (g:=g') i f (aag hi hg.n) (fun x hx=>aag (hf x hx) (hg.M i hi));cases Fp:f ()with
   | none=>rw[Fp]at this;exact this
   | some x=>rw[Fp]at this;simp only[aaO]at this ⊢;rw[<-hg.W i x.1 hi (hf x Fp)];exact this
  .rename_i i f hi hf
   show R g' (.hm i f) _;rw[<-hg.W i _ hi hf];exact .hm i f (aag hi hg.n) (aag hf (hg.M i hi))
theorem RL.mono {g g':Gh} (hg:g.le g'):∀ {cs:List AV} {us:List Value},RL g cs us->RL g' cs us
 | [],[],h=>h
 | c::r,u::us,h=>⟨h.1.mono hg,RL.mono hg h.2⟩
theorem RL.mapA {g g':Gh} (f:AV->AV) (hA:∀ A k u,At g A k u->At g' A k u) (hf:∀ v u,isRef v=true->R g v u->R g' (f v) u):∀ {cs:List AV} {us:List Value},RL g cs us->RL g' (eP f cs) us
 | [],[],h=>h
 | c::r,u::us,h=>⟨h.1.mapA f hA hf,RL.mapA f hA hf h.2⟩
theorem RL.map {g g':Gh} (f:AV->AV) (hΦ:∀ b o,g.Φ b=some o->g'.Φ b=some o) (hf:∀ v u,isRef v=true->R g v u->R g' (f v) u) {cs:List AV} {us:List Value} (h:RL g cs us):RL g' (eP f cs) us:=h.mapA f (fun _ _ _ h=>h.mono hΦ) hf
theorem RL.kq {g g':Gh} (hA:∀ A k u,At g A k u->At g' A k u) {t:Ty} {x:Unit->t.den} {us:List Value} (h:RL g (enc t x []) us):RL g' (enc t x []) us :=
 RL.mk h.length fun i y u h1 h2=>by
  have:=R.mapA (g':=g') (fun _=>.undef) hA (fun v u _ _=>.undef u) (h.at_ i y u h1 h2);rwa [il _ t _ i y h1]at this
theorem RL.im {g g':Gh} (hΦ:∀ b o,g.Φ b=some o->g'.Φ b=some o) {t:Ty} {x:Unit->t.den} {us:List Value} (h:RL g (enc t x []) us):RL g' (enc t x []) us:=h.kq (fun _ _ _ h=>h.mono hΦ)
def dg (f:AV->AV):Chunk->Chunk
 | .none=>.none|.cells T cs=>.cells T (eP f cs)|.aq T t xs=>.aq T t xs|.count k=>.count k|.jd k ks vs=>.jd k ks (eP f vs)|.row T t xs=>.row T t xs|.heap h=>.heap h|.je x a b l=>.je (df f x) a b l|.iZ T cs=>.iZ T (eP f cs)|.bq q=>.bq q
def cT (f:AV->AV):List Chunk->List Chunk
 | []=>[]|c::r=>dg f c::cT f r
def ba (f:AV->AV):Env->Env
 | []=>[]|(k,v)::r=>(k,df f v)::ba f r
theorem dY (f:AV->AV):∀ E,ah (cT f E)=ah E
 | []=>rfl
 | c::r=>by simp[cT,ah,dY f r]
theorem fi (f:AV->AV):∀ E i,af (cT f E) i=dg f (af E i)
 | [],i=>by simp[cT,af,dg]
 | c::r,0=>by simp[cT,af]
 | c::r,i+1=>by simp[cT,af,fi f r i]
theorem cU (f:AV->AV):∀ env t,look (ba f env) t=df f (look env t)
 | [],t=>by simp[ba,look,df]
 | (k,v)::r,t=>by
  simp only[ba,look];split <;> rename_i h <;> simp[h,cU f r t]
theorem bx (E:List Chunk) (i j:Nat) (c:Chunk):af (a8 E i c) j=if i=j/\i<ah E then c else af E j:=by
 induction E generalizing i j with
 | nil=>simp[a8,af,ah]
 | cons d r ih =>
  cases i <;> cases j <;> simp[a8,af,ah,ih]
theorem b8:∀ (E:List Chunk) (i:Nat) (c:Chunk),ah (a8 E i c)=ah E
 | [],_,_=>rfl
 | d::r,0,c=>rfl
 | d::r,i+1,c=>by simp[a8,ah,b8 r i c]
theorem lA (E:List Chunk) (j:Nat) (c:Chunk):af (dm E c) j=if j=ah E then c else af E j:=by
 induction E generalizing j with
 | nil=>cases j <;> simp[dm,af,ah]
 | cons d r ih=>cases j <;> simp[dm,af,ah,ih]
theorem lB:∀ (E:List Chunk) (c:Chunk),ah (dm E c)=ah E+1
 | [],_=>rfl
 | d::r,c=>by simp[dm,ah,lB r c]
theorem kr:∀ (E:List Chunk) (i:Nat),ah E<=i->af E i=.none
 | [],_,_=>rfl
 | d::r,0,h=>by simp[ah]at h
 | d::r,i+1,h=>by simp only[af];exact kr r i (by simpa [ah]using h)
theorem dI {E:List Chunk} {i:Nat} (h:af E i≠.none):i<ah E:=by
 rcases Nat.lt_or_ge i (ah E)with h'|h'
 .exact h'
 .exact(h (kr E i h')).elim
theorem z7 {g:Gh} {E:List Chunk} {i b:Nat} (h:(af E i).own g i b):i<ah E:=dI (fun e=>by rw[e]at h;cases h)
theorem gG.Dr {g g':Gh} {i i':Nat} (hR:∀ (v:HV) u,R g (v.av i) u->R g' (v.av i') u):∀ {es:List (Nat×Int×HV)} {ms:List MapEntry},gG g i es ms->gG g' i' es ms
 | [],[],_=>trivial
 | (_,_,_)::_,_::_,h=>⟨h.1,h.2.1,hR _ _ h.2.2.1,gG.Dr hR h.2.2.2⟩
theorem HO.lC {g g':Gh} {i i':Nat} {ob:Obj} {o:HO} (hR:∀ (v:HV) u,R g (v.av i) u->R g' (v.av i') u) (h:o.sat g i ob):o.sat g' i' ob:=by
 cases o with
 | cells T n c =>
  obtain⟨vs,rfl,h1,h2⟩:=h;exact⟨vs,rfl,h1,fun j u hu=>hR _ _ (h2 j u hu)⟩
 | map es cl =>
  obtain⟨ms,rfl,h1⟩:=h;exact⟨ms,rfl,h1.Dr hR⟩
theorem HV.I1 {i:Nat} (t:Ty) (x:t.den):(∃ v,enc t (fun _=>x) []=[v]/\(HV.gQ t x).av i=v)\/(HV.gQ t x).av i=.agg (enc t (fun _=>x) []):=by
 by_cases h:∃ v,enc t (fun _=>x) []=[v]
 .obtain⟨v,hv⟩:=h
  exact .inl ⟨v,hv,by simp[HV.av,hv]⟩
 .refine .inr ?_
  simp only[HV.av];split
  .rename_i v hv;exact(h ⟨v,hv⟩).elim
  .rfl
theorem HV.rW {g g':Gh} {i i':Nat} (hA:∀ A k u,At g A k u->At g' A k u) (hi:i<g.n->i'<g'.n) (hW:i<g.n->∀ k,k<g.M i->g'.W i' k=g.W i k) (hM:i<g.n->g.M i<=g'.M i') (v:HV) (u:Value) (h:R g (v.av i) u):R g' (v.av i') u:=by
 cases v with
 | gQ t x =>
  have key:∀ us,RL g (enc t (fun _=>x) []) us->RL g' (enc t (fun _=>x) []) us:=fun us h=>h.kq hA;rcases HV.I1 (i:=i) t x with⟨v,h1,h2⟩|h2
  .rw[h2]at h
   have e:(HV.gQ t x).av i'=v:=by simp[HV.av,h1]
   rw[e];rw[h1]at key;exact(key [u] ⟨h,trivial⟩).1
  .have e:(HV.gQ t x).av i'=(HV.gQ t x).av i:=rfl
   rw[e,h2];rw[h2]at h;obtain⟨vs,rfl,h3⟩:=h.gR;have:=R.jf (key _ h3);simpa using this
 | hp f =>
  simp only[HV.av]at h ⊢;cases h with|hp _ _ h1 h2 =>
  have:=R.hp (g:=g') i' (fun _=>f) (hi h1) (fun x hx=>aag (h2 x hx) (hM h1));cases f with
  | none=>exact this
  | some x=>simp only[aaO]at this ⊢;rw[<-hW h1 x.1 (h2 x rfl)];exact this
 | hm k =>
  simp only[HV.av]at h ⊢;cases h with|hm _ _ h1 h2 =>
  rw[<-hW h1 k h2];exact .hm i' (fun _=>k) (hi h1) (aag h2 (hM h1))
theorem Mg {g g':Gh} (hA:∀ A k u,At g A k u->At g' A k u):∀ b off u,Sk g.Φ b off u->Sk g'.Φ b off u:=by
 rintro b off u ⟨cs,T,fr,h1,h2⟩;obtain⟨b',Tk,mu,T',Pr,h3,h4,h5⟩:=hA (some ⟨b,off,Option.none⟩) 0 u ⟨b,off,cs,T,fr,rfl,h1,h2⟩;cases h3;exact⟨mu,T',Pr,h4,h5⟩
theorem Chunk.fj {g g':Gh} {i:Nat} {w w':World} {c:Chunk} (hA:∀ A k u,At g A k u->At g' A k u) (hR:∀ cs us,RL g cs us->RL g' cs us) (hB:g'.B i=g.B i) (hV:g'.V i=g.V i) (hL:g'.L i=g.L i) (hk:g'.k=g.k) (hW:g'.W i=g.W i) (hM:g'.M i=g.M i)
  (hw:∀ b,c.own g i b->w'.heap[b]?=w.heap[b]?) (h:c.sat g i w):c.sat g' i w':=by
 cases c with
 | none=>trivial
 | cells T cs =>
  obtain⟨vs,h1,h2⟩:=h;exact⟨vs,by rw[hB,hw _ rfl];exact h1,hR _ _ h2⟩
 | aq T t xs =>
  obtain⟨h1,h2,h3⟩:=h;refine⟨by rw[hL];exact h1,by rw[hV];exact h2,fun cap hc=>?_⟩;rw[hV]at hc;obtain⟨vs,h4,h5,h6,h7⟩:=h3 cap hc;exact⟨vs,by rw[hB,hw _ (by simp[Chunk.own,hc])];exact h4,h5,h6,fun k x hx=>hR _ _ (h7 k x hx)⟩
 | row T t xs =>
  obtain⟨h1,h2,h3⟩:=h;refine⟨by rw[hL];exact h1,by rw[hV];exact h2,fun cap hc=>?_⟩;rw[hV]at hc;obtain⟨vs,h4,h5,h6,h7⟩:=h3 cap hc;exact⟨vs,by rw[hB,hw _ (by simp[Chunk.own,hc])];exact h4,h5,h6,fun k x hx=>hR _ _ (h7 k x hx)⟩
 | count k=>exact h.trans hk.symm
 | jd k ks us =>
  obtain⟨es,cl,h1,h2,h3⟩:=h;exact⟨es,cl,by rw[hB,hw _ rfl];exact h1,h2,hR _ _ h3⟩
 | heap hp =>
  obtain⟨h1,h2,h3⟩:=h;refine⟨by rw[hM];exact h1,by rw[hM,hW];exact h2,fun k hk=>?_⟩;rw[hM]at hk;obtain⟨ob,h4,h5⟩:=h3 k hk;exact⟨ob,by rw[hW,hw _ ⟨k,hk,rfl⟩];exact h4,HO.lC (fun v u hv=>(hR [v.av i] [u] ⟨hv,trivial⟩).1) h5⟩
 | iZ T cs =>
  obtain⟨vs,h1,h2⟩:=h;exact⟨vs,by rw[hB,hw _ rfl];exact h1,hR _ _ h2⟩
 | bq q =>
  obtain⟨h1,h2,h3⟩:=h;refine⟨by rw[hM];exact h1,fun b k hk=>?_,?_⟩
  .rw[hW]at hk;rw[hw b ⟨k,hk⟩];exact h2 b k hk
  .rw[hB,hW];exact q.mono _ _ _ _ _ _ (Mg hA) (fun b hb=>hw b hb) h3
 | je x a b l =>
  obtain⟨r,h1,h2⟩:=h;exact⟨r,(hR [x] [_] ⟨h1,trivial⟩).1,by rw[hB,hw _ rfl];exact h2⟩
theorem Chunk.qh {g g':Gh} {i b:Nat} {c:Chunk} (hB:g'.B i=g.B i) (hV:g'.V i=g.V i) (hW:g'.W i=g.W i) (hM:g'.M i=g.M i):c.own g' i b=c.own g i b:=by
 cases c <;> simp[Chunk.own,hB,hV,hW,hM]
end Go.Proofs.YthnefnlhcijekaaGreat.Fw
namespace Go.Proofs.YthnefnlhcijekaaGreat.Fw
open Go
def jC (l:Env) (K:Env->Prop):Prop:=match l with
 | []=>K []|(k,v)::r=>fV v fun v=>jC r fun r=>K ((k,v)::r)
theorem c9 (l:Env) (K:Env->Prop):jC l K=K l:=by
 induction l generalizing K with
 | nil=>rfl
 | cons c r ih=>cases c;simp only[jC,fP,ih]
def iq (l:List Chunk) (K:List Chunk->Prop):Prop:=match l with
 | []=>K []|c::r=>fC c fun c=>iq r fun r=>K (c::r)
theorem a7 (l:List Chunk) (K:List Chunk->Prop):iq l K=K l:=by
 induction l generalizing K with
 | nil=>rfl
 | cons c r ih=>simp only[iq,Pj,ih]
def ku (i:Nat):AV->AV
 | .ptr j o=>(match Nat.beq j i with|true=>.undef|false=>.ptr j o)
 | .bg j s x o=>(match Nat.beq j i with|true=>.undef|false=>.bg j s x o)
 | .vec j s o n=>(match Nat.beq j i with|true=>.undef|false=>.vec j s o n)
 | .mp j=>(match Nat.beq j i with|true=>.undef|false=>.mp j)
 | .hp j f=>(match Nat.beq j i with|true=>.undef|false=>.hp j f)
 | .hm j f=>(match Nat.beq j i with|true=>.undef|false=>.hm j f)
 | v=>v
def nU (i:Nat) (t:Ty) (xs:Unit->List t.den):AV->AV
 | .ptr j o=>(match Nat.beq j i with|true=>.undef|false=>.ptr j o)
 | .bg j s x o=>(match Nat.beq j i with|true=>(match Nat.beq s t.size with|true=>.dv t (fun u=>(xs u).getD (x u) t.bA) o|false=>.undef)|false=>.bg j s x o)
 | .vec j s o n=>(match Nat.beq j i with|true=>(match Nat.beq s t.size with|true=>.aL t (fun u=>((xs u).drop (o u)).take (n u))|false=>.undef)|false=>.vec j s o n)
 | .mp j=>(match Nat.beq j i with|true=>.undef|false=>.mp j)
 | .hp j f=>(match Nat.beq j i with|true=>.undef|false=>.hp j f)
 | .hm j f=>(match Nat.beq j i with|true=>.undef|false=>.hm j f)
 | v=>v
def gU (i:Nat) (env:Env) (E:List Chunk) (cs:List AV) (K:Env->List Chunk->List AV->Prop):Prop :=
 match af E i with
 | .aq T t xs=>jC (ba (nU i t xs) env) fun env=>iq (cT (nU i t xs) (a8 E i .none)) fun E=>fL (eP (nU i t xs) cs) fun cs=>K env E cs
 | _=>False
def BC:List AV->Option Nat
 | []=>none|.vec i _ _ _::_=>some i|_::r=>BC r
def su:Nat->Env->List Chunk->List AV->(Env->List Chunk->List AV->Prop)->Prop
 | 0,env,E,cs,K=>K env E cs
 | n+1,env,E,cs,K=>match BC cs with
  | none=>K env E cs
  | some i=>gU i env E cs fun env E cs=>su n env E cs K
def VG:AV->Bool
 | .undef|.skip|.agg _|.bQ _=>false|_=>true
def Sq:List AV->Bool
 | []=>true|c::r=>match VG c with|true=>Sq r|false=>false
structure z8 (i:Nat) (v:AV) (h:Unit->Hp) (f:Unit->Option (Nat×Nat)) (K:Hp->Prop):Prop where
 h:∃ k off T n c hv h',f ()=some (k,off)/\(h ()).o k=.cells T n c/\off<n/\eN i v hv/\Hp.dN h' ((h ()).set k (.cells T n fun j=>if j=off then hv else c j))/\K h'
structure Mh (P:Program) (t i:Nat) (n:Unit->Int) (v:AV) (h:Unit->Hp) (f:Unit->Nat) (K:Hp->Prop):Prop where
 h:∃ es clock z hv h',(h ()).o (f ())=.map es clock/\iC P t=some z/\eN i v hv/\Hp.dN h' ((h ()).set (f ()) (uB es clock (n ()) hv))/\K h'
structure Mi (P:Program) (t:Nat) (n:Unit->Int) (h:Unit->Hp) (f:Unit->Nat) (K:Hp->Prop):Prop where
 h:∃ es clock z h',(h ()).o (f ())=.map es clock/\iC P t=some z/\Hp.dN h' ((h ()).set (f ()) (.map (bZ es (n ())) clock))/\K h'
structure Xf (P:Program) (t:Nat) (h:Unit->Hp) (f:Unit->Nat) (K:Nat->Prop):Prop where
 h:∃ es clock kt et,(h ()).o (f ())=.map es clock/\aS P t=some (.map kt et)/\K clock
structure VH (j:Nat) (h:Unit->Hp) (f:Unit->Nat) (since last:Nat) (seen:Unit->List Nat) (K0:Prop) (K:Int->AV->List Nat->Prop):Prop where
 h:∃ es,(h ()).o (f ())=.map es since/\last=since/\(∀ e∈es,e.1<since)/\((∀ e∈es,e.1∈seen ())->K0)/\(∀ b n v,(b,n,v)∈es->b∉seen ()->K n (v.av j) (seen ()++[b]))
def Fq (P:Program) (t:Nat) (x:AV) (env:Env) (E:List Chunk) (K:AV->Env->List Chunk->Prop):Prop:=match x with
 | .hm i f=>(match af E i with
  | .heap h=>Xf P t h f fun clock=>fN (ah E) fun n=>iq (dm E (.je (.hm i f) clock clock fun _=>[])) fun E=>K (.ptr n 0) env E
  | _=>False)
 | _=>False
def K3 (x:AV) (env:Env) (E:List Chunk) (K:AV->Env->List Chunk->Prop):Prop:=match x with
 | .ptr i 0=>(match af E i with
  | .je (.hm j f) since last seen=>(match af E j with
   | .heap h=>VH j h f since last seen (K (.bQ [.ff]) env E) fun n v Pt=>fV v fun v=>iq (a8 E i (.je (.hm j f) since since fun _=>Pt)) fun E=>K (.bQ [.tt,.I n,v]) env E
   | _=>False)
  | _=>False)
 | _=>False
structure VI (j:Nat) (h:Unit->Hp) (f:Unit->Nat) (last:Nat) (seen:Unit->List Nat) (K:Int->AV->Prop):Prop where
 h:∃ es b e,(h ()).o (f ())=.map es last/\(seen ()).getLast?=some b/\es.find? (fun e=>e.1 == b)=some e/\K e.2.1 (e.2.2.av j)
def Fs (x:AV) (env:Env) (E:List Chunk) (K:AV->Env->List Chunk->Prop):Prop:=match x with
 | .ptr i 0=>(match af E i with
  | .je (.hm j f) since last seen=>(match af E j with
   | .heap h=>VI j h f last seen fun n v=>fV v fun v=>K (.bQ [.I n,v]) env E
   | _=>False)
  | _=>False)
 | _=>False
def Ft (t:Ty):Nat->List AV->((Unit->List t.den)->Prop)->Prop
 | 0,[],K=>K (fun _=>[])
 | 0,_::_,_=>False
 | n+1,cs,K=>dec t cs fun x r=>Ft t n r fun xs=>K (fun u=>x u::xs u)
section
variable (P:Program)
def I2 (t:Ty) (E:List Chunk) (v:AV) (K:(Unit->List t.den)->Prop):Prop :=
 match v with
 | .aZ=>K (fun _=>[])
 | .aL t' xs=>(match decEq t' t with|isTrue h=>np h xs K|isFalse _=>False)
 | .vec i s o n=>(match af E i with
  | .aq _ t' xs=>(match decEq t' t with|isTrue h=>(match Nat.beq s t.size with|true=>np h xs fun xs=>K (fun u=>((xs u).drop (o u)).take (n u))|false=>False)|isFalse _=>False)
  | _=>False)
 | _=>False
def lh {α:Type} (xs:Unit->List α) (o n:Unit->Nat) (ys:Unit->List α):Unit->List α:=fun u=>(xs u).take (o u)++ys u++(xs u).drop (o u+n u)
def Mj (e:Nat) (n:Unit->Int) (env:Env) (E:List Chunk) (K:AV->Env->List Chunk->Prop):Prop :=
 match gp P 6 e,bR P e,iB P e,fQ P e with
 | some ty,some sz,some uZ,some z=>(match Nat.beq ty.size sz,gF (xz z)with
  | true,some cs=>vS ty cs fun d=>Ob (fun u=>0<=n u/\n u<=140737488355328/\n u*uZ<=140737488355328)/\(n ()=0->K .aZ env E) /\
    (n ()≠0->fN (ah E) fun i=>iq (dm E (.aq e ty fun u=>List.replicate (n u).toNat (d u))) fun E=>K (.vec i sz (fun _=>0) (fun u=>(n u).toNat)) env E)
  | _,_=>False)
 | _,_,_,_=>False
def cr (b:Builtin) (ts:List Nat) (az:List AV) (env:Env) (E:List Chunk) (K:AV->Env->List Chunk->Prop):Prop :=
 match b with
 | .append=>(match ts,az with
  | [t,t2],[s,x]=>(match Nat.beq t t2,aS P t with
   | true,some (.slice e)=>(match gp P 6 e,iB P e,fQ P e with
    | some ty,some uZ,some z=>(match bR P e with
     | some sz=>(match Nat.beq sz ty.size with
      | true=>(match Nat.beq z.cells.size sz with
       | true=>I2 ty E x fun ys=>(match s with
        | .aZ=>Ob (fun u=>(ys u).length*uZ<=140737488355328)/\fN (ah E) fun n=>iq (dm E (.aq e ty ys)) fun E=>K (.vec n sz (fun _=>0) (fun u=>(ys u).length)) env E
        | .vec i s o n=>(match af E i with
         | .aq T t' xs=>(match decEq t' ty with
          | isTrue h=>(match Nat.beq s sz,Nat.beq T e with
           | true,true=>Ob (fun u=>o u=0/\n u+(ys u).length<=140737488355328/\(n u+(ys u).length)*uZ<=140737488355328) /\
            np h xs fun xs=>jC (ba (ku i) env) fun env=>iq (cT (ku i) (a8 E i (.aq e ty fun u=>(xs u).take (n u)++ys u))) fun E=>K (.vec i sz (fun _=>0) (fun u=>n u+(ys u).length)) env E
           | _,_=>False)
          | isFalse _=>False)
         | _=>False)
        | _=>False)
       | false=>False)
      | false=>False)
     | none=>False)
    | _,_,_=>False)
   | false,some (.slice e)=>(match s,x with
    | .aZ,.int .i64 n=>(match aS P t2 with|some (.int .i64)=>Mj P e n env E K|_=>False)
    | s,.str y=>(match aS P t2,gp P 6 e,bR P e,iB P e,fQ P e with
     | some .string,some (.int .u8),some 1,some 1,some (.int .u8 0)=>(match s with
      | .aZ=>Ob (fun u=>(y u).length<=140737488355328)/\fN (ah E) fun n=>iq (dm E (.aq e (.int .u8) fun u=>(y u).map fun b=>(b.toNat:Int))) fun E=>K (.vec n 1 (fun _=>0) (fun u=>(y u).length)) env E
      | .vec i 1 o n=>(match af E i with
       | .aq T (.int .u8) xs=>(match Nat.beq T e with
        | true=>Ob (fun u=>o u=0/\n u+(y u).length<=140737488355328) /\
         jC (ba (ku i) env) fun env=>iq (cT (ku i) (a8 E i (.aq e (.int .u8) fun u=>(xs u).take (n u)++(y u).map fun b=>(b.toNat:Int)))) fun E=>K (.vec i 1 (fun _=>0) (fun u=>n u+(y u).length)) env E
        | false=>False)
       | _=>False)
      | _=>False)
     | _,_,_,_,_=>False)
    | _,_=>False)
   | _,_=>False)
  | _,_=>False)
 | .copy=>(match ts,az with
  | t::_,[.vec i s o n,x]=>(match aS P t with
   | some (.slice e)=>(match bR P e with
    | some sz=>(match af E i with
     | .aq T ty xs=>(match Nat.beq sz ty.size with
      | true=>(match Nat.beq s sz with
       | true=>I2 ty E x fun ys=>iq (a8 E i (.aq T ty (lh xs o (fun u=>min (ys u).length (n u)) fun u=>(ys u).take (n u)))) fun E=>K (.int .i64 fun u=>(min (ys u).length (n u):Nat)) env E
       | false=>False)
      | false=>False)
     | _=>False)
    | none=>False)
   | _=>False)
  | _,_=>False)
 | .delete=>(match ts,az with
  | t::_,[.hm i f,.int .i64 n]=>(match af E i with
   | .heap h=>Mi P t n h f fun h'=>iq (a8 E i (.heap fun _=>h')) fun E=>K (.bQ []) env E
   | _=>False)
  | _,_=>False)
 | .unsafeString=>(match ts,az with
  | [pt,it],[.bg i 1 idx 0,.int .i64 m]=>(match aS P pt with
   | some (.pointer e)=>(match bR P e,af E i with
    | some 1,.aq T (.int .u8) xs=>(match Nat.beq T e with
     | true=>Ob (fun u=>idx u=0/\0<m u/\m u<=(xs u).length/\(xs u).length<=140737488355328/\(∀ z∈xs u,0<=z/\z<256)) /\
      jC (ba (ku i) env) fun env=>iq (cT (ku i) (a8 E i .none)) fun E=>K (.str fun u=>((xs u).take (m u).toNat).map fun z=>UInt8.ofNat z.toNat) env E
     | false=>False)
    | _,_=>False)
   | _=>False)
  | _,_=>False)
 | .clear=>(match ts,az with
  | t::_,[.vec i s o n]=>(match aS P t with
   | some (.slice e)=>(match bR P e,fQ P e with
    | some sz,some z=>(match af E i with
     | .aq T ty xs=>(match Nat.beq sz ty.size with
      | true=>(match Nat.beq s sz with
       | true=>(match Nat.beq z.cells.size sz with
        | true=>(match gF (xz z)with
         | some cs=>vS ty cs fun d=>iq (a8 E i (.aq T ty (lh xs o n fun u=>List.replicate (n u) (d u)))) fun E=>K (.bQ []) env E
         | none=>False)
        | false=>False)
       | false=>False)
      | false=>False)
     | _=>False)
    | _,_=>False)
   | _=>False)
  | _,_=>False)
 | _=>False
def BD (n:Int):List Int->Bool
 | []=>true|k::r=>(match decEq k n with|isTrue _=>false|isFalse _=>BD n r)
def vZ (t:Nat) (k:IntKind) (n:Int) (m x:AV) (env:Env) (E:List Chunk) (K:AV->Env->List Chunk->Prop):Prop :=
 match m with
 | .mp i=>(match aS P t,af E i with
  | some (.map kt _),.jd k' ks vs=>(match aS P kt,decEq k k',BD n ks with
   | some (.int _),isTrue _,true=>iq (a8 E i (.jd k' (ks++[n]) (vs++[x]))) fun E=>K .skip env E
   | _,_,_=>False)
  | _,_=>False)
 | _=>False
def eV (op:Op) (env:Env) (E:List Chunk) (K:AV->Env->List Chunk->Prop):Prop :=
 match op with
 | .alloc e=>(match fQ P e with
  | some z=>(match gF (xz z)with
   | some cs=>fL cs fun cs=>fN (ah E) fun n=>iq (dm E (.cells e cs)) fun E=>K (.ptr n 0) env E
   | none=>False)
  | none=>False)
 | .box e x=>(match gF (ev env x)with
  | some cs=>fN (ah E) fun n=>iq (dm E (.cells e cs)) fun E=>K (.ptr n 0) env E
  | none=>False)
 | .store t x v=>(match gF (ev env v)with
  | some cs=>(match bR P t with
   | some sz=>(match Nat.beq cs.length sz,Sq cs with
    | true,true=>(match ev env x with
     | .ptr i g=>(match af E i with
      | .cells T ds=>(match k8 g ds cs with|some ds=>fL ds fun ds=>iq (a8 E i (.cells T ds)) fun E=>K .skip env E|none=>False)
      | _=>False)
     | .bg i s j g=>su 3 env E (.bg i s j g::cs) fun env E l=>(match l with
      | .bg i s j g::cs=>(match af E i with
       | .aq T ty xs=>(match Nat.beq ty.size s with
        | true=>(match k8 g (enc ty (fun u=>(xs u).getD (j u) ty.bA) []) cs with
         | some ds=>vS ty ds fun y=>iq (a8 E i (.aq T ty fun u=>(xs u).set (j u) (y u))) fun E=>K .skip env E
         | none=>False)
        | false=>False)
       | .row T ty xs=>(match Nat.beq ty.size s with
        | true=>(match k8 g (enc ty (fun u=>(xs u).getD (j u) ty.bA) []) cs with
         | some ds=>vS ty ds fun y=>iq (a8 E i (.row T ty fun u=>(xs u).set (j u) (y u))) fun E=>K .skip env E
         | none=>False)
        | false=>False)
       | _=>False)
      | _=>False)
     | .hp i f=>(match cs,af E i with
      | [c],.heap h=>z8 i c h f fun h'=>iq (a8 E i (.heap fun _=>h')) fun E=>K .skip env E
      | _,_=>False)
     | _=>False)
    | _,_=>False)
   | none=>False)
  | none=>False)
 | .buildSlice t len parts=>(match aS P t with
  | some (.slice e)=>(match bR P e,fQ P e,nP env parts.toList with
   | some sz,some z,some ps=>(match Nat.ble len 1000,Nat.ble sz 1000 with
    | true,true=>(match gF (xz z)with
     | some zc=>(match Nat.beq zc.length sz,nq (fun i=>some (i*sz,sz)) ((List.replicate len zc).flatten) ps with
      | true,some cs=>fL cs fun cs=>(match gp P 6 e with
       | some ty=>(match Nat.beq ty.size sz with
        | true=>su 8 env E cs fun env E cs=>Ft ty len cs fun xs=>fN (ah E) fun n=>iq (dm E (.aq e ty xs)) fun E=>K (.vec n sz (fun _=>0) (fun _=>len)) env E
        | false=>False)
       | none=>fN (ah E) fun n=>iq (dm E (.cells e cs)) fun E=>K (.vec n sz (fun _=>0) (fun _=>len)) env E)
      | _,_=>False)
     | none=>False)
    | _,_=>False)
   | _,_,_=>False)
  | _=>False)
 | .makeMap t none=>(match aS P t with
  | some (.map kt _)=>(match aS P kt with
   | some (.int k)=>fN (ah E) fun n=>iq (dm E (.jd k [] [])) fun E=>K (.mp n) env E
   | _=>False)
  | _=>False)
 | .insert t m (.const (.int k n)) x=>vZ P t k n (ev env m) (ev env x) env E K
 | .mapUpdate t m k x=>(match ev env m,ev env k with
  | .hm i f,.int .i64 n=>(match af E i with
   | .heap h=>Mh P t i n (ev env x) h f fun h'=>iq (a8 E i (.heap fun _=>h')) fun E=>K .skip env E
   | _=>False)
  | _,_=>False)
 | .range t x=>Fq P t (ev env x) env E K
 | .next x false=>K3 (ev env x) env E K
 | .entry x=>Fs (ev env x) env E K
 | .makeSlice t l c=>(match ev env l,ev env c with
  | .int .i64 l,.int .i64 c=>(match aS P t with
   | some (.slice e)=>(match gp P 6 e,bR P e,iB P e,fQ P e with
    | some ty,some sz,some uZ,some z=>(match Nat.beq ty.size sz with
     | true=>(match gF (xz z)with
      | some cs=>vS ty cs fun d=>Ob (fun u=>0<=l u/\l u<=c u/\c u<=281474976710656/\uZ*c u<=281474976710656)/\fN (ah E) fun n=>iq (dm E (.aq e ty fun u=>List.replicate (l u).toNat (d u))) fun E=>K (.vec n sz (fun _=>0) (fun u=>(l u).toNat)) env E
      | none=>False)
     | false=>False)
    | _,_,_,_=>False)
   | _=>False)
  | _,_=>False)
 | .convert src dst x=>(match aS P dst,ev env x with
  | some (.slice e),.str s=>(match aS P e with
   | some (.int .u8)=>Ob (fun u=>(s u).length<=140737488355328)/\K (.aL (.int .u8) fun u=>(s u).map fun b=>(b.toNat:Int)) env E
   | _=>False)
  | _,_=>False)
 | .call { callee:=.builtin b,args,argTypes }=>cr P b argTypes.toList (p9 env args.toList) env E K
 | _=>False
end
end Go.Proofs.YthnefnlhcijekaaGreat.Fw
namespace Go.Proofs.YthnefnlhcijekaaGreat.Fw
open Go Go.RowKit
structure ja (a b:World):Prop where
 o:b.output=a.output
 d:a.drawn<=b.drawn
theorem ja.trans {a b c:World} (h:ja b c) (h':ja a b):ja a c:=⟨h.o.trans h'.o,aaA h'.d h.d⟩
theorem ja.refl (a:World):ja a a:=⟨rfl,Z8 _⟩
structure bS where
 g:Gh
 E:List Chunk
 w:World
def bS.owns (B:bS) (b:Nat):Prop:=∃ i,(af B.E i).own B.g i b
theorem jD {E:List Chunk} {i:Nat} (h:c8 (af E i)=true):i<ah E:=dI (fun e=>by rw[e]at h;cases h)
def Iy:Chunk->Bool
 | .aq _ _ _=>true|.iZ _ _=>true|_=>false
theorem Aa {c:Chunk} (h:c8 c=true):Iy c=false:=by cases c <;> first|rfl|cases h
theorem rX (f:AV->AV) (c:Chunk):Iy (dg f c)=Iy c:=by cases c <;> rfl
def Pu:Chunk->Bool
 | .iZ _ _=>true|_=>false
theorem Fu {E' E:List Chunk} (h1:∀ i T' t xs,c8 (af E' i)=true->af E i=.aq T' t xs->False) (h2:∀ i T cs,c8 (af E' i)=true->af E i=.iZ T cs->False):∀ i,c8 (af E' i)=true->Iy (af E i)=false:=fun i hi=>by
 cases hc:af E i with
 | aq T t xs=>exact(h1 i T t xs hi hc).elim
 | iZ T cs=>exact(h2 i T cs hi hc).elim
 | none=>rfl
 | cells _ _=>rfl
 | count _=>rfl
 | jd _ _ _=>rfl
 | row _ _ _=>rfl
 | heap _=>rfl
 | je _ _ _ _=>rfl
 | bq _=>rfl
theorem jg {c:Chunk} {T:TypeId} {t:Ty} {xs:Unit->List t.den} (h:Iy c=false) (e:c=.aq T t xs):False:=by subst e;cases h
theorem sv {c:Chunk} {T:TypeId} {cs:List AV} (h:Iy c=false) (e:c=.iZ T cs):False:=by subst e;cases h
structure Ext (B:bS) (g:Gh) (E:List Chunk) (w:World):Prop where
 os:w.os=B.w.os
 tape:w.tape=B.w.tape
 output:ja B.w w
 size:B.w.heap.size<=w.heap.size
 cz:∀ b,b<B.w.heap.size->¬B.owns b->w.heap[b]?=B.w.heap[b]?
 dn:∀ b o,B.g.Φ b=some o->g.Φ b=some o
 fz:∀ b o,g.Φ b=some o->B.g.Φ b=some o\/B.w.heap.size<=b\/B.owns b
 own:∀ i b,(af E i).own g i b->B.w.heap.size<=b\/B.owns b
 n:ah B.E<=g.n
 ids:∀ i,c8 (af B.E i)=true->g.B i=B.g.B i/\g.V i=B.g.V i/\g.L i=B.g.L i
 kk:g.k=B.g.k
 mY:∀ i,c8 (af B.E i)=true->Iy (af E i)=false
 rC:∀ i k,c8 (af B.E i)=true->k<B.g.M i->g.W i k=B.g.W i k
 qi:∀ i,c8 (af B.E i)=true->B.g.M i<=g.M i
structure Inv (B:bS) (g:Gh) (env:Env) (E:List Chunk) (tmps:Array Value) (w:World):Prop where
 er:ER g env tmps
 aW:eE g E w
 ext:Ext B g E w
structure qj (w w':World) (b:Nat) (o:Obj):Prop where
 os:w'.os=w.os
 tape:w'.tape=w.tape
 output:ja w w'
 size:w'.heap.size=w.heap.size
 at_:w'.heap[b]?=some o
 kV:∀ k,k≠b->w'.heap[k]?=w.heap[k]?
structure sw (w w':World) (o:Obj):Prop where
 os:w'.os=w.os
 tape:w'.tape=w.tape
 output:ja w w'
 size:w'.heap.size=w.heap.size+1
 at_:w'.heap[w.heap.size]?=some o
 kV:∀ k,k<w.heap.size->w'.heap[k]?=w.heap[k]?
structure xR (w w':World):Prop where
 os:w'.os=w.os
 tape:w'.tape=w.tape
 output:ja w w'
 heap:w'.heap=w.heap
theorem sw.push (w:World) (o:Obj):sw w { w with heap:=w.heap.push o } o :=
 ⟨rfl,rfl,⟨rfl,Z8 _⟩,by simp,by simp,fun k hk=>by show(w.heap.push o)[k]?=_;rw[Array.getElem?_push,ZY (by omega)]⟩
theorem bo {w:World} {b:Nat} {o:Obj} (h:w.heap[b]?=some o):b<w.heap.size:=(acR.1 h).1
theorem eQ {g:Gh} {i:Nat} {w:World} {c:Chunk} {b:Nat} (h:c.sat g i w) (hb:c.own g i b):b<w.heap.size:=by
 cases c with
 | none=>cases hb
 | cells T cs=>obtain⟨vs,h1,_⟩:=h;cases hb;exact bo h1
 | aq T t xs =>
  obtain⟨_,_,h3⟩:=h;cases hV:g.V i with
  | none=>simp[Chunk.own,hV]at hb
  | some cap =>
   obtain⟨vs,h4,_⟩:=h3 cap hV;simp[Chunk.own,hV]at hb;subst hb;exact bo h4
 | row T t xs =>
  obtain⟨_,_,h3⟩:=h;cases hV:g.V i with
  | none=>simp[Chunk.own,hV]at hb
  | some cap =>
   obtain⟨vs,h4,_⟩:=h3 cap hV;simp[Chunk.own,hV]at hb;subst hb;exact bo h4
 | count k=>cases hb
 | jd k ks us=>obtain⟨es,cl,h1,_⟩:=h;cases hb;exact bo h1
 | heap hp =>
  obtain⟨k,hk,rfl⟩:=hb;obtain⟨ob,h1,_⟩:=h.2.2 k hk;exact bo h1
 | je x a b l=>obtain⟨r,_,h1⟩:=h;cases hb;exact bo h1
 | iZ T cs=>obtain⟨vs,h1,_⟩:=h;cases hb;exact bo h1
 | bq q=>obtain⟨k,hk⟩:=hb;obtain⟨o,ho,_⟩:=h.2.1 b k hk;exact bo ho
def Ac:Chunk->Bool
 | .heap _=>false|.bq _=>false|_=>true
theorem I3 {g:Gh} {i:Nat} {c:Chunk} {b b':Nat} (h:Ac c=true) (hb:c.own g i b) (dw:c.own g i b'):b=b':=by
 cases c with
 | none=>cases hb
 | cells T cs=>exact aci (Eq.symm hb) dw
 | aq T t xs=>exact hb.2.symm.trans dw.2
 | row T t xs=>exact hb.2.symm.trans dw.2
 | count k=>cases hb
 | jd k ks us=>exact aci (Eq.symm hb) dw
 | heap hp=>cases h
 | je x a b l=>exact aci (Eq.symm hb) dw
 | iZ T cs=>exact aci (Eq.symm hb) dw
 | bq q=>cases h
section
variable {B:bS} {g:Gh} {env:Env} {E:List Chunk} {tmps:Array Value} {w w':World}
theorem eE.same (h:eE g E w) (hw:w'.heap=w.heap):eE g E w' :=
 ⟨h.len,fun b o hb=>by rw[hw];exact h.dn b o hb,fun i=>Chunk.fj (fun _ _ _ h=>h) (fun _ _ h=>h) rfl rfl rfl rfl rfl rfl (fun b _=>by rw[hw]) (h.sat i),h.lf,h.dE⟩
theorem Ext.same (h:Ext B g E w) (hw:xR w w'):Ext B g E w' :=
 ⟨hw.os.trans h.os,hw.tape.trans h.tape,hw.output.trans h.output,by rw[hw.heap];exact h.size,fun b h1 h2=>by rw[hw.heap];exact h.cz b h1 h2,h.dn,h.fz,h.own,h.n,h.ids,h.kk,h.mY,h.rC,h.qi⟩
theorem Inv.same (h:Inv B g env E tmps w) (hw:xR w w'):Inv B g env E tmps w':=⟨h.er,h.aW.same hw.heap,h.ext.same hw⟩
theorem ER.put (h:ER g env tmps) {d:Nat} {v:AV} {u:Value} (hr:R g v u) (hd:d<tmps.size):ER g ((d,v)::env) (tmps.setIfInBounds d u):=by
 intro t;simp only[look];split
 .rename_i hb
  have:d=t:=Z3 hb;subst this;simpa [hd]using hr
 .rename_i hb
  have bC:d≠t:=fun e=>by subst e;simp at hb
  have:=h t;rw[aan]at this ⊢;rwa [abB bC]
theorem Inv.put (h:Inv B g env E tmps w) {d:Nat} {v:AV} {u:Value} (hr:R g v u) (hd:d<tmps.size):Inv B g ((d,v)::env) E (tmps.setIfInBounds d u) w:=⟨h.er.put hr hd,h.aW,h.ext⟩
theorem ER.mono {g':Gh} (h:ER g env tmps) (hg:g.le g'):ER g' env tmps:=fun t=>(h t).mono hg
def Gh.add (g:Gh) (b:Nat) (v:Option Nat) (l:Nat):Gh :=
 { n:=g.n+1,Φ:=g.Φ,B:=fun i=>if i=g.n then b else g.B i,V:=fun i=>if i=g.n then v else g.V i,L:=fun i=>if i=g.n then l else g.L i,k:=g.k,W:=g.W,M:=g.M }
theorem Gh.jE (g:Gh) (b:Nat) (v:Option Nat) (l:Nat):g.le (g.add b v l) :=
 ⟨abQ _,fun _ _ h=>h,fun i hi=>by simp[Gh.add,Nat.ne_of_lt hi],fun i hi=>by simp[Gh.add,Nat.ne_of_lt hi],fun i hi=>by simp[Gh.add,Nat.ne_of_lt hi],rfl,fun _ _ _ _=>rfl,fun _ _=>Z8 _⟩
theorem Inv.new (h:Inv B g env E tmps w) {c:Chunk} {b:Nat} {v:Option Nat} {l:Nat} (Pv:w'.os=w.os) (Fv:w'.tape=w.tape) (xS:ja w w') (cu:w.heap.size<=w'.heap.size)
  (sx:∀ k,k<w.heap.size->w'.heap[k]?=w.heap[k]?) (hc:c.sat (g.add b v l) g.n w') (hb:∀ b',c.own (g.add b v l) g.n b'->w.heap.size<=b') :
  Inv B (g.add b v l) env (dm E c) tmps w':=by
 have hle:=g.jE b v l;have hlen:=h.aW.len;have nt:∀ i,i<g.n->(af (dm E c) i)=af E i:=fun i hi=>by rw[lA,ZY (by omega)]
 have new:af (dm E c) g.n=c:=by rw[lA,Z0 (by omega)]
 have out:∀ i,g.n<i->af (dm E c) i=.none:=fun i hi=>by rw[lA,ZY (by omega)];exact kr _ _ (by omega)
 have Ad:∀ i,i<g.n->∀ (d:Chunk) b',d.own (g.add b v l) i b'=d.own g i b':=fun i hi d b'=>Chunk.qh (hle.B i hi) (hle.V i hi) rfl rfl;have K4:∀ i b',i<g.n->(af E i).own g i b'->b'<w.heap.size:=fun i b' _ dw=>eQ (h.aW.sat i) dw;refine⟨h.er.mono hle,⟨by rw[lB];simp[Gh.add,hlen],fun b' o dw=>?_,fun i=>?_,fun i j b' hi hj=>?_,fun i b' hi=>?_⟩,⟨Pv.trans h.ext.os,Fv.trans h.ext.tape,xS.trans h.ext.output,aaA h.ext.size cu,fun b' h1 h2=>?_,h.ext.dn,h.ext.fz,fun i b' hi=>?_,aaA h.ext.n (abQ _),fun i hi=>?_,h.ext.kk,fun i hi=>?_,h.ext.rC,h.ext.qi⟩⟩
 .have:=h.aW.dn b' o dw
  rw[sx b' (bo this)];exact this
 .rcases abr i g.n with hi|hi|hi
  .rw[nt i hi]
   exact Chunk.fj (fun _ _ _ h=>h.mono hle.dn) (fun _ _ h=>h.mono hle) (hle.B i hi) (hle.V i hi) (hle.L i hi) hle.k rfl rfl (fun b' dw=>sx b' (K4 i b' hi dw)) (h.aW.sat i)
  .subst hi;rw[new];exact hc
  .rw[out i hi];trivial
 .have key:∀ i b',(af (dm E c) i).own (g.add b v l) i b'->(i<g.n/\(af E i).own g i b'/\b'<w.heap.size)\/(i=g.n/\w.heap.size<=b'):=by
   intro i b' hi;rcases abr i g.n with h'|h'|h'
   .rw[nt i h',Ad i h']at hi;exact .inl ⟨h',hi,K4 i b' h' hi⟩
   .subst h';rw[new]at hi;exact .inr ⟨rfl,hb b' hi⟩
   .rw[out i h']at hi;cases hi
  rcases key i b' hi with⟨h1,h2,h3⟩|⟨h1,h2⟩ <;> rcases key j b' hj with⟨h4,h5,h6⟩|⟨h4,h5⟩
  .exact h.aW.lf i j b' h2 h5
  .omega
  .omega
  .omega
 .show g.Φ b'=Option.none
  rcases abr i g.n with h'|h'|h'
  .rw[nt i h',Ad i h']at hi;exact h.aW.dE i b' hi
  .subst h'
   rw[new]at hi;have:=hb b' hi;cases hp:g.Φ b' with
   | none=>rfl
   | some o=>have:=bo (h.aW.dn b' o hp);omega
  .rw[out i h']at hi;cases hi
 .rw[sx b' (aag h1 h.ext.size)];exact h.ext.cz b' h1 h2
 .rcases abr i g.n with h'|h'|h'
  .rw[nt i h',Ad i h']at hi;exact h.ext.own i b' hi
  .subst h';rw[new]at hi;exact .inl (aaA h.ext.size (hb b' hi))
  .rw[out i h']at hi;cases hi
 .have bf:i<g.n:=aag (jD hi) h.ext.n
  rw[hle.B i bf,hle.V i bf,hle.L i bf];exact h.ext.ids i hi
 .have bf:i<g.n:=aag (jD hi) h.ext.n
  rw[nt i bf];exact h.ext.mY i hi
theorem Inv.Pw (h:Inv B g env E tmps w) {i:Nat} {b:Nat} {o:Obj} {c:Chunk} (hb:(af E i).own g i b) (hw:qj w w' b o) (hc:c.sat g i w') (qk:∀ b',c.own g i b'->(af E i).own g i b') (hk:∀ T t xs,c=.aq T t xs->∃ T' t' Iz,af E i=.aq T' t' Iz) (Fx:Pu c=false:=by rfl):Inv B g env (a8 E i c) tmps w':=by
 have hi:i<ah E:=z7 hb;have hblk:∀ j b',(af (a8 E i c) j).own g j b'->(af E j).own g j b':=by
  intro j b' hj;rw[bx]at hj;split at hj
  .rename_i cx;rw[<-cx.1]at hj ⊢;exact qk b' hj
  .exact hj
 refine⟨h.er,⟨by rw[b8];exact h.aW.len,fun b' o' dw=>?_,fun j=>?_,fun j k b' hj hk=>?_,fun j b' hj=>?_⟩,⟨hw.os.trans h.ext.os,hw.tape.trans h.ext.tape,hw.output.trans h.ext.output,by rw[hw.size];exact h.ext.size,fun b' h1 h2=>?_,h.ext.dn,h.ext.fz,fun j b' hj=>?_,h.ext.n,h.ext.ids,h.ext.kk,fun j hj=>?_,h.ext.rC,h.ext.qi⟩⟩
 .have bC:b'≠b:=fun e=>by subst e;rw[h.aW.dE i b' hb]at dw;cases dw
  rw[hw.kV b' bC];exact h.aW.dn b' o' dw
 .rw[bx]
  split
  .rename_i cx;rw[<-cx.1];exact hc
  .rename_i cx
   refine Chunk.fj (fun _ _ _ h=>h) (fun _ _ h=>h) rfl rfl rfl rfl rfl rfl (fun b' dw=>?_) (h.aW.sat j);refine hw.kV b' (fun e=>?_);subst e;exact cx ⟨h.aW.lf i j b' hb dw,hi⟩
 .exact h.aW.lf j k b' (hblk _ _ hj) (hblk _ _ hk)
 .exact h.aW.dE j b' (hblk _ _ hj)
 .have bC:b'≠b:=fun e=>by
   subst e;rcases h.ext.own i b' hb with h3|h3
   .omega
   .exact h2 h3
  rw[hw.kV b' bC];exact h.ext.cz b' h1 h2
 .exact h.ext.own j b' (hblk _ _ hj)
 .rw[bx]
  split
  .rename_i cx
   have Xg:=h.ext.mY j hj;cases c with
   | aq T t xs =>
    obtain⟨T2,t2,Zs,h2⟩:=hk _ _ _ rfl;rw[cx.1]at h2;exact(jg Xg h2).elim
   | iZ T cs=>cases Fx
   | bq q=>rfl
   | none=>rfl
   | cells _ _=>rfl
   | count _=>rfl
   | jd _ _ _=>rfl
   | row _ _ _=>rfl
   | heap _=>rfl
   | je _ _ _ _=>rfl
  .exact h.ext.mY j hj
theorem Inv.set (h:Inv B g env E tmps w) {i:Nat} {b:Nat} {o:Obj} {c:Chunk} (hb:(af E i).own g i b) (hw:qj w w' b o) (hc:c.sat g i w') (qk:c.own g i b) (hk:∀ T t xs,c=.aq T t xs->∃ T' t' Iz,af E i=.aq T' t' Iz) (h1:Ac c=true:=by rfl) (Fx:Pu c=false:=by rfl):Inv B g env (a8 E i c) tmps w' :=
 h.Pw hb hw hc (fun b' dw=>by rw[<-I3 h1 qk dw];exact hb) hk Fx
theorem HO.lD {g:Gh} {i:Nat} {o o':HO} {ob:Obj} (hl:o'.dN o) (h:o.sat g i ob):o'.sat g i ob:=by
 cases o <;> cases o' <;> simp only[HO.dN]at hl
 .obtain⟨rfl,rfl,h1⟩:=hl
  obtain⟨vs,rfl,h2,h3⟩:=h;exact⟨vs,rfl,h2,fun j u hu=>by rw[h1 j (by have:=(acR.1 hu).1;omega)];exact h3 j u hu⟩
 .obtain⟨rfl,rfl⟩:=hl;exact h
theorem Inv.dZ (h:Inv B g env E tmps w) {i k:Nat} {ob:Obj} {o:HO} {hp:Unit->Hp} {h':Hp} (hE:af E i=.heap hp) (hk:k<g.M i) (hw:qj w w' (g.W i k) ob) (ho:o.sat g i ob) (hl:h'.dN ((hp ()).set k o)) :
  Inv B g env (a8 E i (.heap fun _=>h')) tmps w':=by
 have hs:=h.aW.sat i;rw[hE]at hs;obtain⟨h1,h2,h3⟩:=hs;have cO:∀ k,k<g.M i->(af E i).own g i (g.W i k):=fun k hk=>by rw[hE];exact⟨k,hk,rfl⟩
 refine h.Pw (cO k hk) hw ⟨h1.trans hl.1.symm,h2,fun j hj=>?_⟩ (fun b' dw=>by rw[hE];exact dw) (fun T t xs hc=>by cases hc);have VJ:=hl.2 j (by rw[hl.1];show j<(hp ()).m;omega);by_cases Tl:j=k
 .subst Tl
  refine⟨ob,hw.at_,HO.lD VJ ?_⟩;simpa [Hp.set]using ho
 .obtain⟨Fy,h4,h5⟩:=h3 j hj
  refine⟨Fy,by rw[hw.kV _ (fun e=>Tl (h2 _ _ hj hk e))];exact h4,HO.lD VJ ?_⟩;simpa [Hp.set,Tl]using h5
theorem Inv.Dr {g':Gh} (h:Inv B g env E tmps w) (f:AV->AV) {i:Nat} {c:Chunk} (Sr:∃ T t xs,af E i=.aq T t xs) (hn:g'.n=g.n) (VK:g'.k=g.k) (hW:g'.W=g.W) (hM:g'.M=g.M) (hΦ:∀ b o,g.Φ b=some o->g'.Φ b=some o)
  (hf:∀ v u,isRef v=true->R g v u->R g' (f v) u) (hi:i<ah E) (hB:∀ j,j≠i->g'.B j=g.B j/\g'.V j=g.V j/\g'.L j=g.L j)
  (Pv:w'.os=w.os) (Fv:w'.tape=w.tape) (xS:ja w w') (cu:w.heap.size<=w'.heap.size)
  (sx:∀ k,k<w.heap.size->(∀ b,(af E i).own g i b->k≠b)->w'.heap[k]?=w.heap[k]?)
  (hc:(dg f c).sat g' i w') (qk:∀ b,c.own g' i b->w.heap.size<=b\/(af E i).own g i b)
  (nW:∀ b o,g'.Φ b=some o->g.Φ b=some o\/((af E i).own g i b/\w'.heap[b]?=some o/\¬c.own g' i b)) :
  Inv B g' (ba f env) (cT f (a8 E i c)) tmps w':=by
 have Tn:∀ (g:Gh) (j:Nat) (c:Chunk) b,(dg f c).own g j b=c.own g j b:=fun g j c b=>by cases c <;> rfl
 have cL:∀ j,af (cT f (a8 E i c)) j=if i=j then dg f c else dg f (af E j):=by
  intro j;rw[fi,bx];by_cases cx:i=j
  .subst cx;simp[hi]
  .simp[cx]
 have hblk:∀ j b,(af (cT f (a8 E i c)) j).own g' j b=if i=j then c.own g' i b else(af E j).own g j b:=by
  intro j b;rw[cL];by_cases cx:i=j
  .subst cx;simp[Tn]
  .have:=hB j (Ne.symm cx)
   simp[cx,Tn,Chunk.qh (b:=b) this.1 this.2.1 (congrFun hW j) (congrFun hM j)]
 have iE:∀ j b,i≠j->(af E j).own g j b->∀ b',(af E i).own g i b'->b≠b':=by
  intro j b cx hj b' dw e;subst e;exact cx (h.aW.lf i j b dw hj)
 refine⟨fun t=>?_,⟨by rw[dY,b8,hn];exact h.aW.len,fun b o hb=>?_,fun j=>?_,fun j k b hj hk=>?_,fun j b hj=>?_⟩,⟨Pv.trans h.ext.os,Fv.trans h.ext.tape,xS.trans h.ext.output,aaA h.ext.size cu,fun b h1 h2=>?_,fun b o hb=>hΦ b o (h.ext.dn b o hb),fun b o hb=>?_,fun j b hj=>?_,by rw[hn];exact h.ext.n,fun j hj=>?_,VK.trans h.ext.kk,fun j hj=>?_,fun j k hj hk=>by rw[hW];exact h.ext.rC j k hj hk,fun j hj=>by rw[hM];exact h.ext.qi j hj⟩⟩
 .rw[cU];exact(h.er t).map f hΦ hf
 .rcases nW b o hb with hb|⟨_,hb,_⟩
  .have hs:=h.aW.dn b o hb
   rw[sx b (bo hs) (fun b' dw e=>by subst e;rw[h.aW.dE i b dw]at hb;cases hb)];exact hs
  .exact hb
 .rw[cL]
  by_cases cx:i=j
  .subst cx;simpa using hc
  .simp only[cx,if_false]
   have Dt:=hB j (Ne.symm cx);have hs:=h.aW.sat j;have xT:∀ b,(af E j).own g j b->w'.heap[b]?=w.heap[b]?:=fun b hb=>sx b (eQ hs hb) (fun b' dw=>iE j b cx hb b' dw);cases I4:af E j with
   | none=>trivial
   | cells T cs =>
    rw[I4]at hs xT;obtain⟨vs,h1,h2⟩:=hs;exact⟨vs,by rw[Dt.1,xT _ rfl];exact h1,h2.map f hΦ hf⟩
   | aq T t xs =>
    rw[I4]at hs xT;obtain⟨h1,h2,h3⟩:=hs;refine⟨by rw[Dt.2.2];exact h1,by rw[Dt.2.1];exact h2,fun cap cS=>?_⟩;rw[Dt.2.1]at cS;obtain⟨vs,h4,h5,h6,h7⟩:=h3 cap cS;exact⟨vs,by rw[Dt.1,xT _ (by simp[Chunk.own,cS])];exact h4,h5,h6,fun k x hx=>(h7 k x hx).im hΦ⟩
   | row T t xs =>
    rw[I4]at hs xT;obtain⟨h1,h2,h3⟩:=hs;refine⟨by rw[Dt.2.2];exact h1,by rw[Dt.2.1];exact h2,fun cap cS=>?_⟩;rw[Dt.2.1]at cS;obtain⟨vs,h4,h5,h6,h7⟩:=h3 cap cS;exact⟨vs,by rw[Dt.1,xT _ (by simp[Chunk.own,cS])];exact h4,h5,h6,fun k x hx=>(h7 k x hx).im hΦ⟩
   | count k=>rw[I4]at hs;exact hs.trans VK.symm
   | jd k ks us =>
    rw[I4]at hs xT;obtain⟨es,cl,h1,h2,h3⟩:=hs;exact⟨es,cl,by rw[Dt.1,xT _ rfl];exact h1,h2,h3.map f hΦ hf⟩
   | heap hp =>
    rw[I4]at hs xT;obtain⟨h1,h2,h3⟩:=hs;refine⟨by rw[hM];exact h1,by rw[hM,hW];exact h2,fun k hk=>?_⟩;rw[hM]at hk;obtain⟨ob,h4,h5⟩:=h3 k hk;refine⟨ob,by rw[hW,xT _ ⟨k,hk,rfl⟩];exact h4,HO.lC (HV.rW (fun _ _ _ h=>h.mono hΦ) (fun h=>by rw[hn];exact h) (fun _ k _=>by rw[hW]) (fun _=>by rw[hM];exact Z8 _)) h5⟩
   | iZ T cs =>
    rw[I4]at hs xT;obtain⟨vs,h1,h2⟩:=hs;exact⟨vs,by rw[Dt.1,xT _ rfl];exact h1,h2.map f hΦ hf⟩
   | bq q =>
    rw[I4]at hs xT;obtain⟨h1,h2,h3⟩:=hs;refine⟨by rw[hM];exact h1,fun b k hk=>?_,?_⟩
    .rw[hW]at hk;rw[xT b ⟨k,hk⟩];exact h2 b k hk
    .rw[Dt.1,hW]
     exact q.mono _ _ _ _ _ _ (Mg fun _ _ _ h=>h.mono hΦ) (fun b hb=>xT b hb) h3
   | je x a b l =>
    rw[I4]at hs xT;obtain⟨r,h1,h2⟩:=hs;exact⟨r,h1.map f hΦ hf,by rw[Dt.1,xT _ rfl];exact h2⟩
 .rw[hblk]at hj hk
  by_cases cx:i=j <;> by_cases Du:i=k
  .exact cx.symm.trans Du
  .subst cx
   simp only[if_true,Du,if_false]at hj hk;rcases qk b hj with h3|h3
   .have:=eQ (h.aW.sat k) hk;omega
   .exact(Du (h.aW.lf i k b h3 hk)).elim
  .subst Du
   simp only[if_true,cx,if_false]at hj hk;rcases qk b hk with h3|h3
   .have:=eQ (h.aW.sat j) hj;omega
   .exact(cx (h.aW.lf i j b h3 hj)).elim
  .simp only[cx,Du,if_false]at hj hk;exact h.aW.lf j k b hj hk
 .rw[hblk]at hj
  cases hp:g'.Φ b with
  | none=>rfl
  | some o =>
   exfalso;by_cases cx:i=j
   .subst cx
    simp only[if_true]at hj;rcases nW b o hp with h3|⟨h3,_,h4⟩
    .rcases qk b hj with h5|h5
     .have:=bo (h.aW.dn b o h3);omega
     .rw[h.aW.dE i b h5]at h3;cases h3
    .exact h4 hj
   .simp only[cx,if_false]at hj
    rcases nW b o hp with h3|⟨h3,_,_⟩
    .rw[h.aW.dE j b hj]at h3;cases h3
    .exact cx (h.aW.lf i j b h3 hj)
 .have bC:∀ b',(af E i).own g i b'->b≠b':=fun b' dw e=>by
   subst e;rcases h.ext.own i b dw with h3|h3
   .omega
   .exact h2 h3
  rw[sx b (aag h1 h.ext.size) bC];exact h.ext.cz b h1 h2
 .rcases nW b o hb with h3|⟨h3,_,_⟩
  .exact h.ext.fz b o h3
  .exact .inr (h.ext.own i b h3)
 .rw[hblk]at hj
  by_cases cx:i=j
  .subst cx
   simp only[if_true]at hj;rcases qk b hj with h3|h3
   .exact .inl (aaA h.ext.size h3)
   .exact h.ext.own i b h3
  .simp only[cx,if_false]at hj;exact h.ext.own j b hj
 .obtain⟨T1,t1,Xh,Pm⟩:=Sr
  have cx:j≠i:=fun e=>by subst e;exact jg (h.ext.mY j hj) Pm
  rw[(hB j cx).1,(hB j cx).2.1,(hB j cx).2.2];exact h.ext.ids j hj
 .obtain⟨T1,t1,Xh,Pm⟩:=Sr
  by_cases cx:i=j
  .subst cx;exact(jg (h.ext.mY i hj) Pm).elim
  .rw[cL];simp only[cx,if_false];rw[rX];exact h.ext.mY j hj
end
def Data (g:Gh) (t:Ty) (xs:List t.den) (us:List Value):Prop :=
 us.length=xs.length*t.size/\∀ (k:Nat) (x:t.den),xs[k]?=some x->RL g (enc t (fun _=>x) []) ((us.drop (k*t.size)).take t.size)
theorem xU (u us:List Value) (n:Nat):(u++us).drop (u.length+n)=us.drop n:=by
 rw[<-acq,List.drop_left]
theorem Data.nil (g:Gh) (t:Ty):Data g t [] []:=⟨by simp,fun k x h=>by simp at h⟩
theorem Data.cons {g:Gh} {t:Ty} {x:t.den} {xs:List t.den} {u us:List Value} (h:RL g (enc t (fun _=>x) []) u) (hs:Data g t xs us):Data g t (x::xs) (u++us):=by
 have hl:u.length=t.size:=by rw[<-h.length,bt]
 refine⟨by rw[aab,hs.1,hl,Z9,aaQ];omega,fun k y hk=>?_⟩;cases k with
 | zero =>
  simp at hk;subst hk;rw[Nat.zero_mul,aah,<-hl,List.take_left];exact h
 | succ k =>
  have:=hs.2 k y (by simpa using hk);rw[show(k+1)*t.size=u.length+k*t.size by rw[aaQ,hl];omega,xU];exact this
theorem Data.append {g:Gh} {t:Ty}:∀ {xs ys:List t.den} {us vs:List Value},Data g t xs us->Data g t ys vs->Data g t (xs++ys) (us++vs):=by
 intro xs ys us vs h h';refine⟨by rw[aab,h.1,h'.1,aab,aaQ],fun k y hk=>?_⟩;rcases Nat.lt_or_ge k xs.length with bf|xV
 .rw[ab1 bf]at hk
  have h1:k*t.size+t.size<=us.length:=by rw[h.1,<-acJ];exact aav _ bf
  rw[List.drop_append_of_le_length (by omega),List.take_append_of_le_length (by rw[aar];omega)];exact h.2 k y hk
 .rw[abZ xV]at hk
  have:=h'.2 _ y hk;have e:k*t.size=us.length+(k - xs.length)*t.size:=by rw[h.1,<-aaQ];congr 1;omega
  rw[e,xU];exact this
theorem Data.take {g:Gh} {t:Ty} {xs:List t.den} {us:List Value} (h:Data g t xs us) (n:Nat):Data g t (xs.take n) (us.take (n*t.size)):=by
 refine⟨?_,fun k y hk=>?_⟩
 .rw[aak,h.1,aak]
  rcases Nat.le_total n xs.length with hn|hn
  .rw[aa0 hn,aa0 (aav _ hn)]
  .rw[Nat.min_eq_right hn,Nat.min_eq_right (aav _ hn)]
 .rw[aap]at hk
  split at hk
  .rename_i bf
   have:=h.2 k y hk;have h1:k*t.size+t.size<=n*t.size:=by rw[<-acJ];exact aav _ bf
   rw[List.drop_take,acr,aa0 (by omega)];exact this
  .cases hk
theorem Data.drop {g:Gh} {t:Ty} {xs:List t.den} {us:List Value} (h:Data g t xs us) (n:Nat):Data g t (xs.drop n) (us.drop (n*t.size)):=by
 refine⟨by rw[aar,h.1,aar,Nat.sub_mul],fun k y hk=>?_⟩;rw[aam]at hk;have:=h.2 (n+k) y hk;rw[acq,<-aaQ];exact this
theorem Data.replicate {g:Gh} {t:Ty} {x:t.den} {u:List Value} (h:RL g (enc t (fun _=>x) []) u):∀ n,Data g t (List.replicate n x) (List.replicate n u).flatten
 | 0=>Data.nil g t
 | n+1=>by simp only[acT,ac5];exact Data.cons h (Data.replicate h n)
theorem Data.mono {g g':Gh} (hg:g.le g') {t:Ty} {xs:List t.den} {us:List Value} (h:Data g t xs us):Data g' t xs us:=⟨h.1,fun k x hk=>(h.2 k x hk).mono hg⟩
theorem Data.one {g:Gh} {t:Ty}:∀ {us:List Value} {x:t.den},RL g (enc t (fun _=>x) []) us->∀ u∈us,u.oneCell'=true:=by
 intro us x h u hu;obtain⟨i,hi,rfl⟩:=List.mem_iff_getElem.1 hu;have hl:i<(enc t (fun _=>x) []).length:=by rw[h.length];exact hi
 have:=h.at_ i _ _ (Z1 hl) (Z1 hi);have key:∀ (t:Ty) (x:Unit->t.den) (j:Nat) (y:AV),(enc t x [])[j]?=some y->∀ u,R g y u->u.oneCell'=true:=by
  intro t;induction t with
  | int k=>intro x j y h u hr;cases j <;> simp[enc]at h;subst h;cases hr;rfl
  | bool=>intro x j y h u hr;cases j <;> simp[enc]at h;subst h;cases hr;rfl
  | str=>intro x j y h u hr;cases j <;> simp[enc]at h;subst h;cases hr;rfl
  | list e=>intro x j y h u hr;cases j <;> simp[enc]at h;subst h;cases hr;rfl
  | pair a b VL VM =>
   intro x j y h u hr;simp only[enc]at h;rw[cK,aau]at h;split at h
   .exact VL _ _ _ h _ hr
   .exact VM _ _ _ h _ hr
 exact key t _ i _ (Z1 hl) _ this
theorem Data.BE {g:Gh} {t:Ty} {xs:List t.den} {us:List Value} (h:Data g t xs us):∀ u∈us,u.oneCell'=true:=by
 intro u hu;obtain⟨i,hi,rfl⟩:=List.mem_iff_getElem.1 hu;have hp:=Ty.size_pos t;have hk:i / t.size<xs.length:=by rw[acK hp,<-h.1];exact hi
 have hd:=h.2 (i / t.size) _ (Z1 hk);have hm:i % t.size<t.size:=abm _ hp;have he:=Nat.div_add_mod i t.size;refine Data.one hd _ (aaa.2 ⟨i % t.size,?_⟩);rw[aap,Z0 hm,aam,ac2,he,Z1 hi]
theorem iF {g:Gh} {i:Nat} {w:World} {T:TypeId} {t:Ty} {xs:Unit->List t.den} {cap:Nat} (h:(Chunk.aq T t xs).sat g i w) (hV:g.V i=some cap) :
  ∃ vs:Array Value,w.heap[g.B i]?=some (.cells vs T (0,0))/\vs.size=cap*t.size/\(xs ()).length<=cap/\(xs ()).length=g.L i/\Data g t (xs ()) (vs.toList.take ((xs ()).length*t.size)):=by
 obtain⟨h1,h2,h3⟩:=h;obtain⟨vs,h4,h5,h6,h7⟩:=h3 cap hV;refine⟨vs,h4,h5,h6,h1,?_,fun k x hk=>?_⟩
 .rw[aak]
  have:(xs ()).length*t.size<=cap*t.size:=aav _ h6;simp;omega
 .have bf:k<(xs ()).length:=(Z2.1 hk).1
  have hl:k*t.size+t.size<=(xs ()).length*t.size:=by rw[<-acJ];exact aav _ bf
  rw[List.drop_take,acr,aa0 (by omega)];exact h7 k x hk
theorem gu {g:Gh} {i:Nat} {w:World} {T:TypeId} {t:Ty} {xs:Unit->List t.den} {cap:Nat} {vs:Array Value} (hV:g.V i=some cap) (hL:(xs ()).length=g.L i)
  (hb:w.heap[g.B i]?=some (.cells vs T (0,0))) (hs:vs.size=cap*t.size) (hc:(xs ()).length<=cap) (hd:Data g t (xs ()) (vs.toList.take ((xs ()).length*t.size))):(Chunk.aq T t xs).sat g i w:=by
 show _/\_/\_;refine⟨hL,?_,?_⟩
 .intro h;rw[hV]at h;cases h
 intro Mk Dd;rw[hV]at Dd;cases Dd;refine⟨vs,hb,hs,hc,fun k x hk=>?_⟩;have bf:k<(xs ()).length:=(Z2.1 hk).1;have hl:k*t.size+t.size<=(xs ()).length*t.size:=by rw[<-acJ];exact aav _ bf
 have:=hd.2 k x hk;rwa [List.drop_take,acr,aa0 (by omega)]at this
def gV (P:Program) (o:Oper) (a:Act) (w:World) (B:bS) (K:AV->Env->List Chunk->Prop):Prop :=
 ∃ n c r w' g' aj E',(execOp a.eval o).run P w=.ok n w'/\(n=.value c\/(n=.skip/\c=Go.undef))/\Inv B g' aj E' a.tmps w'/\R g' r c/\K r aj E'
section
variable {P:Program} {B:bS} {g:Gh} {env:Env} {E:List Chunk} {tmps:Array Value} {w:World}
theorem fX {b:Nat} {nt:Array Value} {T:TypeId} (h:w.heap[b]?=some (.cells nt T (0,0))) (cs:Array Value):qj w (w.setRow b cs) b (.cells cs T (0,0)) :=
 ⟨rfl,rfl,⟨rfl,Z8 _⟩,by simp,setRow_heap w b nt cs T _ h,fun k hk=>setRow_other w b k cs hk⟩
theorem Inv.sy (h:Inv B g env E tmps w) (T:TypeId) {cs:List AV} {vs:Array Value} (hr:RL g cs vs.toList) (v:Option Nat) (l:Nat) :
  Inv B (g.add w.heap.size v l) env (dm E (.cells T cs)) tmps { w with heap:=w.heap.push (.cells vs T) }:=by
 have hw:=sw.push w (.cells vs T);refine h.new (c:=.cells T cs) hw.os hw.tape hw.output (by rw[hw.size];omega) hw.kV ⟨vs,?_,hr.mono (g.jE _ _ _)⟩ (fun b' dw=>?_)
 .simp only[Gh.add,if_true];exact hw.at_
 .simp[Chunk.own,Gh.add]at dw;omega
theorem Fz (g:Gh) (E:List Chunk) (hl:ah E=g.n) (b:Nat) (v:Option Nat) (l:Nat):R (g.add b v l) (.ptr (ah E) 0) (.pointer (some ⟨b,0,none⟩)):=by
 have:=R.ptr (g:=g.add b v l) g.n 0 (by simp[Gh.add]);simpa [Gh.add,hl]using this
theorem Inv.v7 (h:Inv B g env E tmps w) (T:TypeId) {t:Ty} {xs:Unit->List t.den} {vs:Array Value} {cap:Nat} (hs:vs.size=cap*t.size) (hc:(xs ()).length<=cap)
  (hd:Data g t (xs ()) (vs.toList.take ((xs ()).length*t.size))) {w':World} (hw:sw w w' (.cells vs T)) :
  Inv B (g.add w.heap.size (some cap) (xs ()).length) env (dm E (.aq T t xs)) tmps w':=by
 refine h.new (c:=.aq T t xs) hw.os hw.tape hw.output (by rw[hw.size];omega) hw.kV (gu (cap:=cap) (vs:=vs) (by simp[Gh.add]) (by simp[Gh.add]) (by simp only[Gh.add,if_true];exact hw.at_) hs hc (hd.mono (g.jE _ _ _))) (fun b' dw=>?_);simp[Chunk.own,Gh.add]at dw;omega
theorem lE (g:Gh) (E:List Chunk) (hl:ah E=g.n) (b cap l s:Nat) (n:Unit->Nat) (hn:n ()<=l) (hc:l<=cap) (cS:cap<=9223372036854775807) :
  R (g.add b (some cap) l) (.vec (ah E) s (fun _=>0) n) (.slice (some ⟨b,0,none⟩) (n ()) cap):=by
 rw[hl];refine .vec g.n s (fun _=>0) n _ _ (by simp[Gh.add]) (by simp[Gh.add];exact hn) (by simp[Gh.add]) (fun Mk Dd=>?_);simp[Gh.add]at Dd;subst Dd;simp[Gh.add];omega
theorem FA {g:Gh}:∀ {cs:List AV} {us:List Value},Sq cs=true->RL g cs us->∀ u∈us,u.oneCell'=true
 | [],[],_,_,u,hu=>by simp at hu
 | c::cs,v::us,h,hr,u,hu=>by
  simp only[Sq]at h;split at h
  .rename_i hc
   rcases aaj.1 hu with rfl|hu
   .have:=hr.1
    cases this <;> first|rfl|(simp[VG]at hc;done)
   .exact FA h hr.2 u hu
  .cases h
theorem fA {t sz:Nat} (hs:bR P t=some sz) {b off:Nat} {nt:Array Value} {T:TypeId} (hb:w.heap[b]?=some (.cells nt T (0,0))) {v:Value} (hv:v.cells.size=sz) (hl:off+v.cells.size<=nt.size)
  (h1:∀ u∈v.cells.toList,u.oneCell'=true) :
  (storeVar t ⟨b,off,none⟩ v).run P w=.ok () (w.setRow b (nt.toList.take off++v.cells.toList++nt.toList.drop (off+v.cells.toList.length)).toArray):=by
 have:=run_storeCells_at P b off T v.cells.toList 0 nt w hb (by simpa using hl) h1;simp only[aa6]at this;simp[storeVar,aT hs,hv,this]
theorem BF {i:Nat} {cs:List AV} {us:List Value} {K:Env->List Chunk->List AV->Prop} (h:Inv B g env E tmps w) (hr:RL g cs us) (hk:gU i env E cs K) :
  ∃ g' aj E' mu,Inv B g' aj E' tmps w/\RL g' mu us/\K aj E' mu/\(g'.n=g.n/\g'.B=g.B/\g'.V=g.V/\g'.L=g.L/\g'.k=g.k/\g'.W=g.W/\g'.M=g.M)/\(∀ b o,g.Φ b=some o->g'.Φ b=some o) /\
   (∀ b o,g'.Φ b=some o->g.Φ b=some o\/(af E i).own g i b)/\(∀ b,(af E i).own g i b->∃ o,g'.Φ b=some o):=by
 unfold gU at hk;split at hk <;> try exact hk.elim
 rename_i T t xs hE;rw[c9,a7,fg]at hk;have hs:=h.aW.sat i;rw[hE]at hs;have hi:i<ah E:=dI (by rw[hE];simp)
 let g':Gh:={ g with Φ:=fun b=>match g.V i with|none=>g.Φ b|some _=>if b=g.B i then w.heap[g.B i]? else g.Φ b }
 have hblk:∀ cap,g.V i=some cap->(af E i).own g i (g.B i):=fun cap hV=>by rw[hE];simp[Chunk.own,hV]
 have hΦ:∀ b o,g.Φ b=some o->g'.Φ b=some o:=by
  intro b o hb;show(match g.V i with|none=>g.Φ b|some _=>if b=g.B i then w.heap[g.B i]? else g.Φ b)=some o;split
  .exact hb
  .rename_i cap hV
   rw[ZY (fun e=>by subst e;rw[h.aW.dE i _ (hblk cap hV)]at hb;cases hb)];exact hb
 have ql:∀ cap,g.V i=some cap->∀ (k:Nat) (x:t.den),(xs ())[k]?=some x->∃ u:Nat->Value,∀ (j:Nat) (y:AV),(enc t (fun _=>x) [])[j]?=some y->At g' (some ⟨g.B i,0,none⟩) (k*t.size+j) (u j)/\R g' y (u j):=by
  intro cap hV k x hk;obtain⟨vs,hb,cu,hc,hl,hd⟩:=iF hs hV;have Ss:=(hd.2 k x hk).im hΦ;refine⟨fun j=>((((vs.toList.take ((xs ()).length*t.size)).drop (k*t.size)).take t.size).getD j Go.undef),fun j y hy=>?_⟩;obtain⟨u,hu,Xi⟩:=Ss.get hy;have e:(((vs.toList.take ((xs ()).length*t.size)).drop (k*t.size)).take t.size).getD j Go.undef=u:=by simp[List.getD,hu]
  simp only[e];refine⟨⟨g.B i,0,vs,T,(0,0),rfl,?_,?_⟩,Xi⟩
  .show(match g.V i with|none=>g.Φ (g.B i)|some _=>if g.B i=g.B i then w.heap[g.B i]? else g.Φ (g.B i))=_
   rw[hV];simp[hb]
  .rw[aap]at hu
   split at hu
   .rw[aam,aap]at hu
    split at hu
    .simpa using hu
    .cases hu
   .cases hu
 have qZ:∀ v u,isRef v=true->R g v u->R g' (nU i t xs v) u:=by
  intro v u hv hr;cases hr <;> first|(cases hv;done)|skip
  .rename_i j off hj
   simp only[nU];split
   .exact .undef _
   .exact .ptr (g:=g') j off hj
  .rename_i j sz idx off hj hL
   simp only[nU];split
   .rename_i jN
    have jN:=Z3 jN;subst jN;split
    .rename_i cu
     have cu:=Z3 cu;subst cu;have bf:idx ()<(xs ()).length:=by have:=hs.1;omega
     cases hV:g.V j with
     | none=>have:=hs.2.1 hV;rw[this]at bf;simp at bf
     | some cap =>
      obtain⟨u,hu⟩:=ql cap hV (idx ()) _ (Z1 bf);have e:(fun u=>(xs u).getD (idx u) t.bA)=(fun _=>(xs ())[idx ()]'bf):=by funext u;cases u;simp[List.getD,Z1 bf]
      rw[e];exact .dv t _ off (g.B j) (idx ()*t.size) u (fun k y hy=>by
       obtain⟨⟨b,o,cells,T',fr,h1,h2,h3⟩,_⟩:=hu k y hy;cases h1;exact⟨_,_,cells,T',fr,rfl,h2,by rw[<-h3];congr 1;omega⟩) (fun k y hy=>(hu k y hy).2)
    .exact .undef _
   .exact .bg (g:=g') j sz idx off hj hL
  .rename_i j s o n A c hj hL hn sm
   simp only[nU];split
   .rename_i jN
    have jN:=Z3 jN;subst jN;split
    .rename_i cu
     have cu:=Z3 cu;subst cu;have hlen:(((xs ()).drop (o ())).take (n ())).length=n ():=by have:=hs.1;simp;omega
     have K5:n ()<=c:=by
      cases hV:g.V j with
      | none=>have:=hn hV;omega
      | some cap=>have:=sm cap hV;omega
     have rY:n ()<=9223372036854775807:=by
      cases hV:g.V j with
      | none=>have:=hn hV;omega
      | some cap=>have:=sm cap hV;omega
     have key:∀ (k:Nat) (x:t.den),(((xs ()).drop (o ())).take (n ()))[k]?=some x->∃ u:Nat->Value,∀ (m:Nat) (y:AV),(enc t (fun _=>x) [])[m]?=some y->At g' A (k*t.size+m) (u m)/\R g' y (u m):=by
      intro k x hx;have hk:k<n ():=by rw[<-hlen];exact(Z2.1 hx).1
      rw[aap,Z0 hk,aam]at hx;cases hV:g.V j with
      | none=>have:=(hn hV).2.1;omega
      | some cap =>
       obtain⟨u,hu⟩:=ql cap hV _ x hx;obtain⟨_,_,_,hA,_⟩:=sm cap hV;have hA:=hA (.inl (by have:=sm cap hV;omega));subst hA;refine⟨u,fun m y hy=>?_⟩;obtain⟨⟨b,o',cells,T',fr,h1,h2,h3⟩,h4⟩:=hu m y hy;cases h1;exact⟨⟨_,_,cells,T',fr,rfl,h2,by rw[<-h3];congr 1;rw[aaQ];omega⟩,h4⟩
     have To:∃ u:Nat->Nat->Value,∀ (k:Nat) (x:t.den),(((xs ()).drop (o ())).take (n ()))[k]?=some x->∀ (m:Nat) (y:AV),(enc t (fun _=>x) [])[m]?=some y->At g' A (k*t.size+m) (u k m)/\R g' y (u k m):=by
      refine⟨fun k=>if hk:k<(((xs ()).drop (o ())).take (n ())).length then Classical.choose (key k _ (Z1 hk))else fun _=>Go.undef,fun k x hx=>?_⟩;obtain⟨hk,rfl⟩:=Z2.1 hx;simp only[hk,dif_pos];exact Classical.choose_spec (key k _ (Z1 hk))
     obtain⟨u,hu⟩:=To;have:=R.aL (g:=g') t (fun u=>((xs u).drop (o u)).take (n u)) A c u (by show(((xs ()).drop (o ())).take (n ())).length<=c;omega) (by show(((xs ()).drop (o ())).take (n ())).length<=_;omega)
      (fun k x m y h1 h2=>(hu k x h1 m y h2).1) (fun k x m y h1 h2=>(hu k x h1 m y h2).2)
     have e:((fun u=>((xs u).drop (o u)).take (n u)) ()).length=n ():=hlen;rw[e]at this;exact this
    .exact .undef _
   .exact .vec (g:=g') j s o n A c hj hL hn sm
  .rename_i j hj
   simp only[nU];split
   .exact .undef _
   .exact .mp (g:=g') j hj
  .rename_i j f hj hf
   simp only[nU];split
   .exact .undef _
   .exact .hp (g:=g') j f hj hf
  .rename_i j f hj hf
   simp only[nU];split
   .exact .undef _
   .exact .hm (g:=g') j f hj hf
 have nW:∀ b o,g'.Φ b=some o->g.Φ b=some o\/((af E i).own g i b/\w.heap[b]?=some o):=by
  intro b o hb;have hm:(match g.V i with|none=>g.Φ b|some _=>if b=g.B i then w.heap[g.B i]? else g.Φ b)=some o:=hb;clear hb;split at hm
  .exact .inl hm
  .rename_i cap hV
   split at hm
   .rename_i e
    subst e;exact .inr ⟨hblk cap hV,hm⟩
   .exact .inl hm
 refine⟨g',_,_,_,h.Dr (g':=g') (nU i t xs) (c:=.none) ⟨T,t,xs,hE⟩ rfl rfl rfl rfl hΦ qZ hi (fun j _=>⟨rfl,rfl,rfl⟩) rfl rfl (ja.refl _) (Z8 _) (fun _ _ _=>rfl) trivial (fun b hb=>by cases hb) (fun b o hb=>?_),hr.map _ hΦ qZ,hk,⟨rfl,rfl,rfl,rfl,rfl,rfl,rfl⟩,hΦ,fun b o hb=>(nW b o hb).imp id And.left,fun b hb=>?_⟩;rotate_left
 .rw[hE]at hb
  cases hV:g.V i with
  | none=>simp[Chunk.own,hV]at hb
  | some cap =>
   simp[Chunk.own,hV]at hb;subst hb;obtain⟨vs,Xj,_⟩:=iF hs hV;refine⟨.cells vs T (0,0),?_⟩
   .show(match g.V i with|none=>g.Φ (g.B i)|some _=>if g.B i=g.B i then w.heap[g.B i]? else g.Φ (g.B i))=_
    rw[hV];simp only[if_true];exact Xj
 rcases nW b o hb with h1|⟨h1,h2⟩
 .exact .inl h1
 .exact .inr ⟨h1,h2,fun h=>by cases h⟩
theorem v8 {i:Nat} {cs:List AV} {us:List Value} {K:Env->List Chunk->List AV->Prop} (h:Inv B g env E tmps w) (hr:RL g cs us) (hk:gU i env E cs K) :
  ∃ g' aj E' mu,Inv B g' aj E' tmps w/\RL g' mu us/\K aj E' mu:=by
 obtain⟨g',aj,E',mu,h1,h2,h3,_⟩:=BF h hr hk;exact⟨g',aj,E',mu,h1,h2,h3⟩
theorem qm:∀ (n:Nat) {g:Gh} {env:Env} {E:List Chunk} {cs:List AV} {us:List Value} {K:Env->List Chunk->List AV->Prop},Inv B g env E tmps w->RL g cs us->su n env E cs K ->
  ∃ g' aj E' mu,Inv B g' aj E' tmps w/\RL g' mu us/\K aj E' mu
 | 0,g,env,E,cs,us,K,h,hr,hk=>⟨g,env,E,cs,h,hr,hk⟩
 | n+1,g,env,E,cs,us,K,h,hr,hk=>by
  simp only[su]at hk;split at hk
  .exact⟨g,env,E,cs,h,hr,hk⟩
  .obtain⟨g',aj,E',mu,h1,h2,h3⟩:=v8 h hr hk
   exact qm n h1 h2 h3
end
theorem FB {α:Type} (V c:List α) (N p s off:Nat) (hN:N<=V.length) (hp:p+s<=N) (hc:off+c.length<=s) :
  (V.take (p+off)++c++V.drop (p+off+c.length)).take N =
   (V.take N).take p++((((V.take N).drop p).take s).take off++c++(((V.take N).drop p).take s).drop (off+c.length))++(V.take N).drop (p+s):=by
 apply abG;intro k;simp only[aau,aap,aam,aab,aak,aar]
 grind
theorem q7 (l:List Value):∀ (n i:Nat),i<n*l.length->(List.replicate n l).flatten[i]?=l[i % l.length]?
 | 0,i,h=>by simp at h
 | n+1,i,h=>by
  rw[acT,ac5,aau];split
  .rename_i hi;rw[aa2 hi]
  .rename_i hi
   have hle:l.length<=i:=by omega
   rw[q7 l n (i - l.length) (by rw[aaQ]at h;omega)];congr 1;rw[Nat.mod_eq_sub_mod hle]
theorem jQ (z:Array Value) (n:Nat):((Array.range (n*z.size)).map (z[· % z.size]!)).toList=(List.replicate n z.toList).flatten:=by
 apply abG;intro i;have hl:((List.replicate n z.toList).flatten).length=n*z.size:=by simp
 by_cases hi:i<n*z.size
 .rw[q7 _ n i (by simpa using hi)]
  have hz:0<z.size:=(acA z.size).resolve_left fun h=>by rw[h]at hi;simp at hi
  have hm:i % z.size<z.size:=abm _ hz;simp[hi,hm]
 .rw[aat (by simp;omega),aat (by omega)]
section
variable {P:Program} {B:bS} {g:Gh} {env:Env} {E:List Chunk} {tmps:Array Value} {w:World}
theorem BG {t:Ty}:∀ (n:Nat) (cs:List AV) (us:List Value) (K:(Unit->List t.den)->Prop),Ft t n cs K->RL g cs us->∃ xs,(xs ()).length=n/\Data g t (xs ()) us/\K xs
 | 0,[],[],K,h,hr=>⟨_,rfl,Data.nil g t,h⟩
 | 0,_::_,_,K,h,hr=>by simp[Ft]at h
 | n+1,cs,us,K,h,hr=>by
  simp only[Ft]at h;obtain⟨x,rest,u1,u2,rfl,h1,h2,h3⟩:=vV t cs us _ h hr;obtain⟨xs,h4,h5,h6⟩:=BG n rest u2 _ h3 h2;refine⟨fun u=>x u::xs u,by simp[h4],?_,h6⟩;exact Data.cons (by rw[ik];exact h1) h5
theorem eN.R {i:Nat} {v:AV} {hv:HV} (h:eN i v hv) (hi:i<g.n) {u:Value} (hr:R g v u):Fw.R g (hv.av i) u:=by
 cases h with
 | eq=>exact hr
 | bW=>cases hr;exact .hp i (fun _=>none) hi (fun x hx=>by cases hx)
 | tt=>cases hr;exact .bool (fun _=>true)
 | ff=>cases hr;exact .bool (fun _=>false)
 | aZ t=>cases hr;exact qc g t
theorem FC {z:Value} {cs:List AV} (h:gF (xz z)=some cs) (n:Nat):RL g ((List.replicate n cs).flatten) ((List.replicate n z.cells.toList).flatten):=by
 have hr:=(nr g z).cells h;induction n with
 | zero=>exact trivial
 | succ n ih=>simp only[acT,ac5];exact hr.append ih
variable {a:Act} {o:Oper} {K:AV->Env->List Chunk->Prop}
theorem FD {e:TypeId} (h:Inv B g env E a.tmps w) (ho:o.op=.alloc e) (hk:eV P (.alloc e) env E K):gV P o a w B K:=by
 simp only[eV]at hk;split at hk <;> try exact hk.elim
 rename_i z hz;split at hk <;> try exact hk.elim
 rename_i cs uW;rw[fg,fe,a7]at hk;have hr:=(nr g z).cells uW;refine⟨_,_,_,_,_,_,_,?_,.inl rfl,h.sy e (vs:=z.cells) hr Option.none 0,Fz g E h.aW.len _ _ _,hk⟩;simp[execOp,ho,Instr.alloc,dO hz,newVar,newRow]
theorem Ml {e:TypeId} {x:Operand} (h:Inv B g env E a.tmps w) (ho:o.op=.box e x) (hk:eV P (.box e x) env E K):gV P o a w B K:=by
 simp only[eV]at hk;split at hk <;> try exact hk.elim
 rename_i cs uW;rw[fe,a7]at hk;have hr:=(h.er.ev x).cells uW;refine⟨_,_,_,_,_,_,_,?_,.inl rfl,h.sy e (vs:=(a.eval x).cells) hr Option.none 0,Fz g E h.aW.len _ _ _,hk⟩;simp[execOp,ho,Instr.box,newVar,newRow]
theorem Ae {t:TypeId} (h:Inv B g env E a.tmps w) (ho:o.op=.makeMap t none) (hk:eV P (.makeMap t none) env E K):gV P o a w B K:=by
 simp only[eV]at hk;split at hk <;> try exact hk.elim
 rename_i kt et ht;split at hk <;> try exact hk.elim
 rename_i k oP;rw[fe,a7]at hk;have hle:=g.jE w.heap.size Option.none 0;have hn:=sw.push w (.map #[] 0);have hinv:=h.new (w':={ w with heap:=w.heap.push (.map #[] 0) }) (c:=.jd k [] []) (b:=w.heap.size) (v:=Option.none) (l:=0) hn.os hn.tape hn.output (by rw[hn.size];omega) hn.kV
  ⟨#[],0,by simp[Gh.add],rfl,trivial⟩ (fun b' dw=>by simp[Chunk.own,Gh.add]at dw;omega)
 refine⟨_,.map (some w.heap.size),_,_,_,_,_,?_,.inl rfl,hinv,?_,hk⟩
 .simp[execOp,ho,Instr.makeMap,Result.andThen]
 .have:=R.mp (g:=g.add w.heap.size Option.none 0) (ah E) (by rw[h.aW.len];simp[Gh.add])
  have e:(g.add w.heap.size Option.none 0).B (ah E)=w.heap.size:=by rw[h.aW.len];simp[Gh.add]
  rwa [e]at this
theorem xW {n:Int}:∀ {ks:List Int},BD n ks=true->n∉ks
 | [],_=>by simp
 | k::r,h=>by
  simp only[BD]at h;split at h
  .cases h
  .rename_i bC _
   intro hm;rcases aaj.1 hm with rfl|hm
   .exact bC rfl
   .exact xW h hm
theorem oQ {k d:IntKind} {n:Int}:∀ {ks:List Int} {es:List MapEntry} (i:Nat),n∉ks->es.map (·.key)=ks.map (Value.int k)->Instr.findNow (.int d) (.int k n) es i=some none
 | [],[],_,_,_=>rfl
 | [],_::_,_,_,hk=>by simp at hk
 | _::_,[],_,_,hk=>by simp at hk
 | k0::ks,e::es,i,hn,hk=>by
  simp only[aal,List.cons.injEq]at hk;simp only[aaj,not_or]at hn;have hb:(n == k0)=false:=by simpa using hn.1
  simp only[Instr.findNow,hk.1,Instr.sameNow,if_true,hb];exact oQ (i+1) hn.2 hk.2
theorem I5 {t:TypeId} {k:IntKind} {n:Int} {m x:Operand} (h:Inv B g env E a.tmps w) (ho:o.op=.insert t m (.const (.int k n)) x) (hk:vZ P t k n (ev env m) (ev env x) env E K):gV P o a w B K:=by
 unfold vZ at hk;have hm:=h.er.ev m;have hx:=h.er.ev x;split at hk <;> try exact hk.elim
 rename_i i em;rw[em]at hm;split at hk <;> try exact hk.elim
 rename_i kt et k' ks vs ht hE;split at hk <;> try exact hk.elim
 rename_i d e2 oP Xc I0;subst e2;rw[a7]at hk;have hs:=h.aW.sat i;rw[hE]at hs;obtain⟨es,cl,h1,h2,h3⟩:=hs;have hu:a.eval m=.map (some (g.B i)):=by generalize a.eval m=u at hm;cases hm;rfl
 have qU:(Instr.checkKey false 10000 kt (.int k n)).run P w=.ok () w:=by
  unfold Instr.checkKey;simp only[Sem.run_bind,ag oP,Result.andThen_ok];rfl
 have IA:=oQ (d:=d) 0 (xW I0) h2;have dZ:qj w { w with heap:=w.heap.setIfInBounds (g.B i) (.map (es.push { key:=.int k n,val:=a.eval x,born:=cl }) (cl+1)) } (g.B i) (.map (es.push { key:=.int k n,val:=a.eval x,born:=cl }) (cl+1)) :=
  ⟨rfl,rfl,⟨rfl,Z8 _⟩,by simp,(MapKept.heap_set h1).1,(MapKept.heap_set h1).2⟩
 refine⟨.skip,Go.undef,.skip,_,g,env,_,?_,.inr ⟨rfl,rfl⟩,h.set (c:=.jd k (ks++[n]) (vs++[ev env x])) (by rw[hE];rfl) dZ ⟨_,_,dZ.at_,by simp[h2],by simpa using h3.append (cs:=vs) (ds:=[ev env x]) (vs:=[a.eval x]) ⟨hx,trivial⟩⟩ rfl (fun T' t' Iz hc=>by cases hc),.skip,hk⟩;have he:a.eval (.const (.int k n))=.int k n:=rfl;simp[execOp,ho,Instr.mapUpdate,ag ht,hu,he,MapKept.run_getObj_map h1,qU,MapKept.run_findKey (au oP) IA,MapKept.run_setObj_map _ h1,Result.andThen]
theorem FE {t:TypeId} {x v:Operand} (h:Inv B g env E a.tmps w) (ho:o.op=.store t x v) (hk:eV P (.store t x v) env E K):gV P o a w B K:=by
 simp only[eV]at hk;split at hk <;> try exact hk.elim
 rename_i cs uW;split at hk <;> try exact hk.elim
 rename_i sz cu;split at hk <;> try exact hk.elim
 rename_i hl aw;have hlen:cs.length=sz:=Z3 hl;have hr:=(h.er.ev v).cells uW;have IZ:(a.eval v).cells.size=sz:=by have:=hr.length;simp at this;omega
 have I6:=FA aw hr;have hx:=h.er.ev x;split at hk <;> try exact hk.elim
 .rename_i i off ex
  rw[ex]at hx;split at hk <;> try exact hk.elim
  rename_i T ds hE;split at hk <;> try exact hk.elim
  rename_i VN qe;rw[fg,a7]at hk;have hs:=h.aW.sat i;rw[hE]at hs;obtain⟨vs,hb,Dq⟩:=hs;obtain⟨h1,h2⟩:=mr off ds cs VN vs.toList (a.eval v).cells.toList qe Dq hr;have hv:a.eval x=.pointer (some ⟨g.B i,off,none⟩):=by generalize a.eval x=u at hx;cases hx;rfl
  have bh:=fA (P:=P) (w:=w) (t:=t) cu (off:=off) hb IZ (by simpa using h2) I6;refine⟨.skip,Go.undef,.skip,_,g,env,_,?_,.inr ⟨rfl,rfl⟩,h.set (c:=.cells T VN) (by rw[hE];rfl) (fX hb _) ⟨_,(fX hb _).at_,by simpa using h1⟩ rfl (fun T' t' Iz hc=>by cases hc),.skip,hk⟩;simp[execOp,ho,Instr.storeAt,Instr.sureAddr,hv,bh]
 .rename_i i s j off ex
  rw[ex]at hx;obtain⟨g',aj,E',l,hinv,k9,hk⟩:=qm 3 (cs:=AV.bg i s j off::cs) (us:=a.eval x::(a.eval v).cells.toList) h ⟨hx,hr⟩ hk;split at hk <;> try exact hk.elim
  rename_i i s j off mu;have hx:=k9.1;have hr:=k9.2;split at hk <;> try exact hk.elim
  .rename_i T ty xs hE
   split at hk <;> try exact hk.elim
   rename_i hb;have sm:ty.size=s:=Z3 hb;subst sm;split at hk <;> try exact hk.elim
   rename_i ds qe;have hs:=hinv.aW.sat i;rw[hE]at hs;have hv:a.eval x=.pointer (some ⟨g'.B i,j ()*ty.size+off,none⟩)/\j ()<g'.L i:=by generalize a.eval x=u at hx;cases hx with|bg _ _ _ _ _ hL=>exact⟨rfl,hL⟩
   obtain⟨hv,hL⟩:=hv;have hj:j ()<(xs ()).length:=by rw[hs.1];exact hL
   cases hV:g'.V i with
   | none=>have:=hs.2.1 hV;rw[this]at hj;simp at hj
   | some cap =>
    obtain⟨vs,hb,Mm,cS,Mn,hd⟩:=iF hs hV;have Px:=hd.2 (j ()) _ (Z1 hj);have e:(fun u=>(xs u).getD (j u) ty.bA)=(fun _=>(xs ())[j ()]'hj):=by funext u;cases u;simp[List.getD,Z1 hj]
    rw[e]at qe;obtain⟨h1,h2⟩:=mr off _ mu ds _ (a.eval v).cells.toList qe Px hr;obtain⟨y,h3,hk⟩:=ko hk h1;rw[a7]at hk;have q8:j ()*ty.size+ty.size<=(xs ()).length*ty.size:=by rw[<-acJ];exact aav _ hj
    have Xk:(xs ()).length*ty.size<=cap*ty.size:=aav _ cS;have EM:(List.take ty.size (List.drop (j ()*ty.size) (List.take ((xs ()).length*ty.size) vs.toList))).length=ty.size:=by
     rw[<-Px.length,bt]
    have nT:off+(a.eval v).cells.toList.length<=ty.size:=by rw[EM]at h2;exact h2
    have bh:=fA (P:=P) (w:=w) (t:=t) cu (off:=j ()*ty.size+off) hb IZ (by simp at nT;omega) I6
    let row:List Value:=vs.toList.take (j ()*ty.size+off)++(a.eval v).cells.toList++vs.toList.drop (j ()*ty.size+off+(a.eval v).cells.toList.length)
    have dZ:=fX hb row.toArray;have wa:row.length=cap*ty.size:=by
     simp only[row,aab,aak,aar,Array.length_toList];simp at nT ⊢;omega
    refine⟨.skip,Go.undef,.skip,_,g',aj,_,?_,.inr ⟨rfl,rfl⟩,hinv.set (c:=.aq T ty fun u=>(xs u).set (j u) (y u)) (by rw[hE];simp[Chunk.own,hV]) dZ (gu (cap:=cap) (vs:=row.toArray) hV (by simp[Mn]) dZ.at_ (by simpa using wa) (by simpa using cS) ?_) (by simp[Chunk.own,hV]) (fun _ _ _ _=>⟨_,_,_,hE⟩),.skip,hk⟩
    .simp[execOp,ho,Instr.storeAt,Instr.sureAddr,hv,bh,row]
    ·
     have lj:row.toArray.toList.take (((fun u=>(xs u).set (j u) (y u)) ()).length*ty.size) =
       (vs.toList.take ((xs ()).length*ty.size)).take (j ()*ty.size)++((((vs.toList.take ((xs ()).length*ty.size)).drop (j ()*ty.size)).take ty.size).take off++(a.eval v).cells.toList++(((vs.toList.take ((xs ()).length*ty.size)).drop (j ()*ty.size)).take ty.size).drop (off+(a.eval v).cells.toList.length))++(vs.toList.take ((xs ()).length*ty.size)).drop (j ()*ty.size+ty.size):=by
      have:=FB vs.toList (a.eval v).cells.toList ((xs ()).length*ty.size) (j ()*ty.size) ty.size off (by simp;omega) q8 nT;simpa [row]using this
     rw[lj];have FF:(xs ()).set (j ()) (y ())=(xs ()).take (j ())++[y ()]++(xs ()).drop (j ()+1):=by
      rw[List.set_eq_take_append_cons_drop];simp[hj]
     show Data g' ty ((xs ()).set (j ()) (y ())) _;rw[FF];have d1:=hd.take (j ());have d3:=hd.drop (j ()+1);have d2:Data g' ty [y ()] ((((vs.toList.take ((xs ()).length*ty.size)).drop (j ()*ty.size)).take ty.size).take off++(a.eval v).cells.toList++(((vs.toList.take ((xs ()).length*ty.size)).drop (j ()*ty.size)).take ty.size).drop (off+(a.eval v).cells.toList.length)):=by
      have:=Data.cons (g:=g') (t:=ty) (x:=y ()) (xs:=[]) (us:=[]) (by rw[ik];exact h3) (Data.nil g' ty);simpa using this
     have:=(d1.append d2).append d3;rw[aaQ,abY]at this;exact this
  .rename_i T ty xs hE
   split at hk <;> try exact hk.elim
   rename_i hb;have sm:ty.size=s:=Z3 hb;subst sm;split at hk <;> try exact hk.elim
   rename_i ds qe;have hs:(Chunk.row T ty xs).sat g' i w:=by have:=hinv.aW.sat i;rwa [hE]at this
   have hs:(Chunk.aq T ty xs).sat g' i w:=hs;have hv:a.eval x=.pointer (some ⟨g'.B i,j ()*ty.size+off,none⟩)/\j ()<g'.L i:=by generalize a.eval x=u at hx;cases hx with|bg _ _ _ _ _ hL=>exact⟨rfl,hL⟩
   obtain⟨hv,hL⟩:=hv;have hj:j ()<(xs ()).length:=by rw[hs.1];exact hL
   cases hV:g'.V i with
   | none=>have:=hs.2.1 hV;rw[this]at hj;simp at hj
   | some cap =>
    obtain⟨vs,hb,Mm,cS,Mn,hd⟩:=iF hs hV;have Px:=hd.2 (j ()) _ (Z1 hj);have e:(fun u=>(xs u).getD (j u) ty.bA)=(fun _=>(xs ())[j ()]'hj):=by funext u;cases u;simp[List.getD,Z1 hj]
    rw[e]at qe;obtain⟨h1,h2⟩:=mr off _ mu ds _ (a.eval v).cells.toList qe Px hr;obtain⟨y,h3,hk⟩:=ko hk h1;rw[a7]at hk;have q8:j ()*ty.size+ty.size<=(xs ()).length*ty.size:=by rw[<-acJ];exact aav _ hj
    have Xk:(xs ()).length*ty.size<=cap*ty.size:=aav _ cS;have EM:(List.take ty.size (List.drop (j ()*ty.size) (List.take ((xs ()).length*ty.size) vs.toList))).length=ty.size:=by
     rw[<-Px.length,bt]
    have nT:off+(a.eval v).cells.toList.length<=ty.size:=by rw[EM]at h2;exact h2
    have bh:=fA (P:=P) (w:=w) (t:=t) cu (off:=j ()*ty.size+off) hb IZ (by simp at nT;omega) I6
    let row:List Value:=vs.toList.take (j ()*ty.size+off)++(a.eval v).cells.toList++vs.toList.drop (j ()*ty.size+off+(a.eval v).cells.toList.length)
    have dZ:=fX hb row.toArray;have wa:row.length=cap*ty.size:=by
     simp only[row,aab,aak,aar,Array.length_toList];simp at nT ⊢;omega
    refine⟨.skip,Go.undef,.skip,_,g',aj,_,?_,.inr ⟨rfl,rfl⟩,hinv.set (c:=.row T ty fun u=>(xs u).set (j u) (y u)) (by rw[hE];simp[Chunk.own,hV]) dZ (gu (T:=T) (t:=ty) (xs:=fun u=>(xs u).set (j u) (y u)) (cap:=cap) (vs:=row.toArray) hV (by simp[Mn]) dZ.at_ (by simpa using wa) (by simpa using cS) ?_) (by simp[Chunk.own,hV]) (fun _ _ _ hc=>by cases hc),.skip,hk⟩
    .simp[execOp,ho,Instr.storeAt,Instr.sureAddr,hv,bh,row]
    ·
     have lj:row.toArray.toList.take (((fun u=>(xs u).set (j u) (y u)) ()).length*ty.size) =
       (vs.toList.take ((xs ()).length*ty.size)).take (j ()*ty.size)++((((vs.toList.take ((xs ()).length*ty.size)).drop (j ()*ty.size)).take ty.size).take off++(a.eval v).cells.toList++(((vs.toList.take ((xs ()).length*ty.size)).drop (j ()*ty.size)).take ty.size).drop (off+(a.eval v).cells.toList.length))++(vs.toList.take ((xs ()).length*ty.size)).drop (j ()*ty.size+ty.size):=by
      have:=FB vs.toList (a.eval v).cells.toList ((xs ()).length*ty.size) (j ()*ty.size) ty.size off (by simp;omega) q8 nT;simpa [row]using this
     rw[lj];have FF:(xs ()).set (j ()) (y ())=(xs ()).take (j ())++[y ()]++(xs ()).drop (j ()+1):=by
      rw[List.set_eq_take_append_cons_drop];simp[hj]
     show Data g' ty ((xs ()).set (j ()) (y ())) _;rw[FF];have d1:=hd.take (j ());have d3:=hd.drop (j ()+1);have d2:Data g' ty [y ()] ((((vs.toList.take ((xs ()).length*ty.size)).drop (j ()*ty.size)).take ty.size).take off++(a.eval v).cells.toList++(((vs.toList.take ((xs ()).length*ty.size)).drop (j ()*ty.size)).take ty.size).drop (off+(a.eval v).cells.toList.length)):=by
      have:=Data.cons (g:=g') (t:=ty) (x:=y ()) (xs:=[]) (us:=[]) (by rw[ik];exact h3) (Data.nil g' ty);simpa using this
     have:=(d1.append d2).append d3;rw[aaQ,abY]at this;exact this
 .rename_i i f ex
  rw[ex]at hx;split at hk <;> try exact hk.elim
  rename_i c hp hE;obtain⟨k,off,T,n,cc,hv,h',h1,h2,h3,h4,h5,h6⟩:=hk.h;rw[a7]at h6;obtain⟨ln,hi,hf⟩:=hx.kl;rw[h1]at ln;have VO:=hf _ h1;obtain⟨vs,hb,zX,dh⟩:=h.aW.nR hE VO h2;obtain⟨u,hu⟩:∃ u,(a.eval v).cells.toList=[u]:=by
   match hl:(a.eval v).cells.toList,hr.length with
   | [u],_=>exact⟨u,rfl⟩
  rw[hu]at hr;have Tp:(a.eval v).cells.size=1:=by have:=congrArg List.length hu;simpa using this
  have bh:=fA (P:=P) (w:=w) (t:=t) cu (off:=off) hb IZ (by omega) I6;simp only[hu]at bh;refine⟨.skip,Go.undef,.skip,_,g,env,_,?_,.inr ⟨rfl,rfl⟩,h.dZ (o:=.cells T n fun j=>if j=off then hv else cc j) hE VO (fX hb (vs.toList.take off++[u]++vs.toList.drop (off+[u].length)).toArray) ⟨_,rfl,?_,fun j w' hj=>?_⟩ h5,.skip,h6⟩
  .simp[execOp,ho,Instr.storeAt,Instr.sureAddr,ln,bh]
  .simp;omega
  .have bf:off<vs.toList.length:=by simp;omega
   simp only[acL]at hj;by_cases Py:j=off
   .subst Py
    simp only[if_true];have:u=w':=by
     have hlen:(vs.toList.take j).length=j:=by rw[aak];omega
     rw[ac6,abZ (by rw[hlen];exact Z8 _),hlen,Nat.sub_self]at hj;simpa using hj
    subst this;exact h4.R hi hr.1
   .simp only[Py,if_false]
    refine dh j w' ?_;rw[<-hj];simp only[ac6,aau,aak,abt,aap,aam];rw[aa0 (Nat.le_of_lt bf)];rcases abr j off with I7|I7|I7
    .simp[I7]
    .exact(Py I7).elim
    .have e1:¬j<off:=by omega
     have e2:¬j - off<1:=by omega
     simp only[e1,e2,if_false];rw[show off+1+(j - off - 1)=j by omega];simp
end
section
variable {P:Program} {B:bS} {g:Gh} {env:Env} {E:List Chunk} {tmps:Array Value} {w:World}
variable {a:Act} {o:Oper} {K:AV->Env->List Chunk->Prop}
theorem gG.at_ {i:Nat} {d:IntKind} {n:Int}:∀ {es:List (Nat×Int×HV)} {ms:List MapEntry} (j:Nat),gG g i es ms ->
  (∃ k u v e,Instr.findNow (.int d) (.int .i64 n) ms j=some (some (j+k,u))/\ms[k]?=some e/\e.key=.int .i64 n/\aP es n=some v /\
   (∀ clock hv x,R g (hv.av i) x->gG g i (bV es clock n hv) (ms.set k { e with key:=.int .i64 n,val:=x }))/\gG g i (bZ es n) (ms.eraseIdx k)) \/
  (Instr.findNow (.int d) (.int .i64 n) ms j=some none/\aP es n=none/\(∀ clock hv x,R g (hv.av i) x->gG g i (bV es clock n hv) (ms++[{ key:=.int .i64 n,val:=x,born:=clock }]))/\bZ es n=es)
 | [],[],j,_=>.inr ⟨rfl,rfl,fun clock hv x hx=>⟨rfl,rfl,hx,trivial⟩,rfl⟩
 | (b,m,v)::es,e::ms,j,h=>by
  obtain⟨h1,h2,h3,h4⟩:=h;by_cases hn:m=n
  .subst hn
   refine .inl ⟨0,e.val,v,e,by simp[Instr.findNow,h2,Instr.sameNow],rfl,h2,by simp[aP],fun clock hv x hx=>?_,?_⟩
   .simp only[bV,if_true,ac3];exact⟨h1,rfl,hx,h4⟩
   .simp only[bZ,if_true,List.eraseIdx_cons_zero];exact h4
  .have hb:(n == m)=false:=by simpa using fun e=>hn e.symm
   have e1:Instr.findNow (.int d) (.int .i64 n) (e::ms) j=Instr.findNow (.int d) (.int .i64 n) ms (j+1):=by simp[Instr.findNow,h2,Instr.sameNow,hb]
   rw[e1];rcases gG.at_ (d:=d) (n:=n) (j+1) h4 with⟨k,u,v',e',g1,g2,g3,g4,g5,g6⟩|⟨g1,g2,g3,g4⟩
   .refine .inl ⟨k+1,u,v',e',by rw[g1];congr 3;omega,by simpa using g2,g3,by simp[aP,hn,g4],fun clock hv x hx=>?_,?_⟩
    .simp only[bV,hn,if_false,List.set_cons_succ];exact⟨h1,h2,h3,g5 clock hv x hx⟩
    .simp only[bZ,hn,if_false,List.eraseIdx_cons_succ];exact⟨h1,h2,h3,g6⟩
   .refine .inr ⟨g1,by simp[aP,hn,g2],fun clock hv x hx=>?_,by simp[bZ,hn,g4]⟩
    simp only[bV,hn,if_false,abp];exact⟨h1,h2,h3,g3 clock hv x hx⟩
theorem xX {t:Nat} {z:Value} (h:iC P t=some z):∃ kt et,aS P t=some (.map kt et)/\aS P kt=some (.int .i64):=by
 unfold iC at h;split at h <;> try (cases h;done)
 rename_i kt et ht;split at h <;> try (cases h;done)
 rename_i oP;exact⟨kt,et,ht,oP⟩
theorem gX {kt:Nat} (oP:aS P kt=some (.int .i64)) (n:Int) (b:Bool):(Instr.checkKey b 10000 kt (.int .i64 n)).run P w=.ok () w:=by
 unfold Instr.checkKey;simp only[Sem.run_bind,ag oP,Result.andThen_ok];rfl
theorem setAt {b:Nat} {ob Fy:Obj} (hb:w.heap[b]?=some ob):qj w { w with heap:=w.heap.setIfInBounds b Fy } b Fy :=
 ⟨rfl,rfl,⟨rfl,Z8 _⟩,by simp,(MapKept.heap_set hb).1,(MapKept.heap_set hb).2⟩
theorem wb {t:TypeId} {m k x:Operand} (h:Inv B g env E a.tmps w) (ho:o.op=.mapUpdate t m k x) (hk:eV P (.mapUpdate t m k x) env E K):gV P o a w B K:=by
 simp only[eV]at hk;have hm:=h.er.ev m;have wc:=h.er.ev k;have hx:=h.er.ev x;split at hk <;> try exact hk.elim
 rename_i i f n em ek;rw[em]at hm;rw[ek]at wc;split at hk <;> try exact hk.elim
 rename_i hp hE;obtain⟨es,clock,z,hv,h',h1,h2,h3,h4,h5⟩:=hk.h;rw[a7]at h5;obtain⟨ln,hi,hf⟩:=hm.nQ;have Su:=wc.bY;obtain⟨ms,hb,fD⟩:=h.aW.zW hE hf h1;obtain⟨kt,et,ht,oP⟩:=xX h2;have hR:=h3.R hi hx;rcases fD.at_ (d:=.i64) (n:=n ()) 0 with⟨j,u,v,e,g1,g2,g3,g4,g5,g6⟩|⟨g1,g2,g3,g4⟩
 .have hj:ms[j]?=some e:=by simpa using g2
  rw[aaf]at g1;refine⟨.skip,Go.undef,.skip,_,g,env,_,?_,.inr ⟨rfl,rfl⟩,h.dZ (o:=uB es clock (n ()) hv) hE hf (setAt (Fy:=.map (ms.modify j fun e=>{ e with key:=.int .i64 (n ()),val:=a.eval x }) clock) hb) ⟨_,by rw[g4],?_⟩ h4,.skip,h5⟩
  .have fR:(Instr.keyThatStays (.int .i64 (n ())) (.int .i64 (n ()))).run P w=.ok (.int .i64 (n ())) w:=by simp[Instr.keyThatStays,Instr.sameBits]
   simp[execOp,ho,Instr.mapUpdate,ag ht,ln,Su,MapKept.run_getObj_map hb,gX oP,MapKept.run_findKey (au oP) g1,hj,g3,fR,MapKept.run_setObj_map _ hb,Result.andThen]
  .have:=g5 clock hv (a.eval x) hR
   have e:(ms.modify j fun e=>{ e with key:=.int .i64 (n ()),val:=a.eval x }).toList=ms.toList.set j { e with key:=.int .i64 (n ()),val:=a.eval x }:=by
    apply abG;intro q;rw[Array.toList_modify,List.getElem?_modify,abh];by_cases hq:j=q
    .subst hq
     have hl:=(Z2.1 g2).1;rw[g2];simp at hl;simp[hl]
    .simp[hq]
   rw[e];exact this
 .refine⟨.skip,Go.undef,.skip,_,g,env,_,?_,.inr ⟨rfl,rfl⟩,h.dZ (o:=uB es clock (n ()) hv) hE hf (setAt (Fy:=.map (ms.push { key:=.int .i64 (n ()),val:=a.eval x,born:=clock }) (clock+1)) hb) ⟨_,by rw[g2],?_⟩ h4,.skip,h5⟩
  .simp[execOp,ho,Instr.mapUpdate,ag ht,ln,Su,MapKept.run_getObj_map hb,gX oP,MapKept.run_findKey (au oP) g1,MapKept.run_setObj_map _ hb,Result.andThen]
  .rw[Array.toList_push];exact g3 clock hv (a.eval x) hR
theorem Dv {ts:List Nat} {xs:List Operand} (h:Inv B g env E a.tmps w) (ho:o.op=.call { callee:=.builtin .delete,args:=⟨xs⟩,argTypes:=⟨ts⟩ }) (hk:cr P .delete ts (p9 env xs) env E K):gV P o a w B K:=by
 simp only[cr]at hk;split at hk <;> try exact hk.elim
 rename_i t Zt i f n Tq;split at hk <;> try exact hk.elim
 rename_i hp hE;obtain⟨es,clock,z,h',h1,h2,h4,h5⟩:=hk.h;rw[a7]at h5;have dR:=h.er.p9 xs;rw[Tq]at dR;obtain⟨m,k,Af⟩:∃ m k,xs.map a.eval=[m,k]:=by
  match hl:xs.map a.eval,dR.length with
  | [m,k],_=>exact⟨m,k,rfl⟩
 rw[Af]at dR;obtain⟨ln,hi,hf⟩:=dR.1.nQ;have Su:=dR.2.1.bY;subst ln Su;obtain⟨ms,hb,fD⟩:=h.aW.zW hE hf h1;obtain⟨kt,et,ht,oP⟩:=xX h2;have sA:(⟨xs⟩:Array Operand).map a.eval=#[.map (some (g.W i (f ()))),.int .i64 (n ())]:=by apply abq;simpa using Af
 rcases fD.at_ (d:=.i64) (n:=n ()) 0 with⟨j,u,v,e,g1,g2,g3,g4,g5,g6⟩|⟨g1,g2,g3,g4⟩
 .rw[aaf]at g1
  refine⟨.value (.tuple #[]),_,.bQ [],_,g,env,_,?_,.inl rfl,h.dZ (o:=.map (bZ es (n ())) clock) hE hf (setAt (Fy:=.map (ms.eraseIdxIfInBounds j) clock) hb) ⟨_,rfl,?_⟩ h4,R.gP (cs:=[]) (vs:=[]) trivial,h5⟩
  .simp[execOp,ho,resolve,invoke,sA,builtin,Builtin.delete_,ag ht,MapKept.run_getObj_map hb,gX oP,MapKept.run_findKey (au oP) g1,MapKept.run_setObj_map _ hb,Result.andThen]
  .have hj:j<ms.size:=by have:=(Z2.1 g2).1;simpa using this
   have e:(ms.eraseIdxIfInBounds j).toList=ms.toList.eraseIdx j:=by
    unfold Array.eraseIdxIfInBounds;rw[dif_pos hj,Array.toList_eraseIdx]
   rw[e];exact g6
 .refine⟨.value (.tuple #[]),_,.bQ [],_,g,env,_,?_,.inl rfl,h.dZ (o:=.map (bZ es (n ())) clock) hE hf (setAt (Fy:=.map ms clock) hb) ⟨_,rfl,?_⟩ h4,R.gP (cs:=[]) (vs:=[]) trivial,h5⟩
  .simp[execOp,ho,resolve,invoke,sA,builtin,Builtin.delete_,ag ht,MapKept.run_getObj_map hb,gX oP,MapKept.run_findKey (au oP) g1,MapKept.run_setObj_map _ hb,Result.andThen]
  .rw[g4];exact fD
theorem FG {t:TypeId} {x:Operand} (h:Inv B g env E a.tmps w) (ho:o.op=.range t x) (hk:eV P (.range t x) env E K):gV P o a w B K:=by
 simp only[eV]at hk;unfold Fq at hk;have hx:=h.er.ev x;split at hk <;> try exact hk.elim
 rename_i i f ex;rw[ex]at hx;split at hk <;> try exact hk.elim
 rename_i hp hE;obtain⟨es,clock,kt,et,h1,ht,h5⟩:=hk.h;rw[fe,a7]at h5;obtain⟨ln,hi,hf⟩:=hx.nQ;obtain⟨ms,hb,fD⟩:=h.aW.zW hE hf h1;have hn:=sw.push w (.mapIter (some (g.W i (f ()))) clock #[] clock);have hle:=g.jE w.heap.size Option.none 0;have hinv:=h.new (w':={ w with heap:=w.heap.push (.mapIter (some (g.W i (f ()))) clock #[] clock) }) (c:=.je (.hm i f) clock clock fun _=>[]) (b:=w.heap.size) (v:=Option.none) (l:=0) hn.os hn.tape hn.output (by rw[hn.size];omega) hn.kV
  ⟨_,(R.hm (g:=g) i f hi hf).mono hle,by simp[Gh.add]⟩ (fun b' dw=>by simp[Chunk.own,Gh.add]at dw;omega)
 refine⟨_,.pointer (some ⟨w.heap.size,0,none⟩),_,_,_,_,_,?_,.inl rfl,hinv,?_,h5⟩
 .simp[execOp,ho,Instr.range,ag ht,ln,MapKept.run_getObj_map hb,Result.andThen,newObj,Sem.run]
 .exact Fz g E h.aW.len _ _ _
theorem I8 {x:Operand} (h:Inv B g env E a.tmps w) (ho:o.op=.next x false) (hk:eV P (.next x false) env E K):gV P o a w B K:=by
 simp only[eV]at hk;unfold K3 at hk;have hx:=h.er.ev x;split at hk <;> try exact hk.elim
 rename_i i ex;rw[ex]at hx;split at hk <;> try exact hk.elim
 rename_i j f since last seen hE;split at hk <;> try exact hk.elim
 rename_i hp Tr;obtain⟨es,h1,h2,h3,h4,h5⟩:=hk.h;subst h2;have hs:=h.aW.sat i;rw[hE]at hs;obtain⟨b,Sv,hr⟩:=hs;obtain⟨ln,hj,hf⟩:=Sv.nQ;cases ln;obtain⟨ms,hb,fD⟩:=h.aW.zW Tr hf h1;have hv:a.eval x=.pointer (some ⟨g.B i,0,none⟩):=by generalize a.eval x=u at hx;cases hx;rfl
 have get:∀ {es:List (Nat×Int×HV)} {ms:List MapEntry},gG g j es ms->∀ e∈ms,∃ b n v,(b,n,v)∈es/\e.born=b/\e.key=.int .i64 n/\R g (v.av j) e.val:=by
  intro es ms;induction es generalizing ms with
  | nil=>intro h e he;cases ms with
   | nil=>simp at he
   | cons _ _=>exact h.elim
  | cons p es ih =>
   obtain⟨b,n,v⟩:=p;intro h e he;cases ms with
   | nil=>exact h.elim
   | cons e' ms =>
    obtain⟨q1,q2,q3,q4⟩:=h;rcases aaj.1 he with rfl|he
    .exact⟨b,n,v,.head _,q1,q2,q3⟩
    .obtain⟨b,n,v,r1,r2⟩:=ih q4 e he
     exact⟨b,n,v,.tail _ r1,r2⟩
 have get':∀ {es:List (Nat×Int×HV)} {ms:List MapEntry},gG g j es ms->∀ p∈es,∃ e∈ms,e.born=p.1:=by
  intro es ms;induction es generalizing ms with
  | nil=>intro h p hp;simp at hp
  | cons p es ih =>
   obtain⟨b,n,v⟩:=p;intro h q hq;cases ms with
   | nil=>exact h.elim
   | cons e' ms =>
    obtain⟨q1,q2,q3,q4⟩:=h;rcases aaj.1 hq with rfl|hq
    .exact⟨e',.head _,q1⟩
    .obtain⟨e,r1,r2⟩:=ih q4 q hq
     exact⟨e,.tail _ r1,r2⟩
 have hold:∀ x∈ms.toList,x.born<last:=fun e he=>by
  obtain⟨b,n,v,q1,q2,_⟩:=get fD e he;rw[q2];exact h3 _ q1
 rcases run_next_at (P:=P) w o.type (g.B i) (g.W j (f ())) last last (seen ()).toArray ms last hr hb hold (Z8 _)with⟨q1,q2⟩|⟨e,he,w1,Dw,q2⟩
 .refine⟨.value (.tuple #[.bool false]),_,_,w,g,env,E,?_,.inl rfl,h,R.gP (cs:=[.ff]) (vs:=[.bool false]) ⟨.ff,trivial⟩,h4 ?_⟩
  .simp[execOp,ho,hv,q2]
  .intro p hp
   obtain⟨e,r1,r2⟩:=get' fD p hp;have:¬(e∈(leftOf ms (seen ()).toArray).toList):=by
    have e0:leftOf ms (seen ()).toArray=#[]:=aa8 q1;rw[e0];simp
   unfold leftOf at this;simp only[Array.toList_filter,aa1,not_and]at this;have:=this r1;rw[<-r2];simpa using this
 .have bD:e∈ms.toList/\¬e.born∈seen ():=by
   unfold leftOf at he;simp only[Array.toList_filter,aa1]at he;exact⟨he.1,by simpa using he.2⟩
  obtain⟨b,n,v,r1,r2,r3,r4⟩:=get fD e bD.1;have vY:=h5 b n v r1 (by rw[<-r2];exact bD.2);rw[fP,a7]at vY;have q9:xR w w1:=by rcases Dw with rfl|rfl <;> first|exact⟨rfl,rfl,⟨rfl,Z8 _⟩,rfl⟩|exact⟨rfl,rfl,⟨rfl,abQ _⟩,rfl⟩
  have nX:w1.heap[g.B i]?=some (.mapIter (some (g.W j (f ()))) last (seen ()).toArray last):=by rw[q9.heap];exact hr
  have hinv:=(h.same q9).set (c:=.je (.hm j f) last last fun _=>seen ()++[b]) (by rw[hE];rfl) (setAt (Fy:=.mapIter (some (g.W j (f ()))) last ((seen ()).toArray.push e.born) last) nX)
   ⟨_,Sv,by rw[(setAt (Fy:=.mapIter (some (g.W j (f ()))) last ((seen ()).toArray.push e.born) last) nX).at_];congr 2;rw[r2];apply abq;simp⟩ rfl (fun T' t' Iz hc=>by cases hc)
  refine⟨.value (.tuple #[.bool true,e.key,e.val]),_,_,_,g,env,_,?_,.inl rfl,hinv,R.gP (cs:=[.tt,.I n,v.av j]) (vs:=[.bool true,e.key,e.val]) ⟨.tt,by rw[r3];exact .int .i64 (fun _=>n),r4,trivial⟩,vY⟩;simp[execOp,ho,hv,q2,ChangeMaps.setBlock]
theorem FH {x:Operand} (h:Inv B g env E a.tmps w) (ho:o.op=.entry x) (hk:eV P (.entry x) env E K):gV P o a w B K:=by
 simp only[eV]at hk;unfold Fs at hk;have hx:=h.er.ev x;split at hk <;> try exact hk.elim
 rename_i i ex;rw[ex]at hx;split at hk <;> try exact hk.elim
 rename_i j f since last seen hE;split at hk <;> try exact hk.elim
 rename_i hp Tr;obtain⟨es,bb,en,h1,h2,h3,h4⟩:=hk.h;rw[fP]at h4;have hs:=h.aW.sat i;rw[hE]at hs;obtain⟨b,Sv,hr⟩:=hs;obtain⟨ln,hj,hf⟩:=Sv.nQ;cases ln;obtain⟨ms,hb,fD⟩:=h.aW.zW Tr hf h1;have hv:a.eval x=.pointer (some ⟨g.B i,0,none⟩):=by generalize a.eval x=u at hx;cases hx;rfl
 have get:∀ {es:List (Nat×Int×HV)} {ms:List MapEntry},gG g j es ms->es.find? (fun e=>e.1 == bb)=some en->∃ e,ms.find? (fun e=>e.born == bb)=some e/\e.key=.int .i64 en.2.1/\R g (en.2.2.av j) e.val:=by
  intro es ms;induction es generalizing ms with
  | nil=>intro h he;cases he
  | cons p es ih =>
   obtain⟨b,n,v⟩:=p;intro h he;cases ms with
   | nil=>exact h.elim
   | cons e' ms =>
    obtain⟨q1,q2,q3,q4⟩:=h;simp only[List.find?_cons]at he ⊢;rw[q1];cases Pz:b == bb with
    | true=>rw[Pz]at he;cases he;exact⟨e',rfl,q2,q3⟩
    | false=>rw[Pz]at he;exact ih q4 he
 obtain⟨e,r1,r2,r3⟩:=get fD h3;have xY:(seen ()).toArray.back?=some bb:=by rw[<-h2];simp
 have PA:ms.find? (fun e=>e.born == bb)=some e:=by rw[<-r1];simp
 refine⟨.value (.tuple #[e.key,e.val]),_,_,w,g,env,E,?_,.inl rfl,h,R.gP (cs:=[.I en.2.1,en.2.2.av j]) (vs:=[e.key,e.val]) ⟨by rw[r2];exact .int .i64 (fun _=>en.2.1),r3,trivial⟩,h4⟩;simp[execOp,ho,hv,Instr.entry,getObj,Sem.run,Sem.bind,hr,hb,xY,PA]
end
section
variable {P:Program} {B:bS} {g:Gh} {env:Env} {E:List Chunk} {tmps:Array Value} {w:World}
variable {a:Act} {o:Oper} {K:AV->Env->List Chunk->Prop}
theorem uG {t len:Nat} {parts:Array (Nat×Operand)} (h:Inv B g env E a.tmps w) (ho:o.op=.buildSlice t len parts) (hk:eV P (.buildSlice t len parts) env E K):gV P o a w B K:=by
 simp only[eV]at hk;split at hk <;> try exact hk.elim
 rename_i e ht;split at hk <;> try exact hk.elim
 rename_i sz z ps cu hz Fo;split at hk <;> try exact hk.elim
 rename_i Ix uY;have Ix:len<=1000:=aaM Ix;have uY:sz<=1000:=aaM uY;have Ts:len*sz<=1000000:=Nat.mul_le_mul Ix uY;split at hk <;> try exact hk.elim
 rename_i zc PB;split at hk <;> try exact hk.elim
 rename_i cs Xl hf;rw[fg]at hk;have FI:zc.length=sz:=Z3 Xl;have Dp:=(nr g z).cells PB;have Dx:z.cells.size=sz:=by have:=Dp.length;simp at this;omega
 obtain⟨vX,Tf⟩:=qd h.er parts.toList ps Fo;have Iu:∀ (i:Nat) (c:Nat×List AV),ps[i]?=some c->∃ u:Value,(parts.toList.map fun ix=>(ix.1,a.eval ix.2))[i]?=some (c.1,u)/\RL g c.2 u.cells.toList:=by
  intro i c hi;obtain⟨j,x,h1,h2,h3⟩:=Tf i c hi;exact⟨a.eval x,by rw[aaS,h1];simp[h2],h3⟩
 have hzero:=jQ z.cells len;obtain⟨out,h1,h2⟩:=oO (fun i=>some (i*sz,sz)) ps (parts.toList.map fun ix=>(ix.1,a.eval ix.2)) _ cs ((Array.range (len*z.cells.size)).map (z.cells[· % z.cells.size]!)) hf (by rw[hzero];exact FC PB len) (by simp[vX]) Iu;have K6:out.size=len*sz:=by
  have e1:=h2.length;have key:∀ (ps:List (Nat×List AV)) (cs r:List AV),nq (fun i=>some (i*sz,sz)) cs ps=some r->r.length=cs.length:=by
   intro ps;induction ps with
   | nil=>intro cs r hh;simp[nq]at hh;subst hh;rfl
   | cons p ps ih =>
    intro cs r hh;obtain⟨i,v⟩:=p;simp only[nq]at hh;split at hh
    .split at hh
     .rename_i mu qe
      rw[ih _ _ hh];have Tt:∀ (n:Nat) (cs vs r:List AV),k8 n cs vs=some r->r.length=cs.length:=by
       intro n;induction n with
       | zero =>
        intro cs;induction cs with
        | nil=>intro vs r h;cases vs <;> simp[k8]at h;subst h;rfl
        | cons c cs Xm =>
         intro vs r h;cases vs with
         | nil=>simp[k8]at h;subst h;rfl
         | cons v vs =>
          simp only[k8]at h;split at h
          .rename_i r' qS
           simp at h;subst h;simp[Xm vs r' qS]
          .cases h
       | succ n Xn =>
        intro cs vs r h;cases cs with
        | nil=>simp[k8]at h
        | cons c cs =>
         simp only[k8]at h;split at h
         .rename_i r' qS
          simp at h;subst h;simp[Xn cs vs r' qS]
         .cases h
      exact Tt _ _ _ _ qe
     .cases hh
    .cases hh
  have e2:=key ps _ cs hf;simp[FI]at e2;simp at e1;omega
 have bh:(Instr.buildSlice t len (parts.map fun(i,x)=>(i,a.eval x))).run P w=.ok (.slice (some ⟨w.heap.size,0,none⟩) len len) { w with heap:=w.heap.push (.cells out e) }:=by
  have xB:Instr.fill (fun i=>some (i*sz,sz)) ((Array.range (len*sz)).map (z.cells[· % z.cells.size]!)) (parts.map fun(i,x)=>(i,a.eval x)).toList=some out:=by
   rw[<-h1,Dx];congr 1;simp
  unfold Instr.buildSlice;simp only[Sem.run_bind,ag ht,Result.andThen_ok,aT cu];rw[ZY (by omega)];by_cases h0:len*sz=0
  .have e0:((Array.range (len*sz)).map ((#[]:Array Value)[· % (#[]:Array Value).size]!))=((Array.range (len*sz)).map (z.cells[· % z.cells.size]!)):=by rw[h0];simp
   simp only[h0,if_true,Sem.run_bind,Sem.run_pure,Result.andThen_ok];rw[h0]at xB e0;rw[e0];simp only[xB];simp[newRow]
  .simp only[h0,if_false,Sem.run_bind,dO hz,Sem.run_pure,Result.andThen_ok]
   simp only[xB];simp[newRow]
 have hex:(execOp a.eval o).run P w=.ok (.value (.slice (some ⟨w.heap.size,0,none⟩) len len)) { w with heap:=w.heap.push (.cells out e) }:=by
  simp[execOp,ho,bh]
 split at hk
 .rename_i ty zM
  split at hk <;> try exact hk.elim
  rename_i FJ;have FJ:ty.size=sz:=Z3 FJ;have sq:=Ty.size_pos ty;obtain⟨g',aj,E',mu,hinv,qS,hk⟩:=qm 8 h h2 hk;obtain⟨xs,Mo,hd,hk⟩:=BG len mu _ _ hk qS;rw[fe,a7]at hk;have gH:=hinv.v7 e (xs:=xs) (cap:=len) (vs:=out) (by rw[K6,FJ]) (by omega) (by rw[Mo,Z6 (by simp[K6,FJ])];exact hd) (sw.push w _);refine⟨_,_,_,_,_,_,_,hex,.inl rfl,gH,?_,hk⟩;rw[Mo];exact lE g' E' hinv.aW.len _ len len sz (fun _=>len) (Z8 _) (Z8 _) (by omega)
 .rw[fe,a7]at hk
  exact⟨_,_,_,_,_,_,_,hex,.inl rfl,h.sy e h2 (some len) len,lE g E h.aW.len _ len len sz (fun _=>len) (Z8 _) (Z8 _) (by omega),hk⟩
theorem we {t:Nat} {l c:Operand} (h:Inv B g env E a.tmps w) (ho:o.op=.makeSlice t l c) (hk:eV P (.makeSlice t l c) env E K):gV P o a w B K:=by
 simp only[eV]at hk;have hl:=h.er.ev l;have hc:=h.er.ev c;split at hk <;> try exact hk.elim
 rename_i l' c' el ec;rw[el]at hl;rw[ec]at hc;have hl:=hl.bY;have hc:=hc.bY;split at hk <;> try exact hk.elim
 rename_i e ht;split at hk <;> try exact hk.elim
 rename_i ty sz uZ z zM cu rD hz;split at hk <;> try exact hk.elim
 rename_i gC;have gC:ty.size=sz:=Z3 gC;split at hk <;> try exact hk.elim
 rename_i cs uW;have Dp:=(nr g z).cells uW;obtain⟨d,hd,hk⟩:=ko hk Dp;rw[fe,a7]at hk;obtain⟨dM,hk⟩:=hk;obtain⟨h0,h1,h2,h3⟩:=dM.h;have I9:IntKind.i64.wrap (l' ())=l' ():=IntWalk.i64_in _ (by omega);have Xo:IntKind.i64.wrap (c' ())=c' ():=IntWalk.i64_in _ (by omega);obtain⟨ti,vW,ux⟩:∃ i,(typeInfo e).run P w=.ok i w/\i.bytes=uZ:=by
  unfold iB at rD;split at rD
  .rename_i i hi
   simp only[aaJ]at rD;exact⟨i,by simp[typeInfo,bu hi],rD⟩
  .cases rD
 have Dx:z.cells.size=sz:=by have:=hd.length;rw[bt]at this;simp at this;omega
 let vs:Array Value:=(Array.range ((c' ()).toNat*z.cells.size)).map (z.cells[· % z.cells.size]!)
 have By:vs.toList=(List.replicate (c' ()).toNat z.cells.toList).flatten:=jQ z.cells _;have bh:(Instr.makeSlice t (a.eval l) (a.eval c)).run P w=.ok (.slice (some ⟨w.heap.size,0,none⟩) (l' ()).toNat (c' ()).toNat) { w with heap:=w.heap.push (.cells vs e) }:=by
  unfold Instr.makeSlice;simp only[hl,hc,Sem.run_bind,ag ht,Result.andThen_ok,asInt,asIntOf,Sem.run_pure,vW,ux,I9,Xo,aT cu];have Xp:(2:Int) ^ 48=281474976710656:=by decide
  have PC:(decide (c' ()<0) || decide ((uZ:Int)*c' ()>2 ^ 48) || decide (l' ()<0) || decide (l' ()>c' ()))=false:=by
   rw[Xp];simp only[Bool.or_eq_false_iff,decide_eq_false_iff_not];exact⟨⟨⟨by omega,Int.not_lt.2 h3⟩,by omega⟩,by omega⟩
  rw[ZY (by rw[PC];exact Bool.false_ne_true)];simp only[run_askRoom,Result.andThen_ok,Sem.run_bind,aT cu];by_cases EN:(c' ()).toNat*sz=0
  .have e0:((Array.range ((c' ()).toNat*sz)).map ((#[]:Array Value)[· % (#[]:Array Value).size]!))=vs:=by simp only[vs];rw[Dx,EN];simp
   simp only[EN,if_true,Sem.run_bind,Sem.run_pure,Result.andThen_ok];rw[EN]at e0;rw[e0];simp[newRow]
  .simp only[EN,if_false,Sem.run_bind,dO hz,Sem.run_pure,Result.andThen_ok]
   simp[newRow,vs,Dx]
 have hex:(execOp a.eval o).run P w=.ok (.value (.slice (some ⟨w.heap.size,0,none⟩) (l' ()).toNat (c' ()).toNat)) { w with heap:=w.heap.push (.cells vs e) }:=by
  simp[execOp,ho,bh]
 have K7:Data g ty (List.replicate (c' ()).toNat (d ())) vs.toList:=by rw[By];exact Data.replicate (by rw[ik];exact hd) _
 have hle:(l' ()).toNat<=(c' ()).toNat:=by omega
 have EO:=K7.take (l' ()).toNat;rw[List.take_replicate,aa0 hle]at EO;have gH:=h.v7 e (t:=ty) (xs:=fun u=>List.replicate (l' u).toNat (d u)) (cap:=(c' ()).toNat) (vs:=vs) (by simp[vs,Dx,gC]) (by simp;omega) (by simpa using EO) (sw.push w _);refine⟨_,_,_,_,_,_,_,hex,.inl rfl,gH,?_,hk⟩;have:=lE g E h.aW.len w.heap.size (c' ()).toNat (l' ()).toNat sz (fun u=>(l' u).toNat) (Z8 _) hle (by omega);simpa using this
theorem Inv.Mp (h:Inv B g env E tmps w) {w':World} {ob:Obj} (hw:sw w w' ob):Inv B { g with Φ:=fun b=>if b=w.heap.size then some ob else g.Φ b } env E tmps w'/\g.le { g with Φ:=fun b=>if b=w.heap.size then some ob else g.Φ b }:=by
 have hle:g.le { g with Φ:=fun b=>if b=w.heap.size then some ob else g.Φ b } :=
  ⟨Z8 _,fun b o' hb=>by
   have:=bo (h.aW.dn b o' hb);show(if b=w.heap.size then some ob else g.Φ b)=_;rw[ZY (by omega)];exact hb,fun _ _=>rfl,fun _ _=>rfl,fun _ _=>rfl,rfl,fun _ _ _ _=>rfl,fun _ _=>Z8 _⟩
 have BH:∀ i b',(af E i).own { g with Φ:=fun b=>if b=w.heap.size then some ob else g.Φ b } i b'=(af E i).own g i b':=fun i b'=>Chunk.qh rfl rfl rfl rfl;refine⟨⟨h.er.mono hle,⟨h.aW.len,fun b o' hb=>?_,fun i=>?_,fun i j b hi hj=>?_,fun i b hi=>?_⟩,⟨hw.os.trans h.ext.os,hw.tape.trans h.ext.tape,hw.output.trans h.ext.output,by rw[hw.size];have:=h.ext.size;omega,fun b h1 h2=>?_,fun b o' hb=>hle.dn b o' (h.ext.dn b o' hb),fun b o' hb=>?_,fun i b hi=>?_,h.ext.n,h.ext.ids,h.ext.kk,h.ext.mY,h.ext.rC,h.ext.qi⟩⟩,hle⟩
 .have hm:(if b=w.heap.size then some ob else g.Φ b)=some o':=hb
  clear hb;split at hm
  .rename_i e;subst e;cases hm;exact hw.at_
  .have:=h.aW.dn b o' hm
   rw[hw.kV b (bo this)];exact this
 .exact Chunk.fj (fun _ _ _ h=>h.mono hle.dn) (fun _ _ h=>h.mono hle) rfl rfl rfl rfl rfl rfl (fun b hb=>hw.kV b (eQ (h.aW.sat i) hb)) (h.aW.sat i)
 .rw[BH]at hi hj
  exact h.aW.lf i j b hi hj
 .rw[BH]at hi
  have:=eQ (h.aW.sat i) hi;show(if b=w.heap.size then some ob else g.Φ b)=_;rw[ZY (by omega)];exact h.aW.dE i b hi
 .rw[hw.kV b (aag h1 h.ext.size)];exact h.ext.cz b h1 h2
 .have hm:(if b=w.heap.size then some ob else g.Φ b)=some o':=hb
  clear hb;split at hm
  .rename_i e;subst e;exact .inr (.inl h.ext.size)
  .exact h.ext.fz b o' hm
 .rw[BH]at hi
  exact h.ext.own i b hi
theorem Ag {src dst:Nat} {x:Operand} {u0:TypeDesc} (Tu:aS P src=some u0) (h:Inv B g env E a.tmps w) (ho:o.op=.convert src dst x) (hk:eV P (.convert src dst x) env E K):gV P o a w B K:=by
 simp only[eV]at hk;have hx:=h.er.ev x;split at hk <;> try exact hk.elim
 rename_i e s hd ex;rw[ex]at hx;have hx:=hx.gS;split at hk <;> try exact hk.elim
 rename_i he;obtain⟨dM,hk⟩:=hk;have dM:=dM.h;have bh:=Lib.run_convert_string_bytes (P:=P) w src dst e ⟨(s ()).toArray⟩ (au Tu) (au hd) (au he);have hw:sw w (Lib.bytesWorld w e ⟨(s ()).toArray⟩) (.cells (Lib.bytesCells w e ⟨(s ()).toArray⟩) e ((Lib.bytesCells w e ⟨(s ()).toArray⟩).size,(Lib.bytesCells w e ⟨(s ()).toArray⟩).size+1)) :=
  ⟨rfl,rfl,⟨rfl,abQ _⟩,Lib.bytesWorld_size _ _ _,Lib.bytesWorld_at_new _ _ _,fun k hk=>Lib.bytesWorld_at_old _ _ _ k hk⟩
 obtain⟨hinv,hle⟩:=h.Mp hw;have cu:(ByteArray.mk (s ()).toArray).size=(s ()).length:=by simp[ByteArray.size]
 refine⟨_,_,_,_,_,_,_,by simp[execOp,ho,hx,bh];rfl,.inl rfl,hinv,?_,hk⟩;rw[cu];have cS:(s ()).length<=grownCap w (s ()).length 0 e:=by
  unfold grownCap Question.cut;simp
 have dh:∀ j,j<(s ()).length->(Lib.bytesCells w e ⟨(s ()).toArray⟩)[j]?=some (.int .u8 (((s ()).getD j 0).toNat:Int)):=by
  intro j hj;simp[Lib.bytesCells,Array.getElem?_append,ByteArray.size,hj,List.getD]
 have:=R.aL (g:={ g with Φ:=fun b=>if b=w.heap.size then some (.cells (Lib.bytesCells w e ⟨(s ()).toArray⟩) e ((Lib.bytesCells w e ⟨(s ()).toArray⟩).size,(Lib.bytesCells w e ⟨(s ()).toArray⟩).size+1))else g.Φ b })
  (.int .u8) (fun u=>(s u).map fun b=>(b.toNat:Int)) (some ⟨w.heap.size,0,none⟩) (grownCap w (s ()).length 0 e) (fun i _=>.int .u8 (((s ()).getD i 0).toNat:Int)) (by simpa using cS) (by simp;omega)
  (fun i x j y h1 h2=>by
   have hi:i<(s ()).length:=by simpa using(Z2.1 h1).1
   have hj:j=0:=by
    have:=(Z2.1 h2).1;simp[enc]at this;omega
   subst hj;exact⟨w.heap.size,0,Lib.bytesCells w e ⟨(s ()).toArray⟩,e,_,rfl,Z0 rfl,by simpa [Ty.size]using dh i hi⟩)
  (fun i x j y h1 h2=>by
   have hi:i<(s ()).length:=by simpa using(Z2.1 h1).1
   have hj:j=0:=by
    have:=(Z2.1 h2).1;simp[enc]at this;omega
   subst hj;simp[enc]at h2;subst h2;refine R.uD ?_;simp[hi]at h1;simp[<-h1,List.getD,hi])
 simpa using this
end
end Go.Proofs.YthnefnlhcijekaaGreat.Fw
