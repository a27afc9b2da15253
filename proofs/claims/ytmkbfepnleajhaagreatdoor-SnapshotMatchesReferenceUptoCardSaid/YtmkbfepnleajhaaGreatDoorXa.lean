/- SnapshotMatchesReference, 1 of 11 -/
import Derived.Calls
import Derived.Laws.AppendOwn
import Derived.Laws.IdiomCopy
import Derived.Deep.MidRow
import Derived.Deep.AppendSrc
import Derived.Laws.StructEq
import Derived.Laws.Cover3
import Derived.Great.BuildSlice
import Derived.Laws.MakeOwn
import Derived.Laws.Tables
import Derived.Laws.RangeAny
import Derived.MapKept
import Derived.Lib.ConvBytes
import Derived.Orders
import Derived.Scope
set_option maxRecDepth 100000
open List renaming length->Z,drop_append->Tm,getElem?_range->akM,getElem?_set->akG,headD_cons->akK,mem_toArray->Fy,reverse_nil->akN,size_toArray->Tt,take_append->akF,take_left->Ki,toList_toArray->Fv
open Option renaming some->T,none->D,bind_none->akL,bind_some->zT,map_map->qM
open Bool renaming true->ab,false->aa
open Decidable renaming decide->S
open Array renaming size_append->Ts,toArray_toList->akI,toList_append->Kh,toList_inj->sI
open List.Sublist renaming append->anv
open Nat renaming add_mul->rN,le_antisymm->akE,le_mul_of_pos_right->Tq,min_eq_left->To,mul_one->Fx,not_lt_zero->J8,testBit_or->akO,zero_mul->Kf
open Ne renaming symm->Kb
open Std.Legacy.Range renaming forIn_eq_forIn_range'->akH
namespace Go
abbrev Cj:=@Nat.lt_trichotomy
abbrev Ck:=@List.take_append_of_le_length
abbrev Cm:=@Array.mem_toList_iff
abbrev Cn:=@List.append_of_mem
abbrev Co:=@List.filter_cons
abbrev Cp:=@List.cons.injEq
abbrev Cq:=@Function.comp_def
abbrev Cr:=@Int.lt_or_le
abbrev Cs:=@List.findIdx?_cons
abbrev Cu:=@List.getElem_take
abbrev Cv:=@List.getElem_of_mem
abbrev FA:=@List.filter_sublist
abbrev FB:=@Bool.or_false
abbrev FD:=@List.find?_range_eq_some
abbrev FE:=@List.any_eq_true
abbrev FF:=@List.find?_eq_none
abbrev FH:=@List.getElem?_append_right
abbrev FI:=@List.map_singleton
abbrev Fw:=@List.getElem_range
abbrev Fz:=@List.nodup_range
abbrev J9:=@List.take_one
abbrev KA:=@Bool.and_eq_false_iff
abbrev Ka:=@List.set_cons_succ
abbrev Kc:=@List.length_set
abbrev Kd:=@List.set_append_right
abbrev Ke:=@Nat.sub_self
abbrev Kg:=@List.take_succ_cons
abbrev Kj:=@Nat.lt_or_ge
abbrev Kk:=@List.singleton_append
abbrev Kl:=@Option.isNone_iff_eq_none
abbrev Km:=@List.pairwise_lt_range
abbrev Kn:=@List.filterMap_cons
abbrev Ko:=@Bool.not_eq_false'
abbrev Ks:=@List.map_take
abbrev Ku:=@List.map_drop
abbrev Kv:=@List.getElem_drop
abbrev Kw:=@Bool.or_eq_false_iff
abbrev Kx:=@List.flatMap_cons
abbrev Ky:=@List.foldl_map
abbrev Kz:=@List.length_eq_zero_iff
abbrev TA:=@Bool.and_assoc
abbrev TC:=@Nat.lt_succ_self
abbrev TG:=@Nat.le_of_lt
abbrev TH:=@List.find?_eq_some_iff_getElem
abbrev TI:=@List.findIdx?_append
abbrev TJ:=@List.mem_flatMap
abbrev TM:=@List.perm_append_comm
abbrev TN:=@List.find?_some
abbrev TP:=@List.perm_ext_iff_of_nodup
abbrev TQ:=@List.pairwise_map
abbrev Tn:=@List.range_eq_range'
abbrev Tp:=@List.take_zero
abbrev Tu:=@List.take_take
abbrev Tv:=@List.drop_take
abbrev Tw:=@List.mem_append_left
abbrev Tx:=@List.eq_nil_iff_forall_not_mem
abbrev Ty:=@List.filter_append
abbrev Tz:=@List.getElem_append_left
abbrev a:=@Int.ofNat_lt
abbrev aJ:=@Nat.zero_add
abbrev ak3:=@Int.tdiv_eq_ediv_of_nonneg
abbrev ak4:=@Bool.true_eq_false
abbrev ak5:=@List.pairwise_append
abbrev akJ:=@List.replicate_succ'
abbrev ala:=@List.idxOf_lt_length_of_mem
abbrev bC:=@List.getElem?_eq_getElem
abbrev bG:=@Bool.and_eq_true
abbrev bs:=@List.getElem_mem
abbrev c3:=@List.nil_append
abbrev c5:=@List.mem_append
abbrev cZ:=@Bool.false_eq_true
abbrev ca:=@Nat.lt_irrefl
abbrev cf:=@List.mem_cons
abbrev cu:=@Bool.true_and
abbrev cv:=@List.getElem?_cons_zero
abbrev dB:=@List.take_length
abbrev de:=@List.length_nil
abbrev dg:=@Option.map_eq_some_iff
abbrev di:=@Nat.le_refl
abbrev dk:=@List.getElem?_cons_succ
abbrev du:=@List.mem_map
abbrev e6:=@List.getElem?_eq_some_iff
abbrev eC:=@Prod.mk.injEq
abbrev eJ:=@List.map_cons
abbrev eK:=@Option.some.injEq
abbrev ej:=@Int.toNat_natCast
abbrev fH:=@List.append_assoc
abbrev fW:=@List.take_of_length_le
abbrev fb:=@List.length_append
abbrev fi:=@List.all_eq_true
abbrev fm:=@List.cons_append
abbrev fo:=@Nat.add_zero
abbrev gb:=@List.length_take
abbrev gz:=@List.length_singleton
abbrev hX:=@List.take_succ_eq_append_getElem
abbrev hY:=@Bool.eq_iff_iff
abbrev ht:=@List.map_append
abbrev iA:=@Option.map_some
abbrev iJ:=@List.length_cons
abbrev iU:=@Nat.le_trans
abbrev iW:=@List.not_mem_nil
abbrev jQ:=@Nat.lt_of_lt_of_le
abbrev jR:=@List.drop_zero
abbrev jS:=@List.mem_iff_getElem
abbrev jt:=@Bool.not_eq_true'
abbrev k9:=@Nat.mul_le_mul_right
abbrev kI:=@Bool.not_true
abbrev kd:=@List.length_map
abbrev kf:=@List.nodup_cons
abbrev kg:=@Bool.or_eq_true
abbrev kh:=@Bool.false_or
abbrev lU:=@List.getElem?_append_left
abbrev lV:=@List.mem_singleton
abbrev la:=@List.mem_range
abbrev mQ:=@List.drop_eq_getElem_cons
abbrev mR:=@Bool.not_false
abbrev mS:=@Option.isSome_some
abbrev nU:=@List.drop_length
abbrev nV:=@List.getElem?_set_ne
abbrev nW:=@List.findIdx?_eq_some_iff_getElem
abbrev oI:=@Array.getElem?_eq_some_iff
abbrev oJ:=@List.foldl_cons
abbrev oK:=@Option.getD_some
abbrev oL:=@List.map_nil
abbrev oM:=@List.getD_eq_getElem?_getD
abbrev py:=@List.length_drop
abbrev qJ:=@List.all_cons
abbrev qK:=@Nat.succ_mul
abbrev qL:=@List.mem_of_mem_take
abbrev rM:=@Option.isSome_iff_exists
abbrev rO:=@List.map_congr_left
abbrev rP:=@List.append_nil
abbrev sF:=@List.drop_eq_nil_of_le
abbrev sG:=@List.mem_of_getElem?
abbrev sH:=@List.ext_getElem
abbrev tE:=@List.nodup_append
abbrev tF:=@List.mem_filter
abbrev ve:=@Bool.and_true
abbrev vf:=@List.drop_drop
abbrev vg:=@List.take_append_drop
abbrev vh:=@List.length_filter_le
abbrev vi:=@List.nodup_nil
abbrev vj:=@List.foldl_append
abbrev wE:=@List.flatten_cons
abbrev wF:=@List.eq_nil_of_length_eq_zero
abbrev wG:=@List.map_map
abbrev wH:=@List.getElem_map
abbrev wI:=@List.ext_getElem?
abbrev wJ:=@List.range_succ
abbrev wK:=@List.findIdx?_eq_none_iff
abbrev wL:=@List.getElem?_set_self
abbrev yh:=@Array.length_toList
abbrev yi:=@Bool.true_or
abbrev yj:=@List.mem_filterMap
abbrev yk:=@List.set_cons_zero
abbrev yl:=@Classical.byContradiction
abbrev zP:=@List.all_nil
abbrev zQ:=@List.flatten_append
abbrev zR:=@List.mem_flatten
abbrev zS:=@List.getElem?_map
abbrev zU:=@List.pairwise_cons
abbrev zX:=@Bool.and_false
abbrev zY:=@List.set_getElem_self
namespace AM
inductive AV where
 |int(k:IntKind)(n:Int)
 |bool(b:Bool)
 |str(s:List UInt8)
 |agg(cs:List AV)
 |aE(vs:List AV)
 |ai
 |dI
 |oN
 |sl(cm:Bool)(es:List (List AV))
 |q(id g off len:Nat)
 |qN(es:List (List AV))
 |iu(ks vs:List AV)
 |b5(id:Nat)
 |pQ(id:Nat)
 |ptr(id g idx off:Nat)
 |aK(cm:Bool)(cs:List AV)(off:Nat)
 |lp(k off:Nat)
 |hL
 |fn(f:Nat)(first cap:List AV)
 |gO
 |iface(t:Nat)(v:AV)
 |ki
 |undef
 deriving Inhabited
inductive Obj where
 |arr(g sz:Nat)(es:List (List AV))
 |mp(fl:Bool)(ks vs:List AV)
 |hM(s:List UInt8)(pos:Nat)
structure AS where
 env:List (Nat×AV)
 bx:List (Nat×List AV)
 hp:List Obj
structure bQ where
 mj:List Nat
 cs:List Nat
 lb:List Nat
 acc:List (Nat×Nat)
 own:List Nat
 ord:List (Nat×List Nat)
variable{z:Type}
def look(a:Nat):List (Nat×z)->Option z
 |[]=>D
 |(b,d)::c=>if b=a then T d else look a c
def nX(a:Nat):List (Nat×z)->List (Nat×z)
 |[]=>[]
 |(b,d)::c=>if b=a then nX a c else(b,d)::nX a c
def put(a:Nat)(c:z):List (Nat×z)->List (Nat×z)
 |[]=>[(a,c)]
 |(b,e)::d=>if a<b then(a,c)::(b,e)::d else if a=b then(a,c)::d else(b,e)::put a c d
def jJ(a:List Nat):List (Nat×z)->List (Nat×z)
 |[]=>[]
 |(b,d)::c=>if b∈a then(b,d)::jJ a c else jJ a c
def AV.gE(b:Nat):AV->Bool
 |.lp a _=>a==b
 |_=>aa
def m7(a:Nat):List (Nat×AV)->List (Nat×AV)
 |[]=>[]
 |(c,b)::d=>(c,if b.gE a then .undef else b)::m7 a d
def AV.pl:AV->AV
 |.lp _ _=>.undef
 |v=>v
def AV.isNil:AV->Bool
 |.ai=>ab
 |.dI=>ab
 |_=>aa
def AV.z1:AV->Option Bool
 |.ai=>T ab
 |.dI=>T aa
 |.sl _ (_::_)=>T aa
 |_=>D
def AV.bP:AV->Bool
 |.agg _|.aE _|.lp _ _|.undef=>aa
 |_=>ab
def AV.cells:AV->List AV
 |.agg a=>a
 |v=>[v]
def nY(agg:Bool)(a:List AV):AV:=if agg then .agg a else a.headD .undef
def ym:TypeDesc->Bool
 |.struct _|.array _ _=>ab
 |_=>aa
section
variable(P:Program)
def bc(a:TypeId):Nat:=((P.info? a).map (·.size)).getD 0
def tH(a:TypeId):Nat:=((P.info? a).map (·.bytes)).getD 0
def eU(b:TypeId):Bool:=
 match P.underlying b with
 |some a=>ym a
 |none=>aa
def ofValue:Value->Option AV
 |.bool a=>T (.bool a)
 |.int b c=>T (.int b c)
 |.string d=>T (.str d.data.toList)
 |.pointer D=>T .hL
 |.slice D 0 0=>T .ai
 |.nilFunc=>T .gO
 |.nilIface=>T .ki
 |.map D=>T .oN
 |_=>D
def vk:List Value->Option (List AV)
 |[]=>T []
 |v::vs=>
  match ofValue v,vk vs with
  |some a,T b=>T (a::b)
  |_,_=>D
def qO(a:TypeId):Option (List AV):=
 match(P.info? a).bind (·.zero)with
 |some b=>vk b.cells.toList
 |none=>D
def pR:Value->Option AV
 |.agg a=>(vk a.toList).map .agg
 |v=>ofValue v
def tI(a:TypeId):Option AV:=((P.info? a).bind (·.zero)).bind pR
variable(G:Nat->Option (List AV))
def ay(c:AS):Operand->AV
 |.tmp d=>(look d c.env).getD .undef
 |.const e=>(pR e).getD .undef
 |.global g=>match G g with|some a=>.aK aa a 0|none=>.undef
 |.func b=>.fn b [] []
def nZ(b:AS):AV->Option (List AV×Nat)
 |.lp f off=>(look f b.bx).map λa=>(a,off)
 |.aK _ a off=>T (a,off)
 |.ptr id g e off=>
  match b.hp[id]? with
  |some (.arr d _ c)=>if d=g then(c[e]?).map λa=>(a,off)else D
  |_=>D
 |_=>D
def m8(d:AS)(a:TypeId)(c:AV):Option AV:=
 match nZ d c with
 |some (b,off)=>if off+bc P a<=Z b/\(eU P a=aa->bc P a=1)/\(P.underlying a).isSome=ab then T (nY (eU P a) ((b.drop off).take (bc P a)))else D
 |none=>D
def eV(a:List AV)(off:Nat)(new:List AV):List AV:=a.take off++new++a.drop (off+Z new)
def tJ(a:AS)(h:TypeId)(i k:AV):Option AS:=
 let new:=k.pl.cells
 if Z new=bc P h/\new.all AV.bP=ab/\(P.info? h).isSome=ab then
  match i with
  |.lp f off=>
   match look f a.bx with
   |some b=>if off+Z new<=Z b then T {a with bx:=put f (eV b off new) a.bx}else D
   |none=>D
  |.ptr id g e off=>
   match a.hp[id]? with
   |some (.arr d j c)=>
    if d=g then
     match c[e]? with
     |some b=>if off+Z new<=Z b then T {a with hp:=a.hp.set id (.arr d j (c.set e (eV b off new)))}else D
     |none=>D
    else D
   |_=>D
  |_=>D
 else D
def lz(h:AS)(a:Nat):AV->Option AV
 |.lp f off=>T (.lp f (off+a))
 |.aK b c off=>T (.aK b c (off+a))
 |.ptr id g e off=>
  match h.hp[id]? with
  |some (.arr d _ _)=>if d=g then T (.ptr id g e (off+a))else D
  |_=>D
 |_=>D
def tK(e:AS)(f:TypeId)(b:AV)(c:Nat):Option AV:=
 match P.underlying f with
 |some (.struct d)=>match d[c]? with|some a=>if 0<bc P a.type then lz e a.offset b else D|none=>D
 |_=>D
def pS(d:AS)(l:TypeId)(e j:AV):Option AV:=
 match P.underlying l,j with
 |some (.array len b),.int _ a=>if 0<=a/\a<len/\0<bc P b then lz d (a.toNat*bc P b) e else D
 |some (.slice b),.int _ a=>
  match e with
  |.sl f h=>
   if 0<=a then
    match h[a.toNat]? with
    |some c=>if Z c=bc P b/\0<bc P b then T (.aK f c 0)else D
    |none=>D
   else D
  |.q id g off len=>
   if 0<=a/\a<len then
    match d.hp[id]? with
    |some (.arr i k _)=>if i=g/\k=bc P b/\0<bc P b then T (.ptr id g (off+a.toNat) 0)else D
    |_=>D
   else D
  |_=>D
 |_,_=>D
def wN(a:TypeId)(b:List AV)(off:Nat):Option AV:=
 if off+bc P a<=Z b/\(eU P a=aa->bc P a=1)/\(P.underlying a).isSome=ab then T (nY (eU P a) ((b.drop off).take (bc P a)))else D
def z5(e:TypeId)(f:AV)(c:Nat):Option AV:=
 match P.underlying e,f with
 |some (.struct d),.agg b=>match d[c]? with|some a=>wN P a.type b a.offset|none=>D
 |_,_=>D
def wO(g:TypeId)(h e:AV):Option AV:=
 match P.underlying g,h,e with
 |some (.array len b),.agg d,.int _ a=>if 0<=a/\a<len then wN P b d (a.toNat*bc P b)else D
 |some .string,.str f,.int _ a=>if 0<=a then(f[a.toNat]?).map λc=>.int .u8 c.toNat else D
 |_,_,_=>D
def cQ(c:Nat)(b:Nat):Option AV->Option Nat
 |none=>T b
 |some (.int _ a)=>if 0<=a/\a<=c then T a.toNat else D
 |_=>D
def ju(c:AS)(j:TypeId)(s:AV)(f e h:Option AV):Option (AV×AS):=
 match s with
 |.dI=>
  match P.underlying j,cQ 0 0 e,cQ 0 0 f,cQ 0 0 h with
  |some (.slice b),T _,T _,T _=>if 0<bc P b/\(h.isSome=ab->e.isSome=ab)then T (.dI,c)else D
  |_,_,_,_=>D
 |.ai=>
  match P.underlying j,cQ 0 0 e,cQ 0 0 f,cQ 0 0 h with
  |some (.slice b),T _,T _,T _=>if 0<bc P b/\(h.isSome=ab->e.isSome=ab)then T (.ai,c)else D
  |_,_,_,_=>D
 |.str k=>
  match P.underlying j,h,cQ (Z k) (Z k) e with
  |some .string,D,T a=>match cQ a 0 f with|some d=>T (.str ((k.take a).drop d),c)|none=>D
  |_,_,_=>D
 |.sl o i=>
  match P.underlying j,h,cQ (Z i) (Z i) e with
  |some (.slice b),D,T a=>
   match cQ a 0 f with
   |some d=>if i.all (λp=>Z p==bc P b)/\0<bc P b then T (.sl o ((i.take a).drop d),c)else D
   |none=>D
  |some (.slice b),T m,T a=>
   match cQ (Z i) 0 (T m),cQ a 0 f with
   |some n,T d=>if d=a/\a=n/\0<bc P b/\e.isSome=ab then T (.q (Z c.hp) 0 0 0,{c with hp:=c.hp++[.arr 0 (bc P b) []]})else D
   |_,_=>D
  |_,_,_=>D
 |.q id g off len=>
  match P.underlying j,h,cQ len len e with
  |some (.slice b),D,T a=>
   match cQ a 0 f,c.hp[id]? with
   |some d,T (.arr l r _)=>if l=g/\r=bc P b/\0<bc P b then T (.q id g (off+d) (a -d),c)else D
   |_,_=>D
  |some (.slice b),T m,T a=>
   match cQ len 0 (T m),cQ a 0 f,c.hp[id]? with
   |some n,T d,T (.arr l _ _)=>if d=a/\a=n/\0<bc P b/\e.isSome=ab/\l=g then T (.q (Z c.hp) 0 0 0,{c with hp:=c.hp++[.arr 0 (bc P b) []]})else D
   |_,_,_=>D
  |_,_,_=>D
 |_=>D
def oO:Option Operand->Option Operand->Option Operand->Option Nat
 |none,T (.const (.int _ a)),T (.const (.int _ b))=>if a=b/\0<a then T a.toNat else D
 |_,_,_=>D
theorem z6(b a:Option Operand):oO b a D=none:=by
 grind[oO]
def yn(e:TypeId)(d:Nat):AV->Option AV
 |.sl _ a=>
  match P.underlying e with
  |some (.slice b)=>if d=Z a/\a.all (λc=>Z c==bc P b)/\0<bc P b then T (.qN a)else D
  |_=>D
 |_=>D
def ft:List Nat->List AV->List AV->Option Bool
 |[],[],[]=>T ab
 |0::e,.int f a::b,.int g c::d=>if f=g then(ft e b d).map ((a==c)&&·)else D
 |1::e,.str a::b,.str c::d=>(ft e b d).map ((a==c)&&·)
 |2::e,.bool a::b,.bool c::d=>(ft e b d).map ((a==c)&&·)
 |_,_,_=>D
def rQ(eq:TypeId->Option (List Nat))(stop:Nat):Nat->List (TypeId×Nat)->Option (List Nat)
 |off,[]=>if off=stop then T []else D
 |off,(a,d)::e=>
  if d=off then
   match eq a,rQ eq stop (off+bc P a) e with
   |some b,T c=>if Z b=bc P a then T (b++c)else D
   |_,_=>D
  else D
def m9:Nat->TypeId->Option (List Nat)
 |0,_=>D
 |d+1,a=>
  match P.underlying a with
  |some (.int _)=>if bc P a=1 then T [0]else D
  |some .string=>if bc P a=1 then T [1]else D
  |some .bool=>if bc P a=1 then T [2]else D
  |some (.struct e)=>if P.stoodInHeld a=aa/\e.toList.all (λb=>b.name != "_")then rQ P (m9 d) (bc P a) 0 (e.toList.map λb=>(b.type,b.offset))else D
  |some (.array g c)=>if(P.info? c).isSome then rQ P (m9 d) (bc P a) 0 ((List.range g).map λf=>(c,f*bc P c))else D
  |_=>D
def jv(op:BinOp)(a:IntKind)(c b:Int):Option AV:=
 match op with
 |.add=>T (.int a (a.wrap (c+b)))
 |.sub=>T (.int a (a.wrap (c -b)))
 |.mul=>T (.int a (a.wrap (c*b)))
 |.quo=>if b=0 then D else T (.int a (a.wrap (c.tdiv b)))
 |.rem=>if b=0 then D else T (.int a (c.tmod b))
 |.and=>T (.int a (a.wrap (BitVec.ofInt a.bits c&&&BitVec.ofInt a.bits b).toNat))
 |.or=>T (.int a (a.wrap (BitVec.ofInt a.bits c|||BitVec.ofInt a.bits b).toNat))
 |.xor=>T (.int a (a.wrap (BitVec.ofInt a.bits c^^^BitVec.ofInt a.bits b).toNat))
 |.andNot=>T (.int a (a.wrap (BitVec.ofInt a.bits c&&&~~~BitVec.ofInt a.bits b).toNat))
 |.eql=>T (.bool (c==b))
 |.neq=>T (.bool (c !=b))
 |.lss=>T (.bool (c<b))
 |.leq=>T (.bool (c<=b))
 |.gtr=>T (.bool (c>b))
 |.geq=>T (.bool (c>=b))
 |_=>D
def tL(op:BinOp)(a b:List UInt8):Option AV:=
 match op with
 |.eql=>T (.bool (a==b))
 |.neq=>T (.bool (!(a==b)))
 |.lss=>T (.bool (Op.bytesLess a b))
 |.leq=>T (.bool (Op.bytesLess a b||a==b))
 |.gtr=>T (.bool (!(Op.bytesLess a b||a==b)))
 |.geq=>T (.bool (!Op.bytesLess a b))
 |_=>D
def rR(op:BinOp)(d:TypeId)(x j:AV):Option AV:=
 match x,j with
 |.int c b,.int h a=>
  match op with
  |.shl=>if a<0 then D else T (.int c (c.wrap (b*2^(min a.toNat c.bits))))
  |.shr=>if a<0 then D else T (.int c (b.fdiv (2^(min a.toNat c.bits))))
  |_=>if c=h then jv op c b a else D
 |.str b,.str a=>tL op b a
 |.bool b,.bool a=>
  match P.underlying d,op with
  |some .bool,.eql=>T (.bool (b==a))
  |some .bool,.neq=>T (.bool (!(b==a)))
  |_,_=>D
 |.agg f,.agg g=>
  if Z f=bc P d/\Z g=bc P d/\P.eqGuardType P.depth d=aa/\eU P d=ab then
   match m9 P 100 d with
   |some i=>
    match op,ft i f g with
    |.eql,T e=>T (.bool e)
    |.neq,T e=>T (.bool (!e))
    |_,_=>D
   |none=>D
  else D
 |x,.ai=>
  match P.underlying d,op,x.z1 with
  |some (.slice _),.eql,T a=>T (.bool a)
  |_,_,_=>D
 |_,_=>D
def ml(op:UnOp)(d:AV):Option AV:=
 match op,d with
 |.not,.bool b=>T (.bool (!b))
 |.neg,.int a c=>T (.int a (a.wrap (0 -c)))
 |_,_=>D
def vl(g e:TypeId)(h:AV):Option AV:=
 match P.underlying g,P.underlying e,h with
 |some (.int _),T (.int c),.int _ f=>T (.int c (c.wrap f))
 |some .string,T .string,.str a=>T (.str a)
 |some .string,T (.slice b),.str a=>
  match P.underlying b with
  |some (.int .u8)=>if bc P b=1 then T (.sl aa (a.map λd=>[.int .u8 d.toNat]))else D
  |_=>D
 |_,_,_=>D
def vm(place:Nat->Option (Nat×Nat))(cells:List AV):List (Nat×AV)->Option (List AV)
 |[]=>T cells
 |(b,a)::c=>
  match place b with
  |none=>D
  |some (off,size)=>if Z a.pl.cells=size/\off+size<=Z cells/\a.pl.cells.all AV.bP=ab then vm place (eV cells off a.pl.cells) c else D
def wP(f:TypeId)(parts:List (Nat×AV)):Option AV:=
 match P.underlying f,qO P f with
 |some (.struct e),T d=>if e.all λa=>(P.info? a.type).isSome then(vm (λc=>(e[c]?).map λa=>(a.offset,bc P a.type)) d parts).map .agg else D
 |some (.array _ b),T d=>if 0<bc P b then(vm (λc=>T (c*bc P b,bc P b)) d parts).map .agg else D
 |_,_=>D
def kj(d:Nat)(a:List (List AV)):List (Nat×AV)->Option (List (List AV))
 |[]=>T a
 |(c,b)::e=>if Z b.pl.cells=d/\c<Z a/\b.pl.cells.all AV.bP=ab then kj d (a.set c b.pl.cells) e else D
def rS(own:Bool)(b:AS)(e:TypeId)(len:Nat)(parts:List (Nat×AV)):Option (AV×AS):=
 match P.underlying e with
 |some (.slice a)=>
  if len*bc P a<=2^24/\0<bc P a then
   match qO P a with
   |some d=>
    if Z d=bc P a then
     match kj (bc P a) (List.replicate len d) parts with
     |some c=>
      if c.isEmpty then T (.dI,b)else if own then T (.q (Z b.hp) 0 0 len,{b with hp:=b.hp++[.arr 0 (bc P a) c]})else T (.sl aa c,b)
     |none=>D
    else D
   |none=>D
  else D
 |_=>D
def mm(h:AS)(b:Nat):AV->Option (List (List AV))
 |.ai=>T []
 |.dI=>T []
 |.sl _ a=>if a.all (λe=>Z e==b)then T a else D
 |.q id g off len=>
  match h.hp[id]? with
  |some (.arr f i a)=>if f=g/\i=b/\off+len<=Z a then T ((a.drop off).take len)else D
  |_=>D
 |.str c=>if b=1 then T (c.map λd=>[.int .u8 d.toNat])else D
 |_=>D
def mn(b:AS)(j:TypeId)(e k:AV):Option (AV×AS):=
 match P.underlying j with
 |some (.slice a)=>
  match qO P a,mm b (bc P a) k with
  |some l,T c=>
   if Z l=bc P a/\0<bc P a/\0<tH P a then
    if e.isNil=ab then if Z c*tH P a<=2^47 then T (.q (Z b.hp) 0 0 (Z c),{b with hp:=b.hp++[.arr 0 (bc P a) c]})else D else
    match e with
    |.q id g 0 len=>
     match b.hp[id]? with
     |some (.arr i f d)=>
      if i=g/\len<=Z d/\f=bc P a/\(len+Z c)*tH P a<=2^47 then
       T (.q id (g+1) 0 (len+Z c),{b with hp:=b.hp.set id (.arr (g+1) f (d.take len++c))})
      else D
     |_=>D
    |.qN d=>
     if 0<Z c/\d.all (λh=>Z h==bc P a)/\0<Z d/\(Z d+Z c)*tH P a<=2^47 then
      T (.q (Z b.hp) 0 0 (Z d+Z c),{b with hp:=b.hp++[.arr 0 (bc P a) (d++c)]})
     else D
    |_=>D
   else D
  |_,_=>D
 |_=>D
def pT(a:TypeId):Bool:=
 match P.underlying a with
 |some (.slice _)|some .string=>ab
 |_=>aa
def wQ(c:AS)(h:TypeId)(f e:AV):Option (AV×AS):=
 match P.underlying h,f,e with
 |some (.slice b),.int _ a,.int _ g=>
  match qO P b with
  |some d=>
   if Z d=bc P b/\0<bc P b/\a=g/\0<=a/\a*tH P b<=2^47/\a<2^47 then
    T (.q (Z c.hp) 0 0 a.toNat,{c with hp:=c.hp++[.arr 0 (bc P b) (List.replicate a.toNat d)]})
   else D
  |none=>D
 |_,_,_=>D
def n0(a:TypeId):Option (List Nat):=
 match P.underlying a with
 |some (.int _)|some .string=>m9 P 100 a
 |some (.array c b)=>match P.underlying b with|some (.int _)=>if bc P b=1/\c<=bc P a then m9 P 100 a else D|_=>D
 |_=>D
def qP(a:TypeId)(d:List Nat):AV->AV->Option Bool
 |.int e b,.int f c=>if e=f/\d=[0]/\eU P a=aa/\bc P a=1 then T (b==c)else D
 |.str b,.str c=>if d=[1]/\eU P a=aa/\bc P a=1 then T (b==c)else D
 |.agg b,.agg c=>if eU P a=ab/\Z b=bc P a/\Z c=bc P a then ft d b c else D
 |_,_=>D
def findKey(d:TypeId)(c:List Nat)(b:AV):List AV->Nat->Option (Option Nat)
 |[],_=>T D
 |x::e,a=>
  match qP P d c b x with
  |some ab=>T (T a)
  |some aa=>findKey d c b e (a+1)
  |none=>D
def mo(c:TypeId)(b:List Nat)(a:AV):Bool:=(qP P c b a a).isSome
def wR(b:AS):AV->Option (List AV×List AV)
 |.iu a vs=>T (a,vs)
 |.b5 id=>match b.hp[id]? with|some (.mp _ a vs)=>T (a,vs)|_=>D
 |_=>D
def vn(j:AS)(k:TypeId)(i b:AV)(ok:Bool):Option AV:=
 match P.underlying k,wR j i with
 |some (.map a f),T (h,vs)=>
  match n0 P a with
  |some c=>
   if mo P a c b then
    match findKey P a c b h 0 with
    |some (T g)=>match vs[g]? with|some d=>T (if ok then .aE [d,.bool ab]else d)|none=>D
    |some D=>
     match tI P f with
     |some e=>T (if ok then .aE [e,.bool aa]else e)
     |none=>D
    |none=>D
   else D
  |none=>D
 |_,_=>D
def vo(a:AS)(j:TypeId)(i b g:AV):Option AS:=
 match P.underlying j,i with
 |some (.map d _),.b5 id=>
  match a.hp[id]?,n0 P d with
  |some (.mp e c vs),T f=>
   if mo P d f b then
    match findKey P d f b c 0 with
    |some (T h)=>T {a with hp:=a.hp.set id (.mp e c (vs.set h g.pl))}
    |some D=>T {a with hp:=a.hp.set id (.mp e (c++[b]) (vs++[g.pl]))}
    |none=>D
   else D
  |_,_=>D
 |_,_=>D
def wS(a:AS)(j:TypeId)(i b:AV):Option (AV×AS):=
 match P.underlying j,i with
 |some (.map d h),.b5 id=>
  match a.hp[id]?,n0 P d with
  |some (.mp ab c vs),T f=>
   if mo P d f b then
    match findKey P d f b c 0 with
    |some (T e)=>match vs[e]? with|some k=>T (.aE [k,.int .i64 e],a)|none=>D
    |some D=>
     match tI P h with
     |some g=>T (.aE [g,.int .i64 (Z c)],{a with hp:=a.hp.set id (.mp ab (c++[b]) (vs++[g]))})
     |none=>D
    |none=>D
   else D
  |_,_=>D
 |_,_=>D
def yo(a:AS)(d e f:AV):Option AS:=
 match d,e with
 |.b5 id,.int _ (.ofNat c)=>
  match a.hp[id]? with
  |some (.mp ab b vs)=>if c<Z b then T {a with hp:=a.hp.set id (.mp ab b (vs.set c f.pl))}else D
  |_=>D
 |_,_=>D
def yp(a:AS)(h:TypeId)(g d:AV):Option AS:=
 match P.underlying h,g with
 |some (.map b _),.b5 id=>
  match a.hp[id]?,n0 P b with
  |some (.mp i f vs),T e=>
   if mo P b e d then
    match findKey P b e d f 0 with
    |some (T c)=>T {a with hp:=a.hp.set id (.mp aa (f.eraseIdx c) (vs.eraseIdx c))}
    |some D=>T a
    |none=>D
   else D
  |_,_=>D
 |_,_=>D
def kK(e:AS)(f:TypeId)(g:AV):Option AV:=
 match P.underlying f,g with
 |some .string,.str b=>T (.int .i64 (Z b))
 |some (.slice _),.ai=>T (.int .i64 0)
 |some (.slice _),.dI=>T (.int .i64 0)
 |some (.slice _),.sl _ c=>T (.int .i64 (Z c))
 |some (.slice _),.q _ _ _ len=>T (.int .i64 len)
 |some (.array d _),_=>T (.int .i64 d)
 |some (.map _ _),.b5 id=>match e.hp[id]? with|some (.mp _ a _)=>T (.int .i64 (Z a))|_=>D
 |some (.map _ _),.iu a _=>T (.int .i64 (Z a))
 |_,_=>D
def pU:List AV->Option AV
 |[.int c a,.int _ b]=>T (.int c (if b<a then b else a))
 |_=>D
def rT:List AV->Option AV
 |[.int c a,.int _ b]=>T (.int c (if b>a then b else a))
 |_=>D
def jw(a:AS)(f:Builtin)(e:List TypeId)(args:List AV):Option (AV×AS):=
 match f,e,args with
 |.len,[b],[d]=>(kK P a b d).map (·,a)
 |.append,[b,j],[g,d]=>if pT P j then mn P a b g d else D
 |.delete,[b,_],[i,h]=>(yp P a b i h).map (.aE [],·)
 |.min,_,c=>(pU c).map (·,a)
 |.max,_,c=>(rT c).map (·,a)
 |_,_,_=>D
variable(A:bQ)
def oP(a:List UInt8)(pos:Nat):Nat×Nat:=Utf8.decode ⟨a.toArray⟩ pos
def tM(c:AV)(a:List Obj):Option (AV×List Obj):=
 match c with
 |.str b=>T (.pQ (Z a),a++[.hM b 0])
 |_=>D
def rU(c:AV)(b:List Obj):Option (AV×List Obj):=
 match c with
 |.pQ id=>
  match b[id]? with
  |some (.hM a pos)=>if pos<Z a then T (.aE [.bool ab,.int .i64 pos,.int .i32 (oP a pos).1],b.set id (.hM a (pos+(oP a pos).2)))else T (.aE [.bool aa],b)
  |_=>D
 |_=>D
def qQ(b:AS)(a:Option (AV×List Obj)):Option (AV×AS):=a.map λa=>(a.1,{b with hp:=a.2})
def eL(a:AS)(b:Option AV):Option (AV×AS):=b.map (·,a)
def aT(a:AS)(p:Option Tmp)(op:Op):Option (AV×AS):=
 match op with
 |.move c=>T ((ay G a c).pl,a)
 |.assign c=>
  match c,p with
  |.const (.slice D 0 0),T d=>
   match look d A.acc with
   |some B=>T (.q (Z a.hp) 0 0 0,{a with hp:=a.hp++[.arr 0 B []]})
   |none=>T (.ai,a)
  |_,_=>T ((ay G a c).pl,a)
 |.pick g f e=>match ay G a g with|.bool b=>T ((if b then(ay G a f).pl else(ay G a e).pl),a)|_=>D
 |.alloc h=>
  match qO P h,p with
  |some j,T d=>
   if Z j=bc P h then
    if d∈A.lb then T (.lp d 0,{a with env:=m7 d a.env,bx:=put d j a.bx})
    else T (.ptr (Z a.hp) 0 0 0,{a with hp:=a.hp++[.arr 0 (bc P h) [j]]})
   else D
  |_,_=>D
 |.box h c=>
  match p with
  |some d=>
   let j:=(ay G a c).pl.cells
   if Z j=bc P h/\j.all AV.bP=ab then
    if d∈A.lb then T (.lp d 0,{a with env:=m7 d a.env,bx:=put d j a.bx})
    else if d∈A.own then T (.ptr (Z a.hp) 0 0 0,{a with hp:=a.hp++[.arr 0 (bc P h) [j]]})
    else T (.aK aa j 0,a)
   else D
  |none=>D
 |.build b u=>eL a (wP P b (u.toList.map λo=>(o.1,ay G a o.2)))
 |.buildSlice b n u=>rS P (p.any (· ∈A.own)) a b n (u.toList.map λo=>(o.1,ay G a o.2))
 |.load b f=>eL a ((m8 P a b (ay G a f)).map .pl)
 |.store b f v=>(tJ P a b (ay G a f) (ay G a v)).map (.undef,·)
 |.nilCheck c=>
  match ay G a c with
  |.fn i f e=>T (.fn i f e,a)
  |v=>eL a (lz a 0 v)
 |.binOp op b c E _=>eL a (rR P op b (ay G a c) (ay G a E))
 |.unOp op _ c=>eL a (ml op (ay G a c))
 |.convert f e c=>eL a (vl P f e (ay G a c))
 |.makeInterface b c=>match P.underlying b with|some (.interface _)=>D|some _=>T (.iface b (ay G a c).pl,a)|none=>D
 |.makeFunc i first cap=>match i with|.func i=>T (.fn i (first.toList.map λc=>(ay G a c).pl) (cap.toList.map λc=>(ay G a c).pl),a)|_=>D
 |.makeMap _ y=>match y with|none=>T (.b5 (Z a.hp),{a with hp:=a.hp++[.mp ab [] []]})|some _=>D
 |.makeSlice b x g=>wQ P a b (ay G a x) (ay G a g)
 |.range b c=>match P.underlying b with|some .string=>qQ a (tM (ay G a c) a.hp)|_=>D
 |.next c e=>if e then qQ a (rU (ay G a c) a.hp)else D
 |.slice b c s r t=>
  match P.underlying b,ay G a c with
  |some (.array n h),.aK e w 0=>
   if s.isNone&&r.isNone&&t.isNone&&S (Z w=n*bc P h)&&S (bc P h=1)then T (.sl e (w.map λg=>[g]),a)else D
  |_,v=>
   match oO s r t with
   |some n=>eL a (yn P b n v)
   |none=>ju P a b v (s.map (ay G a)) (r.map (ay G a)) (t.map (ay G a))
 |.fieldAddr b c i=>eL a (tK P a b (ay G a c) i)
 |.field b c i=>eL a ((z5 P b (ay G a c) i).map .pl)
 |.indexAddr b c m=>eL a (pS P a b (ay G a c) (ay G a m))
 |.index b c m=>eL a ((wO P b (ay G a c) (ay G a m)).map .pl)
 |.lookup b k l ok=>eL a ((vn P a b (ay G a k) (ay G a l) ok).map .pl)
 |.mapEntry b k l=>wS P a b (ay G a k) (ay G a l)
 |.entryStore _ k z v=>(yo a (ay G a k) (ay G a z) (ay G a v)).map (.undef,·)
 |.mapUpdate b k l v|.insert b k l v=>(vo P a b (ay G a k) (ay G a l) (ay G a v)).map (.undef,·)
 |.extract c m=>match ay G a c with|.aE vs=>(vs[m]?).map (·.pl,a)|_=>D
 |.typeAssert c _ b ok=>
  match P.underlying b,ay G a c with
  |some (.interface _),_=>D
  |some _,.iface C v=>if C=b/\ok=aa then T (v.pl,a)else D
  |_,_=>D
 |.call g=>
  match g.callee with
  |.builtin e=>jw P a e g.argTypes.toList (g.args.toList.map (ay G a))
  |_=>D
 |_=>D
def fD(c:Option Tmp)(a:AV×AS):AS:=
 match c with
 |some b=>{a.2 with env:=put b a.1 a.2.env}
 |none=>a.2
end
inductive Md where
 |c4|cm|res
 deriving DecidableEq
mutual
inductive aI(a:List Obj):Md->AV->AV->Prop
 |int (b:Md) (x:IntKind) (y:Int):aI a b (.int x y) (.int x y)
 |bool (b:Md) (c:Bool):aI a b (.bool c) (.bool c)
 |str (b:Md) (z:List UInt8):aI a b (.str z) (.str z)
 |hL (b:Md):aI a b .hL .hL
 |gO (b:Md):aI a b .gO .gO
 |ki (b:Md):aI a b .ki .ki
 |undef (b:Md) (k:AV):aI a b k .undef
 |ai (b:Md) (c:Bool):aI a b .ai (.sl c [])
 |dI (b:Md) (c:Bool):aI a b .dI (.sl c [])
 |agg (b:Md) (d e:List AV) (h:bR a b d e):aI a b (.agg d) (.agg e)
 |aE (b:Md) (d e:List AV) (h:bR a b d e):aI a b (.aE d) (.aE e)
 |yq (b:Md) (E:b≠.res) (c:Bool) (f i:List (List AV)) (h:eX a .c4 f i):aI a b (.sl c f) (.sl c i)
 |z7 (c:Bool) (f i:List (List AV)) (h:eX a .c4 f i):aI a .c4 (.sl c f) (.sl ab i)
 |Cw (c:Bool) (f i:List (List AV)) (h:eX a .res f i):aI a .res (.sl c f) (.sl c i)
 |Aa (c:Bool) (f i:List (List AV)) (h:eX a .cm f i):aI a .cm (.sl c f) (.sl ab i)
 |vq (id g off len o:Nat) (f i:List (List AV)) (r:a[id]?=T (.arr g o f)) (C:off+len<=Z f) (h:eX a .cm ((f.drop off).take len) i):aI a .cm (.q id g off len) (.sl ab i)
 |na (id g off len o:Nat) (f i:List (List AV)) (r:a[id]?=T (.arr g o f)) (C:off+len<=Z f) (h:eX a .res ((f.drop off).take len) i):aI a .res (.q id g off len) (.sl aa i)
 |tN (b:Md) (E:b≠.res) (c:Bool) (d e:List AV) (off:Nat) (h:bR a .c4 d e):aI a b (.aK c d off) (.aK c e off)
 |FJ (c:Bool) (d e:List AV) (off:Nat) (h:bR a .c4 d e):aI a .c4 (.aK c d off) (.aK ab e off)
 |Cx (c:Bool) (d e:List AV) (off:Nat) (h:bR a .res d e):aI a .res (.aK c d off) (.aK c e off)
 |yr (c:Bool) (d e:List AV) (off:Nat) (h:bR a .cm d e):aI a .cm (.aK c d off) (.aK ab e off)
 |pV (id g p off o:Nat) (f:List (List AV)) (d e:List AV) (r:a[id]?=T (.arr g o f)) (B:f[p]?=T d) (h:bR a .cm d e):aI a .cm (.ptr id g p off) (.aK ab e off)
 |FK (id g p off o:Nat) (f:List (List AV)) (d e:List AV) (r:a[id]?=T (.arr g o f)) (B:f[p]?=T d) (h:bR a .res d e):aI a .res (.ptr id g p off) (.aK aa e off)
 |ys (l vs m j:List AV) (h:bR a .c4 l m) (t:bR a .c4 vs j):aI a .c4 (.iu l vs) (.iu m j)
 |wT (l vs m j:List AV) (h:bR a .cm l m) (t:bR a .cm vs j):aI a .cm (.iu l vs) (.iu m j)
 |wU (id:Nat) (A:Bool) (l vs m j:List AV) (r:a[id]?=T (.mp A l vs)) (h:bR a .cm l m) (t:bR a .cm vs j):aI a .cm (.b5 id) (.iu m j)
 |fn (b:Md) (w:Nat) (u v d e:List AV) (h:bR a b u v) (t:bR a b d e):aI a b (.fn w u d) (.fn w v e)
 |iface (b:Md) (s:Nat) (k n:AV) (h:aI a b k n):aI a b (.iface s k) (.iface s n)
inductive bR (a:List Obj):Md->List AV->List AV->Prop
 |nil (b:Md):bR a b [] []
 |cons (b:Md) (k n:AV) (vs j:List AV) (h:aI a b k n) (s:bR a b vs j):bR a b (k::vs) (n::j)
inductive eX (a:List Obj):Md->List (List AV)->List (List AV)->Prop
 |nil (b:Md):eX a b [] []
 |cons (b:Md) (k n:List AV) (vs j:List (List AV)) (h:bR a b k n) (s:eX a b vs j):eX a b (k::vs) (n::j)
end
variable{N:List Obj}{cA:Md}{Y E:AV}{bg:List AV}
theorem bR.ck{vs:List AV}(a:aI N cA Y E)(b:bR N cA vs bg):bR N cA (Y::vs) (E::bg):=.cons _ _ _ _ _ a b
variable{bS:List (List AV)}
theorem eX.ck{a:List AV}{vs:List (List AV)}(b:bR N cA bg a)(c:eX N cA vs bS):eX N cA (bg::vs) (a::bS):=.cons _ _ _ _ _ b c
mutual
inductive NB:AV->Prop
 |int (f:IntKind) (g:Int):NB (.int f g)
 |bool (d:Bool):NB (.bool d)
 |str (h:List UInt8):NB (.str h)
 |hL:NB .hL
 |gO:NB .gO
 |ki:NB .ki
 |undef:NB .undef
 |agg (a:List AV) (b:rV a):NB (.agg a)
 |aE (a:List AV) (b:rV a):NB (.aE a)
 |KC (d:Bool):NB (.sl d [])
 |sl (e:List (List AV)) (b:vr e):NB (.sl aa e)
 |aK (a:List AV) (off:Nat) (b:rV a):NB (.aK aa a off)
inductive rV:List AV->Prop
 |nil:rV []
 |cons (c:AV) (vs:List AV) (b:NB c) (i:rV vs):rV (c::vs)
inductive vr:List (List AV)->Prop
 |nil:vr []
 |cons (c:List AV) (vs:List (List AV)) (b:rV c) (i:vr vs):vr (c::vs)
end
inductive wV(s:AS):Md->AV->AV->Prop
 |of (m:Md) (v u:AV) (h:aI s.hp m v u):wV s m v u
 |lp (k off:Nat) (cs ds:List AV) (hb:look k s.bx=T cs) (h:bR s.hp .cm cs ds):wV s .cm (.lp k off) (.aK ab ds off)
inductive n4(s:AS)(m:Md):List AV->List AV->Prop
 |nil:n4 s m [] []
 |cons (v u:AV) (vs us:List AV) (h:wV s m v u) (t:n4 s m vs us):n4 s m (v::vs) (u::us)
inductive eN where
 |norm
 |exit(id:Nat)
 |ret
 deriving DecidableEq
abbrev eD:=Nat->List AV->List Obj->AV->List Obj->Prop
section
variable(P:Program)(G:Nat->Option (List AV))(An:Nat->bQ)(X:eD)
def fu(d:Array Oper)(e:AS)(c:Oper):Option Bool:=
 match c.guard with
 |none=>T ab
 |some (b,g)=>
  match(d[b]?).bind (·.dst)with
  |some f=>
   match look f e.env with
   |some (.bool a)=>T (a==g)
   |some (.aE [])=>T aa
   |_=>D
  |none=>D
def h0(b:AS)(c:Call):Option (Nat×List AV):=
 match c.callee with
 |.value a=>
  match ay G b a with
  |.fn a first cap=>T (a,first.map AV.pl++c.args.toList.map (ay G b)++cap.map AV.pl)
  |_=>D
 |.invoke i name=>
  match ay G b i with
  |.iface e f=>
   match((P.info? e).bind λh=>h.methods.find? (·.name==name))with
   |some d=>
    match d.path.toList,d.func,P.underlying e with
    |[],T (a,ab),T (.pointer _)=>T (a,f.pl::c.args.toList.map (ay G b))
    |[],T (a,aa),T (.pointer g)=>
     match m8 P b g f.pl with
     |some j=>T (a,j.pl::c.args.toList.map (ay G b))
     |none=>D
    |_,_,_=>D
   |none=>D
  |_=>D
 |.builtin _=>D
def qR(b:bQ)(a:AS):AS:={env:=jJ b.mj a.env,bx:=jJ b.mj a.bx,hp:=a.hp}
def oQ(c:bQ)(d:Operand)(a:AS):AS:=
 match d with
 |.tmp b=>if b∈c.cs then{a with env:=nX b a.env}else a
 |_=>a
def Cy(b a:AS):AS:={env:=jJ (b.env.map (·.1)) a.env,bx:=jJ (b.bx.map (·.1)) a.bx,hp:=a.hp}
def fO(b:Array Oper)(a:List Nat):List Oper:=a.filterMap (b[·]?)
def n5(a:Array Oper)(done:List Nat):List Nat->Prop
 |[]=>∀i,i<a.size->i∈done
 |i::d=>i∉done/\(∃c,a[i]?=T c/\∀b∈c.after,Region.binds .any b=ab->b.on∈done)/\n5 a (i::done) d
def tO(c:Nat)(e:Array Oper):Bool:=
 e.toList.zipIdx.all λ(b,d)=>b.dst.all (· <c)&&b.after.all λa=> !Region.binds .any a||a.on<d
def gk(b:Nat):Code->Bool
 |.region _ d _=>tO b d
 |.seq a c=>gk b a&&gk b c
 |.cond _ a c=>gk b a&&gk b c
 |.block _ a=>gk b a
 |.loop a=>gk b a
 |.scope a=>gk b a
 |_=>ab
def mq:Nat->List AV->List (Nat×AV)
 |_,[]=>[]
 |k,a::vs=>(k,a)::mq (k+1) vs
def vt(a:AS):ResultVar->Option AV
 |.tmp b=>T ((look b a.env).getD .undef).pl
 |.cell c b=>(m8 P a b ((look c a.env).getD .undef)).map .pl
def tP(a:AS):List ResultVar->Option (List AV)
 |[]=>T []
 |r::b=>
  match vt P a r,tP a b with
  |some c,T vs=>T (c::vs)
  |_,_=>D
def vu(fn:Func)(a:AS):Option AV:=
 match tP P a fn.results.toList with
 |some [b]=>T b
 |some vs=>T (.aE vs)
 |none=>D
mutual
inductive mr:bQ->Array Oper->List Oper->AS->AS->Prop
 |nil (b:bQ) (f:Array Oper) (a:AS):mr b f [] a a
 |skip (b:bQ) (f:Array Oper) (c:Oper) (j:List Oper) (a d:AS) (t:fu f a c=T aa) (g:mr b f j (fD c.dst (.aE [],a)) d):mr b f (c::j) a d
 |op (b:bQ) (f:Array Oper) (c:Oper) (j:List Oper) (a d:AS) (h:AV×AS) (t:fu f a c=T ab) (n:aT P G b a c.dst c.op=T h) (g:mr b f j (fD c.dst h) d):mr b f (c::j) a d
 |sJ (b:bQ) (f:Array Oper) (c:Oper) (j:List Oper) (a d:AS) (l:Call) (i:Nat) (u:Md) (args w:List AV) (B h:AV) (z:List Obj) (t:fu f a c=T ab) (n:c.op=.call l) (x:h0 P G a l=T (i,args))
  (M:u≠.res) (I:n4 a u args w) (A:jK i w [] B z) (Q:aI z .res B h) (H:u=.cm->NB h) (g:mr b f j (fD c.dst (h,a)) d):mr b f (c::j) a d
 |sK (b:bQ) (f:Array Oper) (c:Oper) (j:List Oper) (a d:AS) (l:Call) (i:Nat) (args:List AV) (h:AV) (y:List Obj) (t:fu f a c=T ab) (n:c.op=.call l) (x:h0 P G a l=T (i,args))
  (A:jK i (args.map AV.pl) a.hp h y) (g:mr b f j (fD c.dst (h.pl,{a with hp:=y})) d):mr b f (c::j) a d
inductive hN:bQ->Code->AS->eN->AS->Prop
 |skip (b:bQ) (a:AS):hN b .skip a .norm a
 |label (b:bQ) (r:Nat) (a:AS):hN b (.label r) a .norm a
 |region (b:bQ) (id:Nat) (f:Array Oper) (a d:AS) (g:mr b f f.toList a d):hN b (.region id f aa) a .norm (qR b d)
 |Cz (b:bQ) (id:Nat) (f:Array Oper) (a d:AS) (g:∀r,n5 f [] r->mr b f (fO f r) a d):hN b (.region id f ab) a .norm (qR b d)
 |seq (b:bQ) (e m:Code) (a k d:AS) (c:eN) (g:hN b e a .norm k) (E:hN b m k c d):hN b (.seq e m) a c d
 |FL (b:bQ) (e m:Code) (a d:AS) (c:eN) (g:hN b e a c d) (n:c≠.norm):hN b (.seq e m) a c d
 |cond (b:bQ) (l:Operand) (e m:Code) (a d:AS) (c:eN) (C:Bool) (x:ay G a l=.bool C) (g:hN b (if C then e else m) (oQ b l a) c d):hN b (.cond l e m) a c d
 |block (b:bQ) (id:Nat) (e:Code) (a d:AS) (c:eN) (g:hN b e a c d) (n:c≠.exit id):hN b (.block id e) a c d
 |TT (b:bQ) (id:Nat) (e:Code) (a d:AS) (g:hN b e a (.exit id) d):hN b (.block id e) a .norm d
 |loop (b:bQ) (e:Code) (a k d:AS) (c:eN) (g:hN b e a .norm k) (E:hN b (.loop e) (Cy a k) c d):hN b (.loop e) a c d
 |TU (b:bQ) (e:Code) (a d:AS) (c:eN) (g:hN b e a c d) (n:c≠.norm):hN b (.loop e) a c d
 |exit (b:bQ) (id:Nat) (a:AS):hN b (.exit id) a (.exit id) a
 |ret (b:bQ) (a:AS):hN b .ret a .ret a
 |scope (b:bQ) (e:Code) (a d:AS) (c:eN) (g:hN b e a c d):hN b (.scope e) a c d
 |sub (b:bQ) (e:Code) (a k d:AS) (c:eN) (J:∀p q,look p k.env=T q->look p a.env=T q) (F:∀p q,look p k.bx=T q->look p a.bx=T q) (L:k.hp=a.hp) (g:hN b e k c d):hN b e a c d
inductive jK:Nat->List AV->List Obj->AV->List Obj->Prop
 |run (i:Nat) (fn:Func) (s:Code) (args:List AV) (o:List Obj) (c:eN) (d:AS) (h:AV) (K:P.funcs[i]?=T fn) (F:fn.body=T s) (N:(fn.name== "runtime.NumGoroutine")=aa) (H:Z args<=fn.ntmps) (O:gk fn.ntmps s=ab)
  (g:hN (An i) s {env:=mq 0 args,bx:=[],hp:=o} c d) (n:c=.norm\/c=.ret) (A:vu P fn d=T h):jK i args o h d.hp
 |vv (i:Nat) (args:List AV) (o v:List Obj) (h:AV) (g:X i args o h v):jK i args o h v
end
end
structure l where
 w:World
 S:Bool->Nat->Prop
 h:Nat->Option (Nat×Nat)
 bx:Nat->Option Nat
 H:List Obj
mutual
inductive R(E:l):AV->Value->Prop
 |int (o:IntKind) (I:Int):R E (.int o I) (.int o I)
 |bool (a:Bool):R E (.bool a) (.bool a)
 |str (a:ByteArray):R E (.str a.data.toList) (.string a)
 |agg (d:List AV) (vs:Array Value) (f:RL E d vs.toList) (B:∀i∈vs.toList,i.oneCell'=ab):R E (.agg d) (.agg vs)
 |aE (d:List AV) (vs:Array Value) (f:RL E d vs.toList):R E (.aE d) (.tuple vs)
 |ai:R E .ai (.slice D 0 0)
 |dI (e:Addr):R E .dI (.slice (T e) 0 0)
 |oN:R E .oN (.map D)
 |h5 (a:Bool) (e:Option Addr) (cap:Nat):R E (.sl a []) (.slice e 0 cap)
 |sl (n:Bool) (b:List (List AV)) (a k o cap:Nat) (d:Array Value) (t:TypeId) (u:Nat×Nat) (C:E.S n a) (F:E.w.heap[a]?=T (.cells d t u)) (M:∀J∈b,Z J=o)
  (Q:Z b<=cap) (N:k+Z b*o<=d.size) (f:RL E b.flatten ((d.toList.drop k).take (Z b*o))) (B:∀i∈(d.toList.drop k).take (Z b*o),i.oneCell'=ab):R E (.sl n b) (.slice (T ⟨a,k,D⟩) (Z b) cap)
 |q (id g off len:Nat) (c:Value) (x:id<Z E.H) (v:∃e cap,c=.slice e len cap) (L:∀p j b,E.H[id]?=T (.arr p j b)->g<=p)
  (f:∀j b,E.H[id]?=T (.arr g j b)->∃e cap,c=.slice e len cap/\len<=cap/\off+len<=Z b/\(cap=0\/∃a m,E.h id=T (a,m)/\e=T ⟨a,off*j,D⟩/\(off+cap)*j<=m)):R E (.q id g off len) c
 |qN (n:Bool) (b:List (List AV)) (e:Option Addr) (f:R E (.sl n b) (.slice e (Z b) (Z b))):R E (.qN b) (.slice e (Z b) (Z b))
 |iu (s vs:List AV) (a clock:Nat) (b:Array MapEntry) (C:E.S ab a) (F:E.w.heap[a]?=T (.map b clock)) (M:RL E s (b.toList.map (·.key))) (U:RL E vs (b.toList.map (·.val))):R E (.iu s vs) (.map (T a))
 |b5 (id:Nat) (c:Value) (x:id<Z E.H) (v:c.oneCell'=ab) (f:∀K s vs,E.H[id]?=T (.mp K s vs)->∃a m,E.h id=T (a,m)/\c=.map (T a)):R E (.b5 id) c
 |pQ (id:Nat) (c:Value) (x:id<Z E.H) (v:c.oneCell'=ab) (f:∀O pos,E.H[id]?=T (.hM O pos)->∃a m,E.h id=T (a,m)/\c=.pointer (T ⟨a,0,D⟩)):R E (.pQ id) c
 |ptr (id g G off:Nat) (c:Value) (x:id<Z E.H) (v:c.oneCell'=ab) (L:∀p j b,E.H[id]?=T (.arr p j b)->g<=p) (f:∀j b,E.H[id]?=T (.arr g j b)->∃a m,E.h id=T (a,m)/\c=.pointer (T ⟨a,G*j+off,D⟩)):R E (.ptr id g G off) c
 |aK (n:Bool) (d:List AV) (off a k:Nat) (vs:Array Value) (t:TypeId) (u:Nat×Nat) (C:E.S n a) (F:E.w.heap[a]?=T (.cells vs t u)) (N:k+Z d<=vs.size)
  (f:RL E d ((vs.toList.drop k).take (Z d))) (B:∀i∈(vs.toList.drop k).take (Z d),i.oneCell'=ab):R E (.aK n d off) (.pointer (T ⟨a,k+off,D⟩))
 |hL:R E .hL (.pointer D)
 |fn (A:Nat) (z d:List AV) (r vs:Array Value) (f:RL E z r.toList) (P:RL E d vs.toList):R E (.fn A z d) (.func (.func A) r vs)
 |gO:R E .gO .nilFunc
 |iface (y:Nat) (c:AV) (i:Value) (f:R E c i):R E (.iface y c) (.iface y i)
 |ki:R E .ki .nilIface
 |undef (c:Value):R E .undef c
inductive RL (E:l):List AV->List Value->Prop
 |nil:RL E [] []
 |cons (c:AV) (i:Value) (vs:List AV) (r:List Value) (f:R E c i) (y:RL E vs r):RL E (c::vs) (i::r)
end
def qS(b:l)(id:Nat):Obj->Prop
 |.arr _ e a=>(∀i∈a,Z i=e)/\
  ((a=[]/\b.h id=D)\/∃c d j,b.h id=T (c,d.size)/\b.w.heap[c]?=T (.cells d j (0,0))/\Z a*e<=d.size/\RL b a.flatten (d.toList.take (Z a*e))/\∀n∈d.toList.take (Z a*e),n.oneCell'=ab)
 |.mp k f vs=>∃(c:Nat)(a:Array MapEntry)(clock:Nat),b.h id=T (c,0)/\b.w.heap[c]?=T (.map a clock)/\RL b f (a.toList.map (·.key))/\RL b vs (a.toList.map (·.val))/\(k=ab->clock=Z f/\a.toList.map (·.born)=List.range (Z f))
 |.hM m pos=>∃(c:Nat)(g:ByteArray),b.h id=T (c,0)/\b.w.heap[c]?=T (.stringIter g pos)/\g.data.toList=m
structure Good(E:l):Prop where
 jL:∀br b,E.S br b->E.S ab b
 jy:∀b,E.S ab b->b<E.w.heap.size
 dX:∀id b z,E.h id=T (b,z)->b<E.w.heap.size/\¬E.S ab b/\id<Z E.H
 kL:∀i j b z z',E.h i=T (b,z)->E.h j=T (b,z')->i=j
 blt:∀k b,E.bx k=T b->b<E.w.heap.size/\¬E.S ab b/\∀id z,E.h id≠T (b,z)
 nf:∀i j b,E.bx i=T b->E.bx j=T b->i=j
 iw:∀id o,E.H[id]?=T o->qS E id o
def iK:Obj->Obj->Option (Nat×Nat)->Option (Nat×Nat)->Prop
 |.arr g f d,.arr c h e,a,b=>g<=c/\(g=c->f=h/\Z d=Z e/\b=a)
 |.mp _ _ _,.mp _ _ _,a,b=>b=a
 |.hM _ _,.hM _ _,a,b=>b=a
 |_,_,_,_=>False
theorem iK.refl(a:Obj)(b:Option (Nat×Nat)):iK a a b b:=by
 cases a<;>simp[iK]
variable{iX:Obj}
theorem iK.trans{c d:Obj}{g h i:Option (Nat×Nat)}(a:iK iX c g h)(b:iK c d h i):iK iX d g i:=by
 cases iX<;>cases c<;>simp only[iK]at a<;>cases d<;>simp only[iK]at b<;>simp only[iK]
 ·obtain⟨j,k⟩:=a
  obtain⟨l,m⟩:=b;refine⟨iU j l,λn=>?_⟩;have e:=k (by omega);have f:=m (by omega);exact⟨e.1.trans f.1,e.2.1.trans f.2.1,f.2.2.trans e.2.2⟩
 ·exact b.trans a
 ·exact b.trans a
structure Fr(E E':l):Prop where
 os:E'.w.os=E.w.os
 output:E'.w.output=E.w.output
 tape:E'.w.tape=E.w.tape∧E.w.drawn<=E'.w.drawn
 size:E.w.heap.size<=E'.w.heap.size
 pW:∀br b,E.S br b->E'.S br b
 pX:∀br b,E'.S br b->E.S br b\/E.w.heap.size<=b
 heap:∀b,b<E.w.heap.size->(∀id z,E.h id≠T (b,z))->(∀k,E.bx k≠T b)->E'.w.heap[b]?=E.w.heap[b]?
 kk:Z E.H<=Z E'.H
 jZ:∀id o',id<Z E.H->E'.H[id]?=T o'->∃o,E.H[id]?=T o/\iK o o' (E.h id) (E'.h id)
 oR:∀id b z,E'.h id=T (b,z)->(∃i z',E.h i=T (b,z'))\/E.w.heap.size<=b
 rW:∀k b,E'.bx k=T b->(∃k',E.bx k'=T b)\/E.w.heap.size<=b
theorem Fr.refl(E:l):Fr E E where
 os:=rfl
 output:=rfl
 tape:=⟨rfl,di _⟩
 size:=di _
 pW:=λ_ _ h=>h
 pX:=λ_ _ h=>.inl h
 heap:=λ_ _ _ _=>rfl
 kk:=di _
 jZ:=λ_ a _ h=>⟨a,h,iK.refl _ _⟩
 oR:=by grind
 rW:=by grind
theorem Fr.trans{A B C:l}(x:Fr A B)(y:Fr B C):Fr A C where
 os:=y.os.trans x.os
 output:=y.output.trans x.output
 tape:=⟨y.tape.1.trans x.tape.1,iU x.tape.2 y.tape.2⟩
 size:=iU x.size y.size
 pW:=λc b h=>y.pW c b (x.pW c b h)
 pX:=λc b h=>by
  rcases y.pX c b h with h|h
  ·exact x.pX c b h
  ·exact .inr (iU x.size h)
 heap:=λb hb m q=>by
  rw[y.heap b (jQ hb x.size) ?_ ?_,x.heap b hb m q]
  ·intro id z e
   rcases x.oR id b z e with⟨i,f,j⟩|h
   ·grind
   ·omega
  ·intro k e
   rcases x.rW k b e with⟨s,j⟩|h
   ·grind
   ·omega
 kk:=iU x.kk y.kk
 jZ:=λid r d h=>by
  obtain⟨o,n,a⟩:=y.jZ id r (jQ d x.kk) h;obtain⟨p,hp,g⟩:=x.jZ id o d n;exact⟨p,hp,g.trans a⟩
 oR:=λid b z h=>by
  rcases y.oR id b z h with⟨i,f,e⟩|h
  ·exact x.oR i b f e
  ·exact .inr (iU x.size h)
 rW:=λk b h=>by
  rcases y.rW k b h with⟨i,e⟩|h
  ·exact x.rW i b e
  ·exact .inr (iU x.size h)
variable{L fM:l}{V:Bool}{U:Nat}
theorem Fr.KE(c:Fr L fM)(g:Good L)(d:L.S V U):fM.w.heap[U]?=L.w.heap[U]?:=
 have b:=g.jL V U d
 c.heap U (g.jy U b) (λid f a=>(g.dX id U f a).2.1 b) (λe a=>(g.blt e U a).2.1 b)
structure Rm(E E':l):Prop where
 S:∀br b,E.S br b->E'.S br b
 heap:∀br b,E.S br b->E'.w.heap[b]?=E.w.heap[b]?
 kk:Z E.H<=Z E'.H
 jZ:∀id o',id<Z E.H->E'.H[id]?=T o'->∃o,E.H[id]?=T o/\iK o o' (E.h id) (E'.h id)
theorem Fr.rm(a:Fr L fM)(g:Good L):Rm L fM:=⟨a.pW,λ_ _ b=>a.KE g b,a.kk,a.jZ⟩
mutual
theorem R.iB{p r:l}(b:Rm p r):∀{d:AV}{n:Value},R p d n->R r d n
 |_,_,.int G ac=>.int G ac
 |_,_,.bool f=>.bool f
 |_,_,.str f=>.str f
 |_,_,.agg j vs c w=>.agg j vs (RL.iB b c) w
 |_,_,.aE j vs c=>.aE j vs (RL.iB b c)
 |_,_,.ai=>.ai
 |_,_,.dI a=>.dI a
 |_,_,.oN=>.oN
 |_,_,.h5 f a cap=>.h5 f a cap
 |_,_,.sl t k f e G cap j B C o x E V F c w=>.sl t k f e G cap j B C (b.S _ f o) ((b.heap _ _ o).trans x) E V F (RL.iB b c) w
 |_,_,.q id v off len d g s y c=>by
  refine .q id v off len d (jQ g b.kk) s (λQ H k i=>?_) λH k i=>?_
  ·obtain⟨e,m,a⟩:=b.jZ id _ g i
   cases e with
   |arr u I A=>exact iU (y _ _ _ m) a.1
   |mp _ _ _=>cases a
   |hM _ _=>cases a
  ·obtain⟨e,m,a⟩:=b.jZ id _ g i
   cases e with
   |arr u I A=>
    have z:u=v:=akE a.1 (y _ _ _ m)
    obtain⟨N,X,W⟩:=a.2 z
    grind
   |mp _ _ _=>cases a
   |hM _ _=>cases a
 |_,_,.qN t k a c=>.qN t k a (R.iB b c)
 |_,_,.iu L vs f clock k o x E Y=>.iu L vs f clock k (b.S _ f o) ((b.heap _ _ o).trans x) (RL.iB b E) (RL.iB b Y)
 |_,_,.b5 id d g s c=>.b5 id d (jQ g b.kk) s λP L vs i=>by
  obtain⟨e,m,a⟩:=b.jZ id _ g i
  cases e with
  |arr _ _ _=>cases a
  |mp P ad ak=>rw[show r.h id=p.h id from a];grind
  |hM _ _=>cases a
 |_,_,.pQ id d g s c=>.pQ id d (jQ g b.kk) s λaf pos i=>by
  obtain⟨e,m,a⟩:=b.jZ id _ g i
  cases e with
  |arr _ _ _=>cases a
  |mp _ _ _=>cases a
  |hM ah ae=>rw[show r.h id=p.h id from a];grind
 |_,_,.ptr id v Z off d g s y c=>by
  refine .ptr id v Z off d (jQ g b.kk) s (λQ H k i=>?_) λH k i=>?_
  ·obtain⟨e,m,a⟩:=b.jZ id _ g i
   cases e with
   |arr u I A=>exact iU (y _ _ _ m) a.1
   |mp _ _ _=>cases a
   |hM _ _=>cases a
  ·obtain⟨e,m,a⟩:=b.jZ id _ g i
   cases e with
   |arr u I A=>
    have z:u=v:=akE a.1 (y _ _ _ m)
    obtain⟨N,X,W⟩:=a.2 z
    grind
   |mp _ _ _=>cases a
   |hM _ _=>cases a
 |_,_,.aK t j off f e vs B C o x F c w=>.aK t j off f e vs B C (b.S _ f o) ((b.heap _ _ o).trans x) F (RL.iB b c) w
 |_,_,.hL=>.hL
 |_,_,.fn O M j K vs c U=>.fn O M j K vs (RL.iB b c) (RL.iB b U)
 |_,_,.gO=>.gO
 |_,_,.iface J d n c=>.iface J d n (R.iB b c)
 |_,_,.ki=>.ki
 |_,_,.undef d=>.undef d
theorem RL.iB {p r:l} (b:Rm p r):∀{d:List AV}{n:List Value},RL p d n->RL r d n
 |_,_,.nil=>.nil
 |_,_,.cons d n vs K c J=>.cons d n vs K (R.iB b c) (RL.iB b J)
end
variable{bL:Value}
theorem R.mono(a:Fr L fM)(g:Good L)(b:R L Y bL):R fM Y bL:=R.iB (a.rm g) b
variable{gD:List Value}
theorem RL.mono(a:Fr L fM)(g:Good L)(b:RL L bg gD):RL fM bg gD:=RL.iB (a.rm g) b
theorem RL.length:∀{a:List AV}{vs:List Value},RL L a vs->Z vs=Z a
 |_,_,.nil=>rfl
 |_,_,.cons _ _ _ _ _ b=>by simp[RL.length b]
theorem RL.append:∀{b c:List AV}{vs d:List Value},RL L b vs->RL L c d->RL L (b++c) (vs++d)
 |_,_,_,_,.nil,a=>a
 |_,_,_,_,.cons _ _ _ _ e f,a=>.cons _ _ _ _ e (RL.append f a)
theorem RL.drop:∀(n:Nat){a:List AV}{vs:List Value},RL L a vs->RL L (a.drop n) (vs.drop n)
 |0,_,_,b=>by simpa using b
 |_+1,_,_,.nil=>.nil
 |n+1,_,_,.cons _ _ _ _ _ c=>by simpa using RL.drop n c
theorem RL.take:∀(n:Nat){a:List AV}{vs:List Value},RL L a vs->RL L (a.take n) (vs.take n)
 |0,_,_,_=>by simpa using RL.nil
 |_+1,_,_,.nil=>.nil
 |n+1,_,_,.cons _ _ _ _ b c=>by simpa using RL.cons _ _ _ _ b (RL.take n c)
theorem RL.get:∀{e:List AV}{vs:List Value},RL L e vs->∀{d:Nat}{f:AV},e[d]?=T f->∃b,vs[d]?=T b/\R L f b
 |_,_,.nil,_,_,c=>by simp at c
 |_,_,.cons _ b _ _ c _,0,_,a=>by simp at a;subst a;exact⟨b,by simp,c⟩
 |_,_,.cons _ _ _ _ _ g,d+1,_,a=>by simp at a;simpa using RL.get g a
theorem RL.replicate{vs:List Value}(a:RL L bg vs):∀n:Nat,RL L (List.replicate n bg).flatten (List.replicate n vs).flatten
 |0=>.nil
 |n+1=>by simpa[List.replicate_succ]using RL.append a (RL.replicate a n)
theorem RL.one(a:R L Y bL):RL L [Y] [bL]:=.cons _ _ _ _ a .nil
theorem R.Ab(b:R L Y bL)(f:Y.bP=ab):bL.oneCell'=true:=by
 cases b with
 |q id g off len Y c a d b=>obtain⟨e,cap,rfl⟩:=a;rfl
 |b5 id Y c a b=>exact a
 |pQ id Y c a b=>exact a
 |ptr id g h off Y c a d b=>exact a
 |_=>first|rfl|grind[AV.bP]
def RT(a:l)(e:AV)(d:Value):Prop:=R a e d\/∃c off b,e=.lp c off/\a.bx c=T b/\d=.pointer (T ⟨b,off,D⟩)
theorem R.pl(a:RT L Y bL):R L Y.pl bL:=by
 rcases a with a|⟨c,off,b,rfl,_,_⟩
 ·cases Y<;>first|exact a|exact .undef _
 ·exact .undef _
structure St(E:l)(s:AS)(tmps:Array Value):Prop where
 b1:Good E
 hp:s.hp=E.H
 env:∀k v,look k s.env=T v->RT E v (tmps.getD k undef)
 bx:∀k cs,look k s.bx=T cs->∃b vs ety,E.bx k=T b/\E.w.heap[b]?=T (.cells vs ety (0,0))/\RL E cs vs.toList/\∀u∈vs.toList,u.oneCell'=ab
def l.base(a:l):l:={w:=a.w,S:=λ_=>a.S aa,h:=λ_=>D,bx:=λ_=>D,H:=[]}
theorem l.TV{E:l}(g:Good E):Rm E.base E where
 S:=λa b h=>by cases a;exact h;exact g.jL aa b h
 heap:=λ_ _ _=>rfl
 kk:=Nat.zero_le _
 jZ:=λid c h=>absurd h (J8 _)
theorem Fr.base{E:l}(f:Fr E L)(g:Good E):Rm E.base L.base where
 S:=λ_ b h=>f.pW aa b h
 heap:=λ_ _ h=>f.KE g (V:=false) h
 kk:=di _
 jZ:=λid c h=>absurd h (J8 _)
def dC(c:Nat->Option (List AV))(b:l):Prop:=∀g a,c g=T a->R b.base (.aK aa a 0) (.pointer (T ⟨g,0,D⟩))
theorem dC.mono{a:Nat->Option (List AV)}(e:dC a L)(d:Fr L fM)(g:Good L):dC a fM:=λf b c=>R.iB (d.base g) (e f b c)
theorem dC.KF{a:Nat->Option (List AV)}(d:dC a L)(c:fM.base=L.base):dC a fM:=λf b e=>by rw[c];exact d f b e
variable{t:TypeId}{mX:TypeInfo}{iY:TypeDesc}{K:AS}{s:Act}{B:Oper}{e:World}{fq:Array Value}{mU:Nat × Nat}{cK:TypeId}{c:Operand}
section
variable{P:Program}{G:Nat->Option (List AV)}{A:bQ}
theorem jf(a:P.info? t=T mX):bc P t=mX.size:=by simp[bc,a]
theorem KG(a:P.info? t=T mX):tH P t=mX.bytes:=by simp[tH,a]
theorem info_of_underlying(b:P.underlying t=T iY):∃a,P.info? t=T a:=by
 grind[Program.underlying]
theorem Ad(a:P.underlying t=T iY):eU P t=ym iY:=by
 simp[eU,a]
theorem KH{b:AV}(a:ofValue bL=T b):R L b bL/\b.bP=true:=by
 unfold ofValue at a;split at a<;>simp at a<;>subst a
 ·exact⟨.bool _,rfl⟩
 ·exact⟨.int _ _,rfl⟩
 ·exact⟨.str _,rfl⟩
 ·exact⟨.hL,rfl⟩
 ·exact⟨.ai,rfl⟩
 ·exact⟨.gO,rfl⟩
 ·exact⟨.ki,rfl⟩
 ·exact⟨.oN,rfl⟩
theorem FM{b:l}:∀{vs:List Value}{c:List AV},vk vs=T c->RL b c vs/\∀h∈vs,h.oneCell'=ab
 |[],c,a=>by simp[vk]at a;subst a;exact⟨.nil,by simp⟩
 |v::vs,c,a=>by
  simp only[vk]at a;cases f:ofValue v with
  |none=>grind
  |some k=>
   cases g:vk vs with
   |none=>grind
   |some m=>
    simp[f,g]at a;subst a;obtain⟨d,i⟩:=KH (L:=b) f;obtain⟨j,n⟩:=FM (b:=b) g;refine⟨.cons _ _ _ _ d j,λh e=>?_⟩;rcases cf.1 e with rfl|e
    ·exact d.Ab i
    grind
theorem KI:R L ((pR bL).getD .undef) bL:=by
 cases bL with
 |agg a=>
  simp only[pR];cases b:vk a.toList with
  |none=>exact .undef _
  |some h=>obtain⟨c,d⟩:=FM (b:=L) b;exact .agg _ _ c d
 |_=>
  simp only[pR];generalize e:ofValue _=f;cases f with
  |none=>exact .undef _
  |some g=>exact(KH e).1
theorem dU(c:St L K s.tmps)(i:dC G L)(b:Operand):RT L (ay G K b) (s.eval b):=by
 cases b with
 |tmp d=>
  simp only[ay,Act.eval];cases a:look d K.env with
  |none=>exact .inl (.undef _)
  |some e=>exact c.env d e a
 |const e=>exact .inl KI
 |global g=>
  simp only[ay,Act.eval];cases a:G g with
  |none=>exact .inl (.undef _)
  |some f=>exact .inl (R.iB (l.TV c.b1) (i g f a))
 |func h=>exact .inl (.fn h [] [] #[] #[] .nil .nil)
theorem R.cells{b:AV}(a:R L b bL)(d:b.cells.all AV.bP=ab):RL L b.cells bL.cells.toList/\∀f∈bL.cells.toList,f.oneCell'=true:=by
 cases b with
 |agg g=>cases a with|agg _ vs a c=>exact⟨a,c⟩
 |_=>
  simp only[AV.cells,qJ,zP,ve]at d;have c:=a.Ab d;have e:bL.cells=#[bL]:=by cases bL<;>first|rfl|simp[Value.oneCell']at c
  rw[e];exact⟨RL.one a,by grind⟩
def cj(P:Program)(f:Oper)(e:Act)(d:l)(h:AV)(g:AS):Prop:=
 ∃b c a,(execOp e.eval f).run P d.w=.ok b a.w/\(b=.value c\/b=.skip/\c=undef)/\RT a h c/\St a g e.tmps/\Fr d a
theorem cj.still{a:AV}(d:St L K s.tmps)(b:(execOp s.eval B).run P L.w=.ok (.value bL) L.w)(c:RT L a bL):cj P B s L a K:=
 ⟨_,bL,L,b,.inl rfl,c,d,Fr.refl L⟩
theorem FN(f:e.heap[U]?=T (.cells fq t mU))(d:Nat)(b:List Value)(h:(fq.toList.drop d).take (Z b)=b):
 ∀a c,b[a]?=T c->e.cell? ((⟨U,d,D⟩:Addr).add a)=T c:=by
 intro a c g;rw[Addr.add_mid,cell_of_row e U _ fq t mU f];grind
theorem TW(d:e.heap[U]?=T (.cells fq t mU))(a b:Nat)(f:a+b<=fq.size):
 (loadCells ⟨U,a,D⟩ b).run P e=.ok ((fq.toList.drop a).take b).toArray e:=by
 have c:Z ((fq.toList.drop a).take b)=b:=by simp;omega
 have:=run_loadCells_list (P:=P) e ⟨U,a,D⟩ ((fq.toList.drop a).take b) (FN d a _ (by rw[c]));rw[c]at this;exact this
theorem FO(c:e.heap[U]?=T (.cells fq cK mU))(a:Nat)(j:P.info? t=T mX)(d:P.underlying t=T iY)
 (b:a+mX.size<=fq.size)(g:eU P t=aa->mX.size=1):
 (loadVar t ⟨U,a,D⟩).run P e=.ok (if eU P t then .agg ((fq.toList.drop a).take mX.size).toArray else((fq.toList.drop a).take mX.size).headD undef) e:=by
 have m:=Ad d;have k:(isAgg t).run P e=.ok (eU P t) e:=by
  simp only[isAgg,Sem.run_bind,run_underlying d,Result.andThen_ok];rw[m];cases iY<;>rfl
 simp only[loadVar,Sem.run_bind,k,Result.andThen_ok];cases i:eU P t
 ·have l:=g i
  rw[l]at b⊢;have f:a<fq.size:=by omega
  have h:e.cell? ⟨U,a,D⟩=T fq[a]:=by rw[cell_of_row e U a fq cK mU c];simp[f]
  simp[h,List.headD,J9,f]
 ·simp[sizeOf,typeInfo,j,TW (P:=P) c a mX.size b]
theorem CA{b:Nat}:∀{a:List (List z)},(∀e∈a,Z e=b)->Z a.flatten=Z a*b
 |[],_=>by simp
 |e::a,c=>by
  have d:=c e (by simp);have f:=CA (b:=b) (a:=a) (by grind);grind
theorem Ae{d:Nat}:∀{b:List (List z)}{c:Nat}{a:List z},(∀e∈b,Z e=d)->b[c]?=T a->(b.flatten.drop (c*d)).take d=a
 |[],c,a,_,f=>by simp at f
 |e::b,0,a,f,g=>by
  grind
 |e::b,c+1,a,f,g=>by
  have h:=f e (by simp);have i:=Ae (d:=d) (b:=b) (c:=c) (a:=a) (by grind) (by grind);simp_all[wE,Tm,sF,qK]
theorem j0(d:List z)(c b a:Nat)(e:b+a<=c):((d.take c).drop b).take a=(d.drop b).take a:=by
 grind[List.drop_take,Nat.min_eq_left]
theorem fc(c:Nat)(d:z)(a:List (Nat×z))(b:Nat):look b (put c d a)=if b=c then T d else look b a:=by
 induction a with
 |nil=>
  grind[put,look]
 |cons f a e=>
  grind[put,look]
theorem TX(a c new:List AV)(b:Nat):eV (a++c) (Z a+b) new=a++eV c b new:=by
 unfold eV;rw[akF,Tm,fW (by omega),sF (by omega),show Z a+b -(Z a)=b by omega,show Z a+b+Z new -(Z a)=b+Z new by omega];simp
theorem FP{d:Nat}:∀{b:List (List AV)}{a:Nat}{c new:List AV}{off:Nat},(∀e∈b,Z e=d)->b[a]?=T c->off+Z new<=d->(b.set a (eV c off new)).flatten=eV b.flatten (a*d+off) new
 |[],a,c,_,_,_,f,_=>by simp at f
 |e::b,0,c,new,off,f,i,g=>by
  grind[eV]
 |e::b,a+1,c,new,off,f,i,g=>by
  have j:=f e (by simp);have h:=FP (d:=d) (b:=b) (a:=a) (c:=c) (new:=new) (off:=off) (by grind) (by grind) g;simp only[Ka,wE,h];rw[show(a+1)*d+off=Z e+(a*d+off)by rw[qK];omega,TX]
theorem KJ(vs b:List z)(a c:Nat)(d:a+Z b<=c):(vs.take c).take a++b++(vs.take c).drop (a+Z b)=(vs.take a++b++vs.drop (a+Z b)).take c:=by
 by_cases e:a<=Z vs
 ·grind[List.append_assoc,List.take_append,Nat.min_eq_left,List.length_take,List.take_of_length_le,List.drop_take]
 grind[Nat.min_eq_left,List.take_of_length_le,List.drop_eq_nil_of_le]
theorem FQ(t:St L K s.tmps){u:AV}(c:RT L u bL){i:List AV}{off:Nat}(a:nZ K u=T (i,off)):
 ∃d e vs f v,bL=.pointer (T ⟨d,e+off,D⟩)/\L.w.heap[d]?=T (.cells vs f v)/\e+Z i<=vs.size/\RL L i ((vs.toList.drop e).take (Z i))/\∀I∈(vs.toList.drop e).take (Z i),I.oneCell'=true:=by
 rcases c with c|⟨F,G,d,rfl,Q,rfl⟩
 ·cases u with
  |aK U V G=>
   simp[nZ]at a;obtain⟨rfl,rfl⟩:=a;cases c with
   |aK _ _ _ d e vs f v ac a ah c x=>grind
  |ptr id g h G=>
   simp only[nZ]at a;rw[t.hp]at a;cases r:L.H[id]? with
   |none=>grind
   |some e=>
    cases e with
    |arr X b j=>
     simp only[r]at a;split at a
     ·rename_i N
      subst N;cases k:j[h]? with
      |none=>grind
      |some n=>
       simp[k]at a;obtain⟨rfl,rfl⟩:=a;cases c with
       |ptr _ _ _ _ _ ae Y ad c=>
        obtain⟨d,ak,O,rfl⟩:=c b j r;obtain⟨E,R⟩:=t.b1.iw id _ r;rcases R with⟨rfl,_⟩|⟨J,vs,f,z,q,af,p,x⟩
        ·simp at k
        ·rw[O]at z
         injection z with o;injection o with M W;subst M;have m:Z n=b:=E n (sG k);have P:h<Z j:=(e6.1 k).1;have C:h*b+b<=Z j*b:=by
          have:=k9 b (show h+1<=Z j from P);rw[qK]at this;exact this
         refine⟨d,h*b,vs,f,(0,0),rfl,q,by omega,?_,?_⟩
         ·have y:=RL.take b (RL.drop (h*b) p)
          rw[Ae E k,j0 _ _ _ _ C]at y;rw[m];exact y
         ·intro I S
          rw[m,<-j0 _ _ _ _ C]at S;grind
     grind
    |mp _ _ _=>grind
    |hM _ _=>grind
  |_=>first|(simp[nZ]at a;done)|(cases c)
 ·simp only[nZ]at a
  cases B:look F K.bx with
  |none=>grind
  |some n=>
   simp[B]at a;obtain⟨rfl,rfl⟩:=a;obtain⟨J,vs,f,A,q,p,x⟩:=t.bx F _ B;rw[Q]at A;injection A with o;subst o;have m:=p.length;simp only[yh]at m;refine⟨d,0,vs,f,(0,0),by simp,q,by omega,?_,?_⟩
   ·grind[List.take_of_length_le]
   grind
theorem TY{a:List AV}{vs:List Value}(b:RL L a vs)(c:Z a=1):R L (a.headD .undef) (vs.headD undef):=by
 cases b with
 |nil=>simp at c
 |cons _ _ _ _ b _=>exact b
theorem CB{g:Bool}{a:List AV}{vs:List Value}(b:RL L a vs)(e:∀d∈vs,d.oneCell'=ab)(c:g=aa->Z a=1):
 R L (nY g a) (if g then .agg vs.toArray else vs.headD undef):=by
 cases g
 ·simpa[nY]using TY b (c rfl)
 ·simpa[nY]using R.agg a vs.toArray (by omega) (by omega)
theorem TZ{k:AV}(g:St L K s.tmps)(n:dC G L)(q:B.op=.load t c)(a:m8 P K t (ay G K c)=T k):cj P B s L k K:=by
 unfold m8 at a;cases i:nZ K (ay G K c)with
 |none=>grind
 |some w=>
  obtain⟨h,off⟩:=w;simp only[i]at a;split at a
  ·rename_i d
   simp at a;subst a;obtain⟨x,f,vs,z,A,u,p,F,o,m⟩:=FQ g (dU g n c) i;obtain⟨y,j⟩:=rM.1 d.2.2;obtain⟨b,e⟩:=info_of_underlying j;rw[jf e]at d;have E:Z ((h.drop off).take b.size)=b.size:=by simp;omega
   have r:=FO (P:=P) p (f+off) e j (by omega) d.2.1;refine cj.still g (bL:=if eU P t then .agg ((vs.toList.drop (f+off)).take b.size).toArray else((vs.toList.drop (f+off)).take b.size).headD undef) ?_ (.inl ?_)
   ·unfold execOp
    simp only[q,Instr.loadAt,u,Instr.sureAddr,Sem.run_bind,Sem.run_pure,Result.andThen_ok,r]
   ·rw[jf e]
    refine CB ?_ ?_ (by grind)
    ·have C:=RL.take b.size (RL.drop off o)
     grind[j0,List.drop_drop]
    ·intro c v
     apply m;rw[<-vf,<-j0 _ (Z h) _ _ (by omega)]at v;grind
  ·simp at a
end
structure c7(w w':World)(may:Nat->Prop):Prop where
 os:w'.os=w.os
 output:w'.output=w.output
 tape:w'.tape=w.tape∧w.drawn<=w'.drawn
 size:w.heap.size<=w'.heap.size
 block:∀b,b<w.heap.size->¬may b->w'.heap[b]?=w.heap[b]?
theorem c7.refl(a:World)(b:Nat->Prop):c7 a a b:=⟨rfl,rfl,⟨rfl,di _⟩,di _,λ_ _ _=>rfl⟩
theorem c7.alloc(a:World)(b:Go.Obj)(d:Nat->Prop):c7 a (a.alloc b) d:=
 ⟨rfl,rfl,⟨rfl,di _⟩,by simp,λc e _=>by show(a.heap.push b)[c]?=_;grind⟩
theorem c7.drew(a:World)(b:Nat->Prop):c7 a a.drew b:=⟨rfl,rfl,⟨rfl,Nat.le_succ _⟩,di _,λ_ _ _=>rfl⟩
theorem c7.setRow(b:World)(g:Nat)(c:Array Value)(a:Nat->Prop)(d:a g):c7 b (b.setRow g c) a:=
 ⟨rfl,rfl,⟨rfl,di _⟩,by simp,by grind[setRow_other]⟩
variable{pM:World}
theorem c7.trans{d:World}{c:Nat->Prop}(a:c7 e pM c)(b:c7 pM d c):c7 e d c:=
 ⟨b.os.trans a.os,b.output.trans a.output,⟨b.tape.1.trans a.tape.1,iU a.tape.2 b.tape.2⟩,iU a.size b.size,λh f g=>(b.block h (jQ f a.size) g).trans (a.block h f g)⟩
theorem qS.mono(f:Fr L fM)(g:Good L){id:Nat}(m:fM.h id=L.h id)(k:∀a r,L.h id=T (a,r)->fM.w.heap[a]?=L.w.heap[a]?)(e:qS L id iX):qS fM id iX:=by
 cases iX with
 |arr t x n=>
  refine⟨e.1,?_⟩;rcases e.2 with⟨b,c⟩|⟨a,o,p,b,c,d,i,j⟩
  ·grind
  ·exact .inr ⟨a,o,p,m.trans b,(k a _ b).trans c,d,RL.mono f g i,j⟩
 |mp s u vs=>
  obtain⟨a,n,clock,b,c,d,i,j⟩:=e;exact⟨a,n,clock,m.trans b,(k a _ b).trans c,RL.mono f g d,RL.mono f g i,j⟩
 |hM v pos=>
  obtain⟨a,q,b,c,d⟩:=e;exact⟨a,q,m.trans b,(k a _ b).trans c,d⟩
def l.b6(a:l)(e:World)(id:Nat)(d:Obj)(c:Option (Nat×Nat)):l:=
 {a with w:=e,H:=a.H.set id d,h:=λb=>if b=id then c else a.h b}
theorem l.vw(g:Good L){id:Nat}{k:Obj}{f:Option (Nat×Nat)}(i:c7 L.w e (λa=>∃c,L.h id=T (a,c)))(A:L.H[id]?=T iX)
 (G:iK iX k (L.h id) f)(r:∀a c,f=T (a,c)->a<e.heap.size/\((∃m,L.h id=T (a,m))\/L.w.heap.size<=a))
 (K:Fr L (L.b6 e id k f)->qS (L.b6 e id k f) id k):Fr L (L.b6 e id k f)/\Good (L.b6 e id k f):=by
 have I:id<Z L.H:=(e6.1 A).1;have y:∀a,a<L.w.heap.size->(∀c,L.h id≠T (a,c))->e.heap[a]?=L.w.heap[a]?:=λa f J=>i.block a f (by grind);have v:Fr L (L.b6 e id k f):={
  os:=i.os,output:=i.output,tape:=i.tape,size:=i.size
  pW:=λ_ _ h=>h,pX:=λ_ _ h=>.inl h
  heap:=λa dX q _=>y a dX (λc=>q id c)
  kk:=by simp[l.b6]
  jZ:=λd u p s=>by
   simp only[l.b6,akG]at s;by_cases b:id=d
   ·grind[l.b6]
   simp_all[l.b6,Kb,iK.refl]
  oR:=by grind[l.b6]
  rW:=λt a b=>.inl ⟨t,b⟩}
 refine⟨v,?_⟩;exact{
  jL:=g.jL
  jy:=λa h=>jQ (g.jy a h) i.size
  dX:=λd a c b=>by
   simp only[l.b6]at b;split at b
   ·rename_i p
    subst p;obtain⟨n,o⟩:=r a c b;refine⟨n,?_,by grind[l.b6]⟩;rcases o with⟨m,h⟩|h
    ·exact(g.dX _ a m h).2.1
    ·intro B;have:=g.jy a B;omega
   ·obtain⟨n,o,z⟩:=g.dX d a c b
    exact⟨jQ n i.size,o,by grind[l.b6]⟩
  kL:=λd E a c m b j=>by
   simp only[l.b6]at b j;split at b<;>split at j
   ·simp_all
   ·rename_i p x
    rcases(r a c b).2 with⟨F,h⟩|h
    ·exact absurd (g.kL _ _ _ _ _ h j) (Kb x)
    ·have:=(g.dX E a m j).1;omega
   ·rename_i p x
    rcases(r a m j).2 with⟨F,h⟩|h
    ·exact absurd (g.kL _ _ _ _ _ b h) p
    ·have:=(g.dX d a c b).1;omega
   ·exact g.kL _ _ _ _ _ b j
  blt:=λt a b=>by
   obtain⟨n,o,z⟩:=g.blt t a b;refine⟨jQ n i.size,o,λd c j=>?_⟩;grind[l.b6]
  nf:=g.nf
  iw:=λd u s=>by
   by_cases b:id=d
   ·grind[l.b6]
   ·have C:L.H[d]?=T u:=by simpa[l.b6,akG,b]using s
    refine qS.mono v g (by grind[l.b6]) (λa c q=>?_) (g.iw d u C);exact y a (g.dX d a c q).1 λm h=>b (g.kL _ _ _ _ _ h q)}
def l.new(a:l)(e:World)(d:Obj)(c:Option (Nat×Nat)):l:=
 {a with w:=e,H:=a.H++[d],h:=λb=>if b=Z a.H then c else a.h b}
theorem l.CC(g:Good L){j:Option (Nat×Nat)}(i:c7 L.w e (λ_=>False))
 (o:∀a d,j=T (a,d)->a<e.heap.size/\L.w.heap.size<=a)(C:Fr L (L.new e iX j)->qS (L.new e iX j) (Z L.H) iX):Fr L (L.new e iX j)/\Good (L.new e iX j):=by
 have x:∀c,c<Z L.H->(L.new e iX j).h c=L.h c:=by grind[l.new]
 have B:∀a d,L.h (Z L.H)≠T (a,d):=λa d b=>by have:=(g.dX _ _ _ b).2.2;omega
 have s:Fr L (L.new e iX j):={
  os:=i.os,output:=i.output,tape:=i.tape,size:=i.size
  pW:=λ_ _ f=>f,pX:=λ_ _ f=>.inl f
  heap:=λa dX _ _=>i.block a dX (λf=>f)
  kk:=by simp[l.new]
  jZ:=λc r hi p=>by
   grind[l.new,List.getElem?_append_left,iK.refl]
  oR:=by grind[l.new]
  rW:=λq a b=>.inl ⟨q,b⟩}
 refine⟨s,?_⟩;exact{
  jL:=g.jL
  jy:=λa f=>jQ (g.jy a f) i.size
  dX:=λc a d b=>by
   simp only[l.new]at b;split at b
   ·rename_i hi
    subst hi;obtain⟨m,n⟩:=o a d b;exact⟨m,λy=>by have:=g.jy a y;omega,by simp[l.new]⟩
   ·obtain⟨m,n,u⟩:=g.dX c a d b
    exact⟨jQ m i.size,n,by grind[l.new]⟩
  kL:=λc A a d t b k=>by
   simp only[l.new]at b k;split at b<;>split at k
   ·simp_all
   ·have:=(o a d b).2;have:=(g.dX A a t k).1;omega
   ·have:=(o a t k).2;have:=(g.dX c a d b).1;omega
   ·exact g.kL _ _ _ _ _ b k
  blt:=λq a b=>by
   obtain⟨m,n,u⟩:=g.blt q a b;refine⟨jQ m i.size,n,λc d k=>?_⟩;grind[l.new]
  nf:=g.nf
  iw:=λc r p=>by
   rcases Cj c (Z L.H)with hi|hi|hi
   ·have z:L.H[c]?=T r:=by rw[<-p];simp[l.new,lU hi]
    exact qS.mono s g (x c hi) (λa d v=>i.block a (g.dX c a d v).1 (λf=>f)) (g.iw c r z)
   ·grind[l.new]
   ·exfalso
    have:c<Z (L.H++[iX]):=(e6.1 p).1;grind}
def l.box(a:l)(e:World)(d c:Nat):l:={a with w:=e,bx:=λb=>if b=d then T c else a.bx b}
variable{O:Nat}
theorem l.FR(g:Good L)(f:c7 L.w e (λ_=>False))(dX:O<e.heap.size)(t:L.w.heap.size<=O):Fr L (L.box e U O)/\Good (L.box e U O):=by
 have q:Fr L (L.box e U O):={
  os:=f.os,output:=f.output,tape:=f.tape,size:=f.size
  pW:=λ_ _ d=>d,pX:=λ_ _ d=>.inl d
  heap:=λO dX _ _=>f.block O dX (λd=>d)
  kk:=di _
  jZ:=λb o u m=>⟨o,m,iK.refl _ _⟩
  oR:=λb O h a=>.inl ⟨b,h,a⟩
  rW:=by grind[l.box]}
 refine⟨q,?_⟩;exact{
  jL:=g.jL
  jy:=λO d=>jQ (g.jy O d) f.size
  dX:=λb O h a=>by
   obtain⟨i,j,k⟩:=g.dX b O h a;exact⟨jQ i f.size,j,k⟩
  kL:=g.kL
  blt:=λn p a=>by
   simp only[l.box]at a;split at a
   ·injection a with a;subst a
    exact⟨dX,λs=>by have:=g.jy _ s;omega,λb h c=>by have:=(g.dX b _ h c).1;omega⟩
   ·obtain⟨i,j,k⟩:=g.blt n p a
    exact⟨jQ i f.size,j,k⟩
  nf:=λb n p a c=>by
   simp only[l.box]at a c;split at a<;>split at c
   ·simp_all
   ·injection a with a;subst a;have:=(g.blt n _ c).1;omega
   ·injection c with c;subst c;have:=(g.blt b _ a).1;omega
   ·exact g.nf _ _ _ a c
  iw:=λb o m=>qS.mono q g rfl (λO h r=>f.block O (g.dX b O h r).1 (λd=>d)) (g.iw b o m)}
def l.wd(a:l)(b:World):l:={a with w:=b}
theorem l.FT(g:Good L)(b:c7 L.w e (λa=>∃o,L.bx o=T a)):Fr L (L.wd e)/\Good (L.wd e):=by
 have r:Fr L (L.wd e):={
  os:=b.os,output:=b.output,tape:=b.tape,size:=b.size
  pW:=λ_ _ f=>f,pX:=λ_ _ f=>.inl f
  heap:=λa dX _ i=>b.block a dX (by grind)
  kk:=di _
  jZ:=λc p t i=>⟨p,i,iK.refl _ _⟩
  oR:=λc a h d=>.inl ⟨c,h,d⟩
  rW:=λn q d=>.inl ⟨n,d⟩}
 refine⟨r,?_⟩;exact{
  jL:=g.jL
  jy:=λa f=>jQ (g.jy a f) b.size
  dX:=λc a h d=>by
   obtain⟨j,k,m⟩:=g.dX c a h d;exact⟨jQ j b.size,k,m⟩
  kL:=g.kL
  blt:=λn q d=>by
   obtain⟨j,k,m⟩:=g.blt n q d;exact⟨jQ j b.size,k,m⟩
  nf:=g.nf
  iw:=λc p i=>qS.mono r g rfl (λa h s=>b.block a (g.dX c a h s).1 (λ⟨o,f⟩=>(g.blt o a f).2.2 c h s)) (g.iw c p i)}
def l.c4(a:l)(c:World):l:={a with w:=c,S:=λd b=>a.S d b\/(a.w.heap.size<=b/\b<c.heap.size)}
theorem l.FU(g:Good L)(c:c7 L.w e (λ_=>False)):Fr L (L.c4 e)/\Good (L.c4 e):=by
 have q:Fr L (L.c4 e):={
  os:=c.os,output:=c.output,tape:=c.tape,size:=c.size
  pW:=λ_ _ a=>.inl a,pX:=λ_ _ a=>a.imp id (·.1)
  heap:=λb dX _ _=>c.block b dX (λa=>a)
  kk:=di _
  jZ:=λf o t m=>⟨o,m,iK.refl _ _⟩
  oR:=λf b h d=>.inl ⟨f,h,d⟩
  rW:=λn p d=>.inl ⟨n,d⟩}
 refine⟨q,?_⟩;exact{
  jL:=λr b a=>a.imp (g.jL r b) id
  jy:=λb a=>a.elim (λa=>jQ (g.jy b a) c.size) (·.2)
  dX:=λf b h d=>by
   obtain⟨i,j,k⟩:=g.dX f b h d;exact⟨jQ i c.size,λa=>a.elim j (λa=>by omega),k⟩
  kL:=g.kL
  blt:=λn p d=>by
   obtain⟨i,j,k⟩:=g.blt n p d;exact⟨jQ i c.size,λa=>a.elim j (λa=>by omega),k⟩
  nf:=g.nf
  iw:=λf o m=>qS.mono q g rfl (λb h s=>c.block b (g.dX f b h s).1 (λa=>a)) (g.iw f o m)}
theorem St.mono{E:l}{s:AS}(st:St E s fq)(f:Fr E L)(d:Good L)(g:∀k b,E.bx k=T b->L.bx k=T b)
 (hb:∀k b,E.bx k=T b->L.w.heap[b]?=E.w.heap[b]?):St L {s with hp:=L.H} fq where
 b1:=d
 hp:=rfl
 env:=λk v h=>by
  rcases st.env k v h with h|⟨j,off,b,h1,h2,a⟩
  ·exact .inl (h.mono f st.b1)
  ·exact .inr (by grind)
 bx:=λk cs h=>by
  obtain⟨b,vs,c,h1,h2,a,e⟩:=st.bx k cs h;exact⟨b,vs,c,g _ _ h1,(hb _ _ h1).trans h2,RL.mono f st.b1 a,e⟩
variable{aU:Int}{dm:Operand}{j:AS}
section
variable{P:Program}{G:Nat->Option (List AV)}{A:bQ}
theorem pY(b:0<bc P t):∃a,P.info? t=T a:=by
 unfold bc at b;cases c:P.info? t with
 |none=>grind
 |some a=>grind
theorem KK(b:St L K s.tmps)(d:dC G L)(a:B.op=.move c\/B.op=.assign c):cj P B s L (ay G K c).pl K:=by
 refine cj.still b (bL:=s.eval c) ?_ (.inl (R.pl (dU b d c)));rcases a with a|a<;>simp[execOp,a]
theorem R.wW(a:RT L (.bool V) bL):bL=.bool V:=by
 rcases a with a|⟨_,_,_,a,_⟩
 ·cases a;rfl
 ·cases a
theorem R.pZ{b:IntKind}(a:RT L (.int b aU) bL):bL=.int b aU:=by
 rcases a with a|⟨_,_,_,a,_⟩
 ·cases a;rfl
 ·cases a
theorem R.vx{c:List UInt8}(a:RT L (.str c) bL):∃b:ByteArray,bL=.string b/\b.data.toList=c:=by
 rcases a with a|⟨_,_,_,a,_⟩
 ·cases a with|str b=>grind
 ·cases a
theorem T0{a:Operand}(d:St L K s.tmps)(e:dC G L)(h:B.op=.pick c dm a)(g:ay G K c=.bool V):
 cj P B s L (if V then(ay G K dm).pl else(ay G K a).pl) K:=by
 have b:=dU d e c;rw[g]at b;have f:=R.wW b;refine cj.still d (bL:=if V then s.eval dm else s.eval a) ?_ (.inl ?_)
 ·simp[execOp,h,f,asBool]
 grind[R.pl,dU]
theorem KL(a:List z)(off:Nat)(new:List z)(b:off+Z new<=Z a):Z (a.take off++new++a.drop (off+Z new))=Z a:=by
 simp;omega
theorem RL.eV{a:List AV}{vs:List Value}{new:List AV}(c:RL L a vs)(b:RL L new gD)(off:Nat):RL L (eV a off new) (vs.take off++gD++vs.drop (off+Z gD)):=by
 unfold AM.eV;rw[b.length];grind[RL.append,RL.take,RL.drop]
theorem KM{off:Nat}(b:e.heap[U]?=T (.cells fq cK (0,0)))(g:P.info? t=T mX)(c:bL.cells.size=mX.size)
 (f:off+mX.size<=fq.size)(a:∀d∈bL.cells.toList,d.oneCell'=ab):
 (Instr.storeAt t (.pointer (T ⟨U,off,D⟩)) bL).run P e=.ok () (e.setRow U (fq.toList.take off++bL.cells.toList++fq.toList.drop (off+Z bL.cells.toList)).toArray):=by
 have h:=run_storeCells_at P U off cK bL.cells.toList 0 fq e b (by simp[c];omega) a;simp_all[Instr.storeAt,Instr.sureAddr,storeVar,sizeOf,typeInfo]
theorem T1(a:St L K s.tmps)(X:dC G L)(af:B.op=.store t c dm)(h:tJ P K t (ay G K c) (ay G K dm)=T j):cj P B s L .undef j:=by
 unfold tJ at h;simp only at h;split at h
 case isFalse=>simp at h
 case isTrue bf=>
 obtain⟨ae,bi,cs⟩:=bf;obtain⟨ar,N⟩:=rM.1 cs;rw[jf N]at ae;have ds:=R.pl (dU a X dm);obtain⟨O,aq⟩:=ds.cells bi;have Q:(s.eval dm).cells.size=ar.size:=by rw[<-ae,<-O.length];simp
 have p:=dU a X c;cases ak:ay G K c with
 |lp n off=>
  simp only[ak]at h p;cases ad:look n K.bx with
  |none=>grind
  |some r=>
   simp only[ad]at h;split at h
   case isFalse=>simp at h
   case isTrue b4=>
   simp at h;subst h;rcases p with p|⟨_,_,q,ce,u,m⟩
   ·cases p
   ·injection ce with v U
    subst v;subst U;obtain⟨aB,vs,I,ac,x,A,a4⟩:=a.bx n r ad;rw[u]at ac;injection ac with b;subst b;have dl:=A.length;simp only[yh]at dl;have z:=KM (P:=P) (t:=t) (off:=off) (bL:=s.eval dm) x N Q (by omega) aq;have E:c7 L.w (L.w.setRow q (vs.toList.take off++(s.eval dm).cells.toList++vs.toList.drop (off+Z (s.eval dm).cells.toList)).toArray) (λf=>∃n,L.bx n=T f):=c7.setRow _ _ _ _ ⟨n,u⟩
    obtain⟨i,J⟩:=l.FT a.b1 E;refine⟨.skip,undef,_,?_,.inr ⟨rfl,rfl⟩,.inl (.undef _),?_,i⟩
    ·rw[<-m]at z
     simp only[execOp,af,Sem.run_bind,z,Result.andThen_ok,Sem.run_pure,l.wd]
    ·exact{
      b1:=J
      hp:=a.hp
      env:=λF d0 k=>by
       rcases a.env F d0 k with h|h
       ·exact .inl (h.mono i a.b1)
       ·exact .inr h
      bx:=λF aQ k=>by
       simp only[fc]at k;by_cases b:F=n
       ·subst b
        rw[if_pos rfl]at k;injection k with k;subst k;refine⟨q,_,I,u,setRow_heap _ _ _ _ _ _ x,?_,?_⟩
        ·simpa using RL.mono i a.b1 (RL.eV A O off)
        grind
       ·rw[if_neg b]at k
        obtain⟨f,d1,a0,V,a9,bb,be⟩:=a.bx F aQ k;refine⟨f,d1,a0,V,?_,RL.mono i a.b1 bb,be⟩;show(L.w.setRow q _).heap[f]?=_;rw[setRow_other _ _ _ _ (λd2=>b (a.b1.nf _ _ _ V (by grind)))];exact a9}
 |ptr id g e off=>
  simp only[ak]at h p;rw[a.hp]at h;cases C:L.H[id]? with
  |none=>grind
  |some ob=>
   cases ob with
   |mp _ _ _=>grind
   |hM _ _=>grind
   |arr J d o=>
    simp only[C]at h;split at h
    case isFalse=>simp at h
    case isTrue bv=>
    subst bv;cases y:o[e]? with
    |none=>grind
    |some r=>
     simp only[y]at h;split at h
     case isFalse=>simp at h
     case isTrue b4=>
     simp at h;subst h;replace p:=p.resolve_right (by grind);cases p with
     |ptr _ _ _ _ _ d8 d3 d7 h=>
      obtain⟨q,S,M,m⟩:=h d o C;obtain⟨ah,co⟩:=a.b1.iw id _ C;rcases co with⟨rfl,_⟩|⟨aB,vs,I,Y,x,em,A,a4⟩
      ·simp at y
      rw[M]at Y;injection Y with b;injection b with v U;subst v;have d5:Z r=d:=ah r (sG y);have bw:e<Z o:=(e6.1 y).1;have d9:e*d+d<=Z o*d:=by
       have:=k9 d (show e+1<=Z o from bw);rw[qK]at this;exact this
      have z:=KM (P:=P) (t:=t) (off:=e*d+off) (bL:=s.eval dm) x N Q (by omega) aq;have ci:Z (s.eval dm).cells.toList=ar.size:=by simpa using Q
      have E:c7 L.w (L.w.setRow q (vs.toList.take (e*d+off)++(s.eval dm).cells.toList++vs.toList.drop (e*d+off+Z (s.eval dm).cells.toList)).toArray) (λf=>∃S,L.h id=T (f,S)):=c7.setRow _ _ _ _ ⟨S,M⟩;have el:Z (vs.toList.take (e*d+off)++(s.eval dm).cells.toList++vs.toList.drop (e*d+off+Z (s.eval dm).cells.toList))=vs.size:=by
       rw[KL _ _ _ (by rw[ci];simp;omega)];simp
      have br:(o.set e (eV r off (ay G K dm).pl.cells)).flatten=eV o.flatten (e*d+off) (ay G K dm).pl.cells:=FP ah y (by omega);obtain⟨i,a3⟩:=l.vw a.b1 (id:=id) (k:=.arr J d (o.set e (eV r off (ay G K dm).pl.cells))) (f:=L.h id) E C (by simp[iK])
       (λf ax b=>⟨by rw[M]at b;injection b with b;injection b with v _;subst v;simp;grind,.inl ⟨ax,b⟩⟩)
       (λi=>by
        refine⟨λb d6=>?_,.inr ⟨q,_,I,?_,setRow_heap _ _ _ _ _ _ x,?_,?_,?_⟩⟩
        ·grind[AM.eV]
        ·grind[l.b6]
        ·grind
        ·rw[br,Kc]
         have W:=RL.eV A O (e*d+off);rw[KJ _ _ _ _ (by omega)]at W;simpa using RL.mono i a.b1 W
        ·intro au m
         simp only[Kc]at m;have m:=qL m|>λ_=>m;rw[<-KJ _ _ _ _ (by omega)]at m;grind)
      refine⟨.skip,undef,_,?_,.inr ⟨rfl,rfl⟩,.inl (.undef _),?_,i⟩
      ·rw[<-m]at z
       simp only[execOp,af,Sem.run_bind,z,Result.andThen_ok,Sem.run_pure,l.b6]
      ·refine St.mono a i a3 (λ_ _ h=>h) (λn f u=>E.block f (a.b1.blt n f u).1 λ⟨ax,b⟩=>(a.b1.blt n f u).2.2 _ _ b)|>λc=>?_
       grind[l.b6]
 |_=>grind
end
section
variable{P:Program}{G:Nat->Option (List AV)}{A:bQ}
theorem FV(y:St L K s.tmps){e h:AV}(c:RT L e bL)(a:lz K U e=T h):∃b d,bL=.pointer (T ⟨b,d,D⟩)/\RT L h (.pointer (T ⟨b,d+U,D⟩)):=by
 rcases c with c|⟨G,off,b,rfl,E,rfl⟩
 ·cases e with
  |aK i j off=>
   simp[lz]at a;subst a;cases c with
   |aK _ _ _ b d vs m n q r w c p=>exact⟨b,d+off,rfl,.inl (by rw[Nat.add_assoc];exact .aK i j (off+U) b d vs m n q r w c p)⟩
  |ptr id g x off=>
   simp only[lz]at a;rw[y.hp]at a;cases f:L.H[id]? with
   |none=>grind
   |some ob=>
    cases ob with
    |mp _ _ _=>grind
    |hM _ _=>grind
    |arr o z k=>
     simp only[f]at a;split at a
     case isFalse=>simp at a
     case isTrue t=>
     subst t;simp at a;subst a;cases c with
     |ptr _ _ _ _ _ v B u c=>
      obtain⟨b,J,C,rfl⟩:=c z k f;refine⟨b,_,rfl,.inl (.ptr id o x (off+U) _ v rfl u λI A F=>?_)⟩;grind
  |_=>first|(simp[lz]at a;done)|(cases c)
 ·simp[lz]at a
  subst a;exact⟨b,off,rfl,.inr (by grind)⟩
theorem T2{e:AV}(b:St L K s.tmps)(h:dC G L)(r:B.op=.fieldAddr t c U)(a:tK P K t (ay G K c) U=T e):cj P B s L e K:=by
 unfold tK at a;cases m:P.underlying t with
 |none=>grind
 |some f=>
  cases f with
  |struct g=>
   simp only[m]at a;cases i:g[U]? with
   |none=>grind
   |some p=>
    simp only[i]at a;split at a
    case isFalse=>simp at a
    case isTrue d=>
    obtain⟨n,j⟩:=pY d;rw[jf j]at d;obtain⟨o,v,u,k⟩:=FV b (dU b h c) a;refine cj.still b ?_ k;have q:n.size≠0:=by omega
    simp_all[execOp,Instr.fieldAt,run_underlying,Instr.sureAddr,fieldPlace,sizeOf,typeInfo,Addr.add_mid]
  |_=>grind
theorem FW{a:List (List AV)}(d:a.all (λb=>Z b==U)=ab):∀c∈a,Z c=U:=by
 grind
theorem T4{S:AV}(k:St L K s.tmps)(A:dC G L)(u:B.op=.indexAddr t c dm)(a:pS P K t (ay G K c) (ay G K dm)=T S):cj P B s L S K:=by
 unfold pS at a;have e:=dU k A c;have F:=dU k A dm;cases o:P.underlying t with
 |none=>grind
 |some V=>
  cases C:ay G K dm with
  |int bw f=>
   rw[C]at F;have r:=R.pZ F;simp only[o,C]at a;cases V with
   |array len W=>
    simp only at a;split at a
    case isFalse=>simp at a
    case isTrue b=>
    obtain⟨d,i⟩:=pY b.2.2;rw[jf i]at a b;obtain⟨n,w,m,aB⟩:=FV k e a;refine cj.still k ?_ aB;simp[execOp,u,Instr.indexAt,run_underlying o,r,asIntOf,m,Instr.sureAddr,b.1,b.2.1,sizeOf,typeInfo,i,Addr.add_mid]
   |slice W=>
    simp only at a;cases m:ay G K c with
    |sl U h=>
     simp only[m]at a;rw[m]at e;split at a
     case isFalse=>simp at a
     case isTrue y=>
     cases j:h[f.toNat]? with
     |none=>grind
     |some x=>
      simp only[j]at a;split at a
      case isFalse=>simp at a
      case isTrue b=>
      simp at a;subst a;replace e:=e.resolve_right (by grind);obtain⟨d,i⟩:=pY b.2;rw[jf i]at b;generalize v:s.eval c=a9 at e;cases e with
      |h5=>simp at j
      |sl _ _ n w a3 cap vs X Y af ah I p a0 ae ad=>
       have ar:f.toNat<Z h:=(e6.1 j).1;have au:a3=d.size:=(I x (sG j)).symm.trans b.1;subst au;have J:f.toNat*d.size+d.size<=Z h*d.size:=by
        have:=k9 d.size (show f.toNat+1<=Z h from ar);rw[qK]at this;exact this
       refine cj.still k (bL:=.pointer (T ⟨n,w+f.toNat*d.size,D⟩)) ?_ (.inl (.aK U x 0 n (w+f.toNat*d.size) vs X Y af ah (by omega) ?_ ?_))
       ·have ax:f<(Z h:Int):=by omega
        simp[execOp,u,Instr.indexAt,run_underlying o,r,asIntOf,v,y,ax,sizeOf,typeInfo,i,Addr.add_mid]
       ·have z:=RL.take d.size (RL.drop (f.toNat*d.size) ae)
        rw[Ae I j,j0 _ _ _ _ J,vf]at z;rw[b.1];exact z
       ·intro ce aQ
        apply ad;rw[b.1,<-vf,<-j0 _ (Z h*d.size) _ _ J]at aQ;grind
    |q id g off len=>
     simp only[m]at a;rw[m]at e;split at a
     case isFalse=>simp at a
     case isTrue E=>
     rw[k.hp]at a;cases M:L.H[id]? with
     |none=>grind
     |some ob=>
      cases ob with
      |mp _ _ _=>grind
      |hM _ _=>grind
      |arr ac Q h=>
       simp only[M]at a;split at a
       case isFalse=>simp at a
       case isTrue b=>
       obtain⟨j,O,N⟩:=b;subst j;simp at a;subst a;obtain⟨d,i⟩:=pY N;rw[jf i]at O N;replace e:=e.resolve_right (by grind);generalize v:s.eval c=a9 at e;cases e with
       |q _ _ _ _ _ aq y ak a=>
        obtain⟨bb,cap,rfl,bi,bv,p⟩:=a Q h M;rcases p with p|⟨n,ci,bf,rfl,a0⟩
        ·omega
        ·refine cj.still k (bL:=.pointer (T ⟨n,(off+f.toNat)*Q+0,D⟩)) ?_ (.inl (.ptr id ac (off+f.toNat) 0 _ aq rfl ak λb4 be br=>?_))
         ·simp[execOp,u,Instr.indexAt,run_underlying o,r,asIntOf,v,E.1,E.2,sizeOf,typeInfo,i,Addr.add_mid,O,rN]
         grind
    |_=>grind
   |_=>simp at a
  |_=>grind
theorem T5{v:AV}(e:St L K s.tmps)(p:dC G L)(q:B.op=.nilCheck c)(a:(match ay G K c with|.fn d s f=>T (.fn d s f,K)|v=>eL K (lz K 0 v))=T (v,j)):cj P B s L v j:=by
 have b:=dU e p c;have t:eL K (lz K 0 (ay G K c))=T (v,j)->cj P B s L v j:=by
  intro a;unfold eL at a;cases g:lz K 0 (ay G K c)with
  |none=>grind
  |some y=>
   simp[g]at a;obtain⟨rfl,rfl⟩:=a;obtain⟨f,w,h,u⟩:=FV e b g;simp_all[cj.still,execOp]
 cases h:ay G K c with
 |fn d k m=>
  rw[h]at a b;simp at a;obtain⟨rfl,rfl⟩:=a;replace b:=b.resolve_right (by grind);generalize r:s.eval c=z at b;cases b with
  |fn _ _ _ i vs n o=>
   refine cj.still e (bL:=.func (.func d) i vs) ?_ (.inl (.fn d k m i vs n o));simp[execOp,q,r]
 |_=>grind
end
variable{bu:List Nat}
section
variable{P:Program}
def valOf(P:Program)(b:TypeId)(a:List Value):Value:=if eU P b then .agg a.toArray else a.headD undef
def tQ(P:Program)(b:Nat)(d e:Array Value):List (TypeId×Nat)->Sem Bool
 |[]=>pure ab
 |(a,c)::i=>do
  let f<-Go.part a d c
  let g<-Go.part a e c
  let h<-Op.equalIn b a f g
  if(!h)=ab then pure aa else tQ P b d e i
theorem KN(b:Nat)(d e:Array Value):∀(a:List Field),a.all (λf=>f.name != "_")=ab->Op.eqFields b d e a=tQ P b d e (a.map λf=>(f.type,f.offset))
 |[],_=>rfl
 |f::a,c=>by
  simp only[qJ,bG,bne_iff_ne]at c;simp only[Op.eqFields,c.1,ne_eq,not_false_eq_true,if_true,eJ,tQ];rw[KN b d e a c.2]
theorem run_equalIn_array(f:Nat)(j a:TypeId)(b:Nat)(c:TypeInfo)(g h:Array Value)(q:P.underlying j=T (.array b a))(o:P.info? a=T c):
 (Op.equalIn (f+1) j (.agg g) (.agg h)).run P e=(tQ P f g h ((List.range b).map λd=>(a,d*c.size))).run P e:=by
 simp only[Op.equalIn,Sem.run_bind,run_underlying q,Result.andThen_ok,sizeOf,typeInfo,run_program,o,Sem.run_pure];simp only[akH,Std.Legacy.Range.size];have p:List.range' 0 ((b -0+1 -1)/1) 1=List.range b:=by simp[Tn]
 rw[p];generalize List.range b=i;induction i generalizing e with
 |nil=>simp[tQ]
 |cons d i v=>
  simp only[List.forIn_cons,eJ,tQ,Sem.run_bind,Sem.run_ite];generalize(Go.part a g (d*c.size)).run P e=r;cases r with
  |ok m w1=>
   simp only[Result.andThen_ok];generalize(Go.part a h (d*c.size)).run P w1=s;cases s with
   |ok n k=>
    simp only[Result.andThen_ok];generalize(Op.equalIn f a m n).run P k=t;cases t with
    |ok w u=>
     simp_all
    |halt l u=>simp
   |halt l k=>simp
  |halt l w1=>simp
theorem CD(h:P.info? t=T mX)(c:P.underlying t=T iY)(b:Array Value)(a:Nat)(d:a+mX.size<=b.size)(f:eU P t=aa->mX.size=1):
 (Go.part t b a).run P e=.ok (valOf P t ((b.toList.drop a).take mX.size)) e:=by
 have i:(isAgg t).run P e=.ok (eU P t) e:=by
  simp only[isAgg,Sem.run_bind,run_underlying c,Result.andThen_ok];rw[Ad c];cases iY<;>rfl
 unfold Go.part valOf;simp only[Sem.run_bind,i,Result.andThen_ok];cases g:eU P t
 ·have k:=f g
  rw[k]at d⊢;have j:a<b.size:=by omega
  simp[j,J9]
 ·simp only[if_true,Sem.run_bind,sizeOf,typeInfo,run_program,Result.andThen_ok,h,Sem.run_pure]
  congr 2
  grind
theorem KO:∀{e j:List Nat}{f g h i:List AV}{p:Bool},Z f=Z e->Z h=Z e->ft (e++j) (f++g) (h++i)=T p->∃q l,ft e f h=T q/\ft j g i=T l/\p=(q&&l)
 |[],j,[],g,[],i,p,_,_,d=>⟨ab,p,rfl,d,by simp⟩
 |k::e,j,v::f,g,w::h,i,p,r,s,d=>by
  have y:∀l,ft (e++j) (f++g) (h++i)=T l->∃q t,ft e f h=T q/\ft j g i=T t/\l=(q&&t):=λl u=>KO (by grind) (by grind) u;simp only[fm]at d;unfold ft at d;split at d
  ·grind
  ·rename_i a b c
   injection a with a m;injection b with b n;injection c with c o;subst a;subst b;subst c;subst m;subst n;subst o;split at d
   ·rename_i x
    simp only[dg]at d;grind[ft]
   ·simp at d
  ·rename_i a b c
   injection a with a m;injection b with b n;injection c with c o;subst a;subst b;subst c;subst m;subst n;subst o;simp only[dg]at d;grind[ft]
  ·rename_i a b c
   injection a with a m;injection b with b n;injection c with c o;subst a;subst b;subst c;subst m;subst n;subst o;simp only[dg]at d;grind[ft]
  ·simp at d
 |[],_,_::_,_,_,_,_,r,_,_=>by simp at r
 |[],_,[],_,_::_,_,_,_,s,_=>by simp at s
 |_::_,_,[],_,_,_,_,r,_,_=>by simp at r
 |_::_,_,_::_,_,[],_,_,_,s,_=>by simp at s
theorem T6(c:m9 P U t=T bu):∃a b,P.info? t=T a/\P.underlying t=T b/\(eU P t=aa->a.size=1):=by
 cases U with
 |zero=>simp[m9]at c
 |succ U=>
  unfold m9 at c;cases d:P.underlying t with
  |none=>grind
  |some b=>
   obtain⟨a,f⟩:=info_of_underlying d;refine⟨a,b,f,rfl,λe=>?_⟩;rw[Ad d]at e;grind[jf,ym]
theorem KP{eq:TypeId->Option (List Nat)}{stop:Nat}:∀{c:List (TypeId×Nat)}{off:Nat}{b:List Nat},rQ P eq stop off c=T b->off<=stop/\Z b=stop -off
 |[],off,b,a=>by
  grind[rQ]
 |(e,k)::c,off,b,a=>by
  simp only[rQ]at a;split at a
  ·cases f:eq e with
   |none=>grind
   |some g=>
    cases d:rQ P eq stop (off+bc P e) c with
    |none=>grind
    |some h=>
     simp only[f,d]at a;split at a
     ·simp at a
      obtain⟨i,j⟩:=KP d;grind
     ·simp at a
  ·simp at a
theorem FX{eq:TypeId->Option (List Nat)}(j k:Array Value)(d f:List AV)(s:RL L d j.toList)(t:RL L f k.toList)(z:Z d=Z f)
 (heq:∀a g,eq a=T g->(∃u v,P.info? a=T u/\P.underlying a=T v/\(eU P a=aa->u.size=1))/\∀(o p:List AV)(A vs:List Value)(h:Bool),RL L o A->RL L p vs->Z o=bc P a->Z p=bc P a->ft g o p=T h->
  (Op.equalIn U a (valOf P a A) (valOf P a vs)).run P e=.ok h e):
 ∀(i:List (TypeId×Nat))(off:Nat)(g:List Nat)(h:Bool),rQ P eq (Z d) off i=T g->ft g (d.drop off) (f.drop off)=T h->(tQ P U j k i).run P e=.ok h e
 |[],off,g,h,b,m=>by
  simp only[rQ]at b;split at b
  ·simp at b
   rename_i n;subst b;subst n;rw[nU,z,nU]at m;simp_all[ft,tQ]
  grind
 |(a,c)::i,off,g,h,b,m=>by
  simp only[rQ]at b;split at b
  case isFalse=>simp at b
  case isTrue F=>
  subst F;cases n:eq a with
  |none=>grind
  |some K=>
   cases r:rQ P eq (Z d) (c+bc P a) i with
   |none=>grind
   |some M=>
    simp only[n,r]at b;split at b
    case isFalse=>simp at b
    case isTrue V=>
    simp at b;subst b;obtain⟨⟨u,v,q,y,w⟩,G⟩:=heq a K n;have J:=jf q;have S:c+bc P a<=Z d:=(KP r).1;have Q:j.size=Z d:=by simpa using s.length
    have R:k.size=Z f:=by simpa using t.length
    have H:d.drop c=(d.drop c).take (bc P a)++d.drop (c+bc P a):=by rw[<-vf,vg]
    have I:f.drop c=(f.drop c).take (bc P a)++f.drop (c+bc P a):=by rw[<-vf,vg]
    rw[H,I]at m;obtain⟨B,N,C,E,rfl⟩:=KO (by simp;omega) (by simp;omega) m;have x:=G _ _ _ _ B (RL.take (bc P a) (RL.drop c s)) (RL.take (bc P a) (RL.drop c t)) (by simp;omega) (by simp;omega) C;have O:=FX j k d f s t z heq i (c+bc P a) M N r E;simp only[tQ,Sem.run_bind,CD (P:=P) q y j c (by omega) w,CD (P:=P) q y k c (by omega) w,Result.andThen_ok];rw[J]at x;rw[x];cases B
    ·simp
    simp;omega
theorem yt(d:RL L bg gD)(c:Z bg=1):∃a b,bg=[a]/\gD=[b]/\R L a b:=by
 cases d with
 |nil=>simp at c
 |cons a b f h g e=>
  cases e with
  |cons=>simp at c
  |nil=>grind
theorem bytes_beq(a b:ByteArray):(a.toList==b.toList)=(a.data.toList==b.data.toList):=by
 grind[ByteArray.toList_eq]
theorem FY:∀(d p:Nat)(b:TypeId)(z:List Nat),d<=p->m9 P d b=T z->∀(j k:List AV)(m vs:List Value)(o:Bool),RL L j m->RL L k vs->Z j=bc P b->Z k=bc P b->ft z j k=T o->
 (Op.equalIn p b (valOf P b m) (valOf P b vs)).run P e=.ok o e
 |0,_,_,_,_,a=>by simp[m9]at a
 |d+1,0,_,_,a,_=>by omega
 |d+1,p+1,b,z,X,a=>by
  intro j k m vs o G H n q f;have M:∀i E,m9 P d i=T E->(∃C F,P.info? i=T C/\P.underlying i=T F/\(eU P i=aa->C.size=1))/\∀(j k:List AV)(m vs:List Value)(o:Bool),RL L j m->RL L k vs->Z j=bc P i->Z k=bc P i->ft E j k=T o->
   (Op.equalIn p i (valOf P i m) (valOf P i vs)).run P e=.ok o e:=λi E K=>⟨T6 K,FY d p i E (by omega) K⟩
  unfold m9 at a;cases B:P.underlying b with
  |none=>grind
  |some F=>
   have y:=Ad B;simp only[B]at a;cases F with
   |struct S=>
    simp only at a;split at a
    case isFalse=>simp at a
    case isTrue A=>
    have U:P.fieldsOf b=S:=by simp[Program.fieldsOf,B]
    have r:eU P b=true:=by rw[y];rfl
    simp only[valOf,r,if_true];rw[run_equalIn_struct e p b m.toArray vs.toArray (by grind) A.1,U,KN _ _ _ _ A.2];rw[<-n]at a;exact FX m.toArray vs.toArray j k (by omega) (by omega) (by omega) M _ 0 z o a (by grind)
   |array W R=>
    simp only at a;split at a
    case isFalse=>simp at a
    case isTrue A=>
    obtain⟨C,N⟩:=rM.1 A;have r:eU P b=true:=by rw[y];rfl
    simp only[valOf,r,if_true];rw[run_equalIn_array p b R W C m.toArray vs.toArray B N,<-jf N];rw[<-n]at a;exact FX m.toArray vs.toArray j k (by omega) (by omega) (by omega) M _ 0 z o a (by grind)
   |bool=>
    simp only at a;split at a
    case isFalse=>simp at a
    case isTrue v=>
    simp at a;subst a;rw[v]at n q;obtain⟨I,O,rfl,rfl,w⟩:=yt G n;obtain⟨J,Q,rfl,rfl,x⟩:=yt H q;have r:eU P b=false:=by rw[y];rfl
    unfold ft at f;split at f<;>first|(simp at f;done)|skip
    all_goals rename_i c g h
    all_goals first|(cases c;done)|skip
    all_goals(injection c with c s;first|(cases c;done)|skip)
    subst s;injection g with g t;injection h with h u;subst g;subst h;subst t;subst u;simp[ft]at f;cases w;cases x
    simp_all[valOf,cZ,run_equalIn_bool]
   |int Y=>
    simp only at a;split at a
    case isFalse=>simp at a
    case isTrue v=>
    simp at a;subst a;rw[v]at n q;obtain⟨I,O,rfl,rfl,w⟩:=yt G n;obtain⟨J,Q,rfl,rfl,x⟩:=yt H q;have r:eU P b=false:=by rw[y];rfl
    unfold ft at f;split at f<;>first|(simp at f;done)|skip
    all_goals rename_i c g h
    all_goals first|(cases c;done)|skip
    all_goals(injection c with c s;first|(cases c;done)|skip)
    subst s;injection g with g t;injection h with h u;subst g;subst h;subst t;subst u;split at f
    ·rename_i V
     subst V;simp[ft]at f;cases w;cases x
     simp_all[valOf,cZ,run_equalIn_int]
    grind
   |string=>
    simp only at a;split at a
    case isFalse=>simp at a
    case isTrue v=>
    simp at a;subst a;rw[v]at n q;obtain⟨I,O,rfl,rfl,w⟩:=yt G n;obtain⟨J,Q,rfl,rfl,x⟩:=yt H q;have r:eU P b=false:=by rw[y];rfl
    unfold ft at f;split at f<;>first|(simp at f;done)|skip
    all_goals rename_i c g h
    all_goals first|(cases c;done)|skip
    all_goals(injection c with c s;first|(cases c;done)|skip)
    subst s;injection g with g t;injection h with h u;subst g;subst h;subst t;subst u;simp[ft]at f;cases w;cases x
    simp_all[valOf,cZ,run_equalIn_string,bytes_beq]
   |_=>simp at a
end
section
variable{P:Program}{G:Nat->Option (List AV)}{A:bQ}
theorem T7{op:BinOp}{B E A:AV}{m:Value}(f:RT L B bL)(h:RT L E m)(a:rR P op t B E=T A):
 ∃j,((do eqGuard op t c dm bL m;binOp op t bL m:Sem Value)).run P e=.ok j e/\R L A j:=by
 unfold rR at a;split at a
 ·
  rename_i y i K d;have:=R.pZ f;have:=R.pZ h;subst bL;subst m;have g:(eqGuard op t c dm (.int y i) (.int K d)).run P e=.ok () e:=by cases op<;>simp[eqGuard]
  simp only[Sem.run_bind,g,Result.andThen_ok];split at a
  ·split at a
   ·simp at a
   ·simp at a;subst a
    rename_i b;exact⟨_,by simp[binOp,Op.shift,b],.int _ _⟩
  ·split at a
   ·simp at a
   ·simp at a;subst a
    rename_i b;exact⟨_,by simp[binOp,Op.shift,b],.int _ _⟩
  ·rename_i p u
   split at a
   case isFalse=>simp at a
   case isTrue k=>
   subst k;cases op<;>simp only[jv]at a
   case shl=>grind
   case shr=>grind
   case quo=>
    split at a
    ·simp at a
    ·simp at a;subst a;rename_i b
     exact⟨_,by simp[binOp,Op.intDiv,b],.int _ _⟩
   case rem=>
    split at a
    ·simp at a
    ·simp at a;subst a;rename_i b
     exact⟨_,by simp[binOp,Op.intDiv,b],.int _ _⟩
   all_goals(first|(simp at a;done)|(simp only[eK]at a;subst a))
   all_goals first
    |exact⟨_,by simp only[binOp];rw[if_neg (by simp)];rfl,.int _ _⟩
    |exact⟨_,by simp only[binOp];rw[if_neg (by simp)];rfl,.bool _⟩
 ·
  rename_i i d;obtain⟨M,rfl,rfl⟩:=R.vx f;obtain⟨N,rfl,rfl⟩:=R.vx h;have g:(eqGuard op t c dm (.string M) (.string N)).run P e=.ok () e:=by cases op<;>simp[eqGuard]
  simp only[Sem.run_bind,g,Result.andThen_ok];cases op<;>simp only[tL]at a<;>first|(simp at a;done)|skip
  all_goals(simp only[eK]at a;subst a)
  all_goals exact⟨_,by grind[binOp,Op.stringOp,ByteArray.toList_eq,Sem.run_pure],.bool _⟩
 ·
  rename_i i d;have:=R.wW f;have:=R.wW h;subst bL;subst m;have g:(eqGuard op t c dm (.bool i) (.bool d)).run P e=.ok () e:=by cases op<;>simp[eqGuard]
  simp only[Sem.run_bind,g,Result.andThen_ok];split at a
  ·rename_i x
   simp at a;subst a;exact⟨.bool (i==d),by simp_all[binOp,Op.equal,Op.maxDepth,run_equalIn_bool],by simpa using R.bool (E:=L) (i==d)⟩
  ·rename_i x
   simp at a;subst a;exact⟨.bool (!(i==d)),by simp_all[binOp,Op.equal,Op.maxDepth,run_equalIn_bool],by simpa using R.bool (E:=L) (!(i==d))⟩
  ·simp at a
 ·
  rename_i r s;replace f:=f.resolve_right (by grind);replace h:=h.resolve_right (by grind);split at a
  case isFalse=>simp at a
  case isTrue v=>
  obtain⟨p,u,W,G⟩:=v;cases f with
  |agg _ C I ac=>
   cases h with
   |agg _ F J ad=>
    have g:(eqGuard op t c dm (.agg C) (.agg F)).run P e=.ok () e:=by grind[run_eqGuard_agg]
    simp only[Sem.run_bind,g,Result.andThen_ok];cases k:m9 P 100 t with
    |none=>grind
    |some z=>
     simp only[k]at a;cases w:ft z r s with
     |none=>grind
     |some j=>
      have H:=FY (L:=L) (e:=e) 100 10000 t z (by omega) k r s C.toList F.toList j I J p u w;simp only[valOf,G,if_true,akI]at H;cases op<;>simp[w]at a
      ·subst a
       exact⟨.bool j,by simp_all[run_eql_struct],.bool _⟩
      ·subst a
       exact⟨.bool (!j),by simp_all[run_neq_struct],.bool _⟩
 ·
  split at a
  case h_2=>simp at a
  case h_1 S d x b=>
  simp at a;subst a;replace h:=h.resolve_right (by grind);cases h
  have key:∃n q o,bL=.slice n q o/\n.isNone=d:=by
   replace f:=f.resolve_right (by rintro⟨_,_,_,a,_⟩;rw[a]at b;cases b);unfold AV.z1 at b;split at b
   ·cases f;grind
   ·cases f;grind
   ·simp at b;subst b
    cases f with
    |sl _ _ O af y cap Q U V X Y k v ae a p=>grind
   ·simp at b
  obtain⟨n,q,o,rfl,Z⟩:=key;have g:(eqGuard .eql t c dm (.slice n q o) (.slice D 0 0)).run P e=.ok () e:=by simp[eqGuard]
  simp only[Sem.run_bind,g,Result.andThen_ok];refine⟨.bool d,?_,.bool _⟩;simp_all[binOp,run_equal_slice_nil]
 ·simp at a
theorem T8{op:BinOp}{d:AV}(a:St L K s.tmps)(b:dC G L)(h:B.op=.binOp op t c dm cK)(e:rR P op t (ay G K c) (ay G K dm)=T d):cj P B s L d K:=by
 obtain⟨i,f,g⟩:=T7 (P:=P) (e:=L.w) (c:=c) (dm:=dm) (dU a b c) (dU a b dm) e;refine cj.still a ?_ (.inl g);simp only[execOp,h];rw[Sem.run_bind,f];rfl
theorem T9{op:UnOp}{i:AV}(f:St L K s.tmps)(k:dC G L)(g:B.op=.unOp op t c)(a:ml op (ay G K c)=T i):cj P B s L i K:=by
 have b:=dU f k c;unfold ml at a;split at a
 ·rename_i j e
  rw[e]at b;simp at a;subst a;refine cj.still f (bL:=.bool (!j)) ?_ (.inl (.bool _));simp[execOp,g,R.wW b,Op.unary]
 ·rename_i d h e
  rw[e]at b;simp at a;subst a;refine cj.still f (bL:=.int d (d.wrap (0 -h))) ?_ (.inl (by simpa using R.int (E:=L) d (d.wrap (0 -h))));simp[execOp,g,R.pZ b,Op.unary,Op.intArith]
 ·simp at a
theorem Ua(b:St L K s.tmps)(d:dC G L)(g:B.op=.makeInterface t c)(e:P.underlying t=T iY)(f:∀a,iY≠.interface a):
 cj P B s L (.iface t (ay G K c).pl) K:=by
 refine cj.still b (bL:=.iface t (s.eval c)) ?_ (.inl (.iface t _ _ (R.pl (dU b d c))));cases iY with
 |interface a=>exact absurd rfl (f a)
 |_=>simp[execOp,g,Instr.makeInterface,run_underlying e]
theorem FZ(c:St L K s.tmps)(b:dC G L):∀(a:List Operand),RL L (a.map λx=>(ay G K x).pl) (a.map s.eval)
 |[]=>.nil
 |x::a=>.cons _ _ _ _ (R.pl (dU c b x)) (FZ c b a)
theorem Ub{a:FuncId}{first cap:Array Operand}(d:St L K s.tmps)(e:dC G L)(c:B.op=.makeFunc (.func a) first cap):
 cj P B s L (.fn a (first.toList.map λb=>(ay G K b).pl) (cap.toList.map λb=>(ay G K b).pl)) K:=by
 refine cj.still d (bL:=.func (.func a) (first.map s.eval) (cap.map s.eval)) ?_ (.inl (.fn a _ _ _ _ ?_ ?_))
 ·simp[execOp,c,Instr.makeFunc]
 ·simp_all[FZ]
 simp_all[FZ]
theorem KQ{d:List AV}{vs:Array Value}{i:AV}(f:RL L d vs.toList)(m:∀b∈vs.toList,b.oneCell'=ab)(a:wN P t d U=T i):∃b,(Go.part t vs U).run P e=.ok b e/\R L i b:=by
 unfold wN at a;split at a
 case isFalse=>simp at a
 case isTrue c=>
 simp at a;subst a;obtain⟨k,g⟩:=rM.1 c.2.2;obtain⟨o,h⟩:=info_of_underlying g;rw[jf h]at c⊢;have j:=f.length;simp only[yh]at j;refine⟨_,CD (P:=P) h g vs U (by omega) c.2.1,?_⟩;unfold valOf;refine CB (RL.take _ (RL.drop _ f)) (by grind) (λn=>?_);grind
theorem Uc{e:AV}(d:St L K s.tmps)(h:dC G L)(p:B.op=.field t c U)(a:z5 P t (ay G K c) U=T e):cj P B s L e K:=by
 have b:=dU d h c;unfold z5 at a;split at a
 ·rename_i f n r m
  rw[m]at b;replace b:=b.resolve_right (by grind);generalize u:s.eval c=y at b;cases b with
  |agg _ vs i g=>
   cases k:f[U]? with
   |none=>grind
   |some o=>
    simp only[k]at a;obtain⟨v,q,j⟩:=KQ (e:=L.w) i g a;refine cj.still d ?_ (.inl j);simp_all[execOp,Instr.field,run_underlying,asAgg]
 ·simp at a
theorem Ud{r:AV}(h:St L K s.tmps)(m:dC G L)(Y:B.op=.index t c dm)(a:wO P t (ay G K c) (ay G K dm)=T r):cj P B s L r K:=by
 have d:=dU h m c;have g:=dU h m dm;unfold wO at a;split at a
 ·rename_i len u Q N b M k j
  rw[k]at d;rw[j]at g;have F:=R.pZ g;replace d:=d.resolve_right (by grind);generalize ac:s.eval c=af at d;split at a
  case isFalse=>simp at a
  case isTrue V=>
  cases d with
  |agg _ vs z x=>
   obtain⟨O,J,A⟩:=KQ (e:=L.w) z x a;have H:∃b,P.info? u=T b:=by
    unfold wN at a;split at a
    ·rename_i C
     obtain⟨S,E⟩:=rM.1 C.2.2;exact info_of_underlying E
    ·simp at a
   obtain⟨ad,I⟩:=H;rw[jf I]at J;refine cj.still h ?_ (.inl A);simp_all[execOp,Instr.index,run_underlying,asIntOf,sizeOf,typeInfo]
 ·rename_i q N b M k j
  rw[k]at d;rw[j]at g;have F:=R.pZ g;obtain⟨e,W,n⟩:=R.vx d;split at a
  case isFalse=>simp at a
  case isTrue U=>
  cases i:q[b.toNat]? with
  |none=>grind
  |some f=>
   simp[i]at a;subst a;have p:b.toNat<Z q:=(e6.1 i).1;have X:e[b.toNat]?=T f:=by
    have o:b.toNat<e.size:=by rw[<-n]at p;simpa using p
    have v:e.data.toList[b.toNat]?=T f:=by rw[n];exact i
    have:e.data[b.toNat]?=T f:=by simpa using v
    have y:e.data[b.toNat]'(by grind)=f:=by
     rw[Array.getElem?_eq_getElem (by simpa using o)]at this;injection this
    rw[getElem?_pos e b.toNat o];exact congrArg T y
   refine cj.still h (bL:=.int .u8 f.toNat) ?_ (.inl (.int _ _));simp_all[execOp,Instr.index,run_underlying,asIntOf]
 ·simp at a
theorem Ue{vs:List AV}{e:AV}(b:St L K s.tmps)(g:dC G L)(k:B.op=.extract c U)(j:ay G K c=.aE vs)(f:vs[U]?=T e):cj P B s L e.pl K:=by
 have a:=dU b g c;rw[j]at a;replace a:=a.resolve_right (by grind);generalize n:s.eval c=p at a;cases a with
 |aE _ o h=>
  obtain⟨d,m,i⟩:=h.get f;refine cj.still b (bL:=d) ?_ (.inl (R.pl (.inl i)));simp_all[execOp,Instr.extract]
theorem Uf{f:AV}(d:St L K s.tmps)(g:dC G L)(k:B.op=.typeAssert c cK t aa)(i:P.underlying t=T iY)(j:∀b,iY≠.interface b)(m:ay G K c=.iface t f):cj P B s L f.pl K:=by
 have a:=dU d g c;rw[m]at a;replace a:=a.resolve_right (by grind);generalize n:s.eval c=o at a;cases a with
 |iface _ _ e h=>
  refine cj.still d (bL:=e) ?_ (.inl (R.pl (.inl h)));cases iY with
  |interface b=>exact absurd rfl (j b)
  |_=>simp[execOp,k,Instr.typeAssert,run_underlying i,n]
end
variable{y:Nat}
section
variable{P:Program}{G:Nat->Option (List AV)}{A:bQ}
theorem KR(c b:Nat):∀(a:List (Nat×AV)),look b (m7 c a)=(look b a).map λd=>if d.gE c then .undef else d
 |[]=>rfl
 |(e,d)::a=>by
  simp only[m7,look];split
  ·rfl
  ·exact KR c b a
theorem yu{c:List AV}(d:qO P t=T c):∃a b,P.info? t=T a/\a.zero=T b/\RL L c b.cells.toList/\∀e∈b.cells.toList,e.oneCell'=true:=by
 unfold qO at d;cases f:P.info? t with
 |none=>grind
 |some a=>
  grind[FM]
theorem KS(b:St L K s.tmps)(e:Nat)(o:List AV)(cells:Array Value)(h:TypeId)(v:RL L o cells.toList)(i:∀y∈cells.toList,y.oneCell'=ab):
 ∃f,f.w=L.w.alloc (.cells cells h)/\RT f (.lp e 0) (.pointer (T ⟨L.w.heap.size,0,D⟩))/\St f {K with env:=m7 e K.env,bx:=put e o K.bx} s.tmps/\Fr L f:=by
 obtain⟨g,r⟩:=l.FR b.b1 (U:=e) (O:=L.w.heap.size) (c7.alloc L.w (.cells cells h) _) (by simp) (di _);refine⟨_,rfl,.inr (by grind[l.box]),?_,g⟩;exact{
  b1:=r
  hp:=b.hp
  env:=λc B a=>by
   rw[KR]at a;cases n:look c K.env with
   |none=>grind
   |some z=>
    simp[n]at a;subst a;split
    ·exact .inl (.undef _)
    ·rename_i A
     rcases b.env c z n with a|⟨x,off,d,i,m,j⟩
     ·exact .inl (a.mono g b.b1)
     ·refine .inr ⟨x,off,d,i,?_,j⟩
      grind[AV.gE,l.box]
  bx:=λc p a=>by
   simp only[fc]at a;by_cases k:c=e
   ·subst k
    rw[if_pos rfl]at a;injection a with a;subst a;exact⟨_,cells,h,by simp[l.box],heap_alloc_new _ _,RL.mono g b.b1 v,i⟩
   ·rw[if_neg k]at a
    obtain⟨d,vs,q,m,j,t,u⟩:=b.bx c p a;refine⟨d,vs,q,by grind[l.box],?_,RL.mono g b.b1 t,u⟩;exact((c7.alloc L.w _ (λ_=>False)).block d (b.b1.blt c d m).1 (λa=>a)).trans j}
theorem yv(b:St L K s.tmps)(c:Nat)(a:List (List AV))(cells:Array Value)(k:TypeId)(t:∀x∈a,Z x=c)(r:Z a*c<=cells.size)
 (p:RL L a.flatten (cells.toList.take (Z a*c)))(o:∀v∈cells.toList.take (Z a*c),v.oneCell'=ab)(f:World)(m:c7 L.w f (λ_=>False))(i:f.heap[L.w.heap.size]?=T (.cells cells k (0,0))):
 ∃d,d.w=f/\d.h (Z K.hp)=T (L.w.heap.size,cells.size)/\d.H=K.hp++[.arr 0 c a]/\St d {K with hp:=K.hp++[.arr 0 c a]} s.tmps/\Fr L d:=by
 have y:L.w.heap.size<f.heap.size:=(oI.1 i).1;obtain⟨e,n⟩:=l.CC b.b1 (iX:=.arr 0 c a) (j:=T (L.w.heap.size,cells.size)) m
  (by grind)
  (λe=>⟨t,.inr ⟨_,cells,k,by simp[l.new],i,r,RL.mono e b.b1 p,o⟩⟩)
 refine⟨_,rfl,?_,?_,?_,e⟩
 ·rw[b.hp];simp[l.new]
 ·rw[b.hp];simp[l.new]
 ·have:=St.mono b e n (λ_ _ g=>g) (λu j q=>m.block j (b.b1.blt u j q).1 (λg=>g))
  simpa[l.new,b.hp]using this
theorem F0(a:St L K s.tmps)(e:Nat)(h:World)(g:c7 L.w h (λ_=>False)):
 ∃b,b.w=h/\b.H=K.hp++[.arr 0 e []]/\St b {K with hp:=K.hp++[.arr 0 e []]} s.tmps/\Fr L b:=by
 obtain⟨c,i⟩:=l.CC a.b1 (iX:=.arr 0 e []) (j:=D) g (by grind) (λc=>⟨by simp,.inl ⟨rfl,by simp[l.new]⟩⟩);refine⟨_,rfl,?_,?_,c⟩
 ·rw[a.hp];simp[l.new]
 ·have:=St.mono a c i (λ_ _ d=>d) (λk f j=>g.block f (a.b1.blt k f j).1 (λd=>d))
  simpa[l.new,a.hp]using this
theorem F1{id:Nat}(b:L.H[id]?=T (.arr 0 U []))(a:Option Addr):R L (.q id 0 0 0) (.slice a 0 0):=
 .q id 0 0 0 _ (e6.1 b).1 ⟨_,_,rfl⟩ (by omega) (by grind)
theorem CE{id g:Nat}{a:List (List AV)}{cap:Nat}(b:L.H[id]?=T (.arr g U a))(d:L.h id=T (O,y))(c:Z a<=cap)(e:cap*U<=y):R L (.q id g 0 (Z a)) (.slice (T ⟨O,0,D⟩) (Z a) cap):=
 .q id g 0 (Z a) _ (e6.1 b).1 ⟨_,_,rfl⟩ (by grind)
  (by grind)
theorem Ug{k:AV}(i:St L K s.tmps)(g:B.op=.alloc t)(a:aT P G A K B.dst B.op=T (k,j)):cj P B s L k j:=by
 rw[g]at a;unfold aT at a;simp only at a;split at a
 ·rename_i m n v C
  split at a
  case isFalse=>simp at a
  case isTrue q=>
  obtain⟨F,b,p,y,f,o⟩:=yu (L:=L) v;have u:(execOp s.eval B).run P L.w=.ok (.value (.pointer (T ⟨L.w.heap.size,0,D⟩))) (L.w.alloc (.cells b.cells t)):=by
   simp[execOp,g,Instr.alloc,zeroValue,typeInfo,p,y,newVar,newRow]
  split at a
  ·simp at a
   obtain⟨rfl,rfl⟩:=a;obtain⟨c,h,r,e,d⟩:=KS i n m b.cells t f o;exact⟨_,_,c,by grind,.inl rfl,r,e,d⟩
  ·simp at a
   obtain⟨rfl,rfl⟩:=a;have x:b.cells.size=bc P t:=by rw[<-q,<-f.length];simp
   obtain⟨c,h,E,z,e,d⟩:=yv i (bc P t) [m] b.cells t (by grind) (by simp[x]) (by grind[List.take_of_length_le]) (by grind) _ (by grind[c7.alloc]) (heap_alloc_new _ _);refine⟨_,_,c,by rw[h];exact u,.inl rfl,.inl (.ptr _ 0 0 0 _ (by grind) rfl (by omega) (by grind)),e,d⟩
 ·simp at a
theorem FR{u:AV}(b:St L K s.tmps)(z:dC G L)(o:B.op=.box t c)(a:aT P G A K B.dst B.op=T (u,j)):cj P B s L u j:=by
 rw[o]at a;unfold aT at a;simp only at a;cases C:B.dst with
 |none=>grind
 |some v=>
  simp only[C]at a;split at a
  case isFalse=>simp at a
  case isTrue f=>
  have H:=R.pl (dU b z c);obtain⟨e,y⟩:=H.cells f.2;have p:(execOp s.eval B).run P L.w=.ok (.value (.pointer (T ⟨L.w.heap.size,0,D⟩))) (L.w.alloc (.cells (s.eval c).cells t)):=by
   simp[execOp,o,Instr.box,newVar,newRow]
  split at a
  ·simp at a
   obtain⟨rfl,rfl⟩:=a;obtain⟨g,q,i,k,d⟩:=KS b v _ (s.eval c).cells t e y;exact⟨_,_,g,by grind,.inl rfl,i,k,d⟩
  split at a
  ·simp at a
   obtain⟨rfl,rfl⟩:=a;have r:(s.eval c).cells.size=bc P t:=by rw[<-f.1,<-e.length];simp
   obtain⟨g,q,M,J,k,d⟩:=yv b (bc P t) [_] (s.eval c).cells t (by simpa using f.1) (by simp[r]) (by grind[List.take_of_length_le]) (by grind) _ (by grind[c7.alloc]) (heap_alloc_new _ _);refine⟨_,_,g,by rw[q];exact p,.inl rfl,.inl (.ptr _ 0 0 0 _ (by grind) rfl (by omega) (by grind)),k,d⟩
  ·simp at a
   obtain⟨rfl,rfl⟩:=a;have r:(s.eval c).cells.size=bc P t:=by rw[<-f.1,<-e.length];simp
   have n:=heap_alloc_new L.w (.cells (s.eval c).cells t);have N:L.w.heap.size<(L.w.alloc (.cells (s.eval c).cells t)).heap.size:=(oI.1 n).1;obtain⟨d,x⟩:=l.FU b.b1 (e:=L.w.alloc (.cells (s.eval c).cells t)) (by grind[c7.alloc]);have h:=e.length;simp only[yh]at h;have F:((s.eval c).cells.toList.drop 0).take (Z (ay G K c).pl.cells)=(s.eval c).cells.toList:=by
    rw[jR];exact fW (by simp[h])
   have i:R (L.c4 (L.w.alloc (.cells (s.eval c).cells t))) (.aK aa (ay G K c).pl.cells 0) (.pointer (T ⟨L.w.heap.size,0+0,D⟩)):=
    .aK aa _ 0 L.w.heap.size 0 (s.eval c).cells t _ (.inr (by omega)) n (by simp[h]) (by rw[F];exact RL.mono d b.b1 e) (by grind)
   refine⟨_,_,L.c4 _,by exact p,.inl rfl,.inl i,?_,d⟩;have:=St.mono b d x (λ_ _ a=>a) (λI m E=>(c7.alloc L.w (.cells (s.eval c).cells t) (λ_=>False)).block m (b.b1.blt I m E).1 (λa=>a));simpa[l.c4,<-b.hp]using this
theorem F2(off:Nat):∀(vs:List Value)(a:Nat)(cells:Array Value),off+a+Z vs<=cells.size->
 ((vs.zipIdx a).foldl (λc(b:Value×Nat)=>c.setIfInBounds (off+b.2) b.1) cells).toList=cells.toList.take (off+a)++vs++cells.toList.drop (off+a+Z vs)
 |[],a,cells,_=>by simp
 |v::vs,a,cells,d=>by
  simp only[iJ]at d;simp only[List.zipIdx_cons,oJ];rw[F2 off vs (a+1) _ (by simp;omega)];have e:off+a<Z cells.toList:=by simp;omega
  rw[Array.toList_setIfInBounds,List.take_set,List.drop_set_of_lt (by omega)];rw[show off+(a+1)=off+a+1 by omega,hX e,Kd _ _ (by simp;omega)];simp only[gb,fH,iJ];rw[To (by omega),Ke];grind
theorem F3(m:St L K s.tmps)(j:dC G L)(place:Nat->Option (Nat×Nat)):∀(parts:List (Nat×Operand))(d:List AV)(cells:Array Value)(c:List AV),RL L d cells.toList->(∀h∈cells.toList,h.oneCell'=ab)->
 vm place d (parts.map λb=>(b.1,ay G K b.2))=T c->∃e,Instr.fill place cells (parts.map λb=>(b.1,s.eval b.2))=T e/\RL L c e.toList/\∀h∈e.toList,h.oneCell'=ab
 |[],d,cells,c,g,i,a=>by
  simp[vm]at a;subst a;exact⟨cells,rfl,g,i⟩
 |(r,f)::parts,d,cells,c,g,i,a=>by
  simp only[eJ,vm]at a;cases p:place r with
  |none=>grind
  |some t=>
   obtain⟨off,size⟩:=t;simp only[p]at a;split at a
   case isFalse=>simp at a
   case isTrue k=>
   obtain⟨o,u⟩:=(R.pl (dU m j f)).cells k.2.2;have q:(s.eval f).cells.size=size:=by rw[<-k.1,<-o.length];simp
   have y:cells.size=Z d:=by simpa using g.length
   have z:=F2 off (s.eval f).cells.toList 0 cells (by simp[q];omega);obtain⟨e,v,w,x⟩:=F3 m j place parts _ ((s.eval f).cells.zipIdx.foldl (λn(b:Value×Nat)=>n.setIfInBounds (off+b.2) b.1) cells) c (by
    grind[Array.toList_zipIdx,RL.eV]) (by
    grind[Array.toList_zipIdx]) a
   grind[Instr.fill]
theorem Uh{i:Array (Nat×Operand)}{j:AV}(q:St L K s.tmps)(x:dC G L)(N:B.op=.build t i)(b:wP P t (i.toList.map λC=>(C.1,ay G K C.2))=T j):cj P B s L j K:=by
 unfold wP at b;have key:∀c,P.built t ((i.map λ(d,U)=>(d,s.eval U)).toList)=T c->RL L j.cells c.toList->(∀E∈c.toList,E.oneCell'=ab)->(∃v,j=.agg v)->cj P B s L j K:=by
  intro c I g f ⟨v,S⟩;subst S;refine cj.still q (bL:=.agg c) ?_ (.inl (.agg _ _ g f));simp[execOp,N,run_build L.w t _ c I]
 split at b
 ·rename_i k r z o
  obtain⟨d,u,y,A,g,f⟩:=yu (L:=L) o;split at b
  case isFalse=>simp at b
  case isTrue F=>
  simp only[dg]at b;obtain⟨p,h,rfl⟩:=b;have O:∀(e:List Field),e.all (λa=>(P.info? a.type).isSome)=ab->e.mapM (λa=>(P.info? a.type).map λd=>(a.offset,d.size))=T (e.map λa=>(a.offset,bc P a.type)):=by
   intro e;induction e with
   |nil=>intro _;rfl
   |cons a e W=>
    simp_all[qJ,bG,rM,List.mapM_cons,jf]
  have Q:(λd:Nat=>(k[d]?).map λa:Field=>(a.offset,bc P a.type))=λd:Nat=>((k.toList.map λa:Field=>(a.offset,bc P a.type)).toArray)[d]?:=by
   funext d;simp
  rw[Q]at h;obtain⟨c,J,n,m⟩:=F3 q x _ i.toList r u.cells p g f h;refine key c ?_ n m ⟨_,rfl⟩;have H:k.toList.all (λa=>(P.info? a.type).isSome)=true:=by simpa using F
  simp only[Program.built,y,z,A,O _ H];simp_all
 ·rename_i Y V r z o
  obtain⟨d,u,y,A,g,f⟩:=yu (L:=L) o;split at b
  case isFalse=>simp at b
  case isTrue R=>
  simp only[dg]at b;obtain⟨p,h,rfl⟩:=b;obtain⟨X,M⟩:=pY R;rw[jf M]at h;obtain⟨c,J,n,m⟩:=F3 q x _ i.toList r u.cells p g f h;refine key c ?_ n m ⟨_,rfl⟩;simp_all[Program.built]
 ·simp at b
end
variable{c2:Nat}{lj:TypeId}
section
variable{P:Program}{G:Nat->Option (List AV)}{A:bQ}
theorem tR{b:Nat}:∀{a:List (List AV)}(off len:Nat),(∀e∈a,Z e=b)->((a.drop off).take len).flatten=(a.flatten.drop (off*b)).take (len*b)
 |a,0,0,_=>by simp
 |[],off,len,_=>by simp
 |e::a,0,len+1,c=>by
  have d:=c e (by simp);have f:=tR (b:=b) (a:=a) 0 len (by grind);simp_all[jR,Kf,qK,Kg,wE,akF,fW]
 |e::a,off+1,len,c=>by
  have d:=c e (by simp);have f:=tR (b:=b) (a:=a) off len (by grind);simp_all[List.drop_succ_cons,wE,Tm,sF,qK,Nat.add_sub_cancel]
theorem CF(b:pT P t=ab):(∃a,P.underlying t=T (.slice a))\/P.underlying t=T .string:=by
 grind[pT]
theorem Src.nil(c:pT P t=ab)(a:Option Addr)(cap:Nat):Src P U t (.slice a 0 cap) 0 [] e:=by
 cases a with
 |none=>exact⟨CF c,λ_=>rfl,run_firstCells_none e U 0 0 cap,by grind[run_firstCells_none],by simp,λ_ b=>by cases b⟩
 |some a=>exact⟨CF c,λ_=>rfl,by grind[run_firstCells_some],by grind[run_firstCells_some],by simp,λ_ b=>by cases b⟩
theorem Src.at(f:pT P t=ab){cap:Nat}(d:e.heap[O]?=T (.cells fq cK mU))(h:y+c2*U<=fq.size)
 (c:∀g∈(fq.toList.drop y).take (c2*U),g.oneCell'=ab):Src P U t (.slice (T ⟨O,y,D⟩) c2 cap) c2 ((fq.toList.drop y).take (c2*U)) e:=by
 have a:Z ((fq.toList.drop y).take (c2*U))=c2*U:=by simp;omega
 have b:=FN d y ((fq.toList.drop y).take (c2*U)) (by rw[a]);exact⟨CF f,λ_=>rfl,run_firstCells_some e U c2 _ c2 cap _ a b,run_firstCells_some e.drew U c2 _ c2 cap _ a (by simpa using b),a,c⟩
theorem KT(C:St L K s.tmps){r:AV}{k:List (List AV)}(h:pT P t=ab)(d:RT L r bL)(a:mm K U r=T k):
 ∃B,Src P U t bL (Z k) B L.w/\RL L k.flatten B/\∀f∈k,Z f=U:=by
 replace d:=d.resolve_right (by grind[mm]);cases r with
 |ai=>
  simp[mm]at a;subst a;cases d
  exact⟨[],Src.nil h _ 0,.nil,by simp⟩
 |dI=>
  simp[mm]at a;subst a;cases d
  exact⟨[],Src.nil h _ 0,.nil,by simp⟩
 |sl ad c=>
  simp only[mm]at a;split at a
  case isFalse=>simp at a
  case isTrue G=>
  simp at a;subst a;have j:=FW G;cases d with
  |h5 _ m cap=>exact⟨[],Src.nil h m cap,.nil,by simp⟩
  |sl _ _ e bi Y cap n F ah ar au a0 x W v i=>
   have I:Z c*Y=Z c*U:=by
    cases c with
    |nil=>simp
    |cons f c=>grind
   grind[Src.at]
 |q id g off len=>
  simp only[mm]at a;rw[C.hp]at a;cases o:L.H[id]? with
  |none=>grind
  |some ob=>
   cases ob with
   |mp _ _ _=>grind
   |hM _ _=>grind
   |arr ak b c=>
    simp only[o]at a;split at a
    case isFalse=>simp at a
    case isTrue x=>
    obtain⟨J,R,O⟩:=x;subst J;subst R;simp at a;subst a;obtain⟨j,Q⟩:=C.b1.iw id _ o;have S:∀f∈(c.drop off).take len,Z f=b:=by grind
    have a4:Z ((c.drop off).take len)=len:=by simp;omega
    cases d with
    |q _ _ _ _ _ aQ aq aB d=>
     obtain⟨m,cap,rfl,a3,bb,y⟩:=d b c o;by_cases N:len=0
     ·subst N
      simp only[Tp];exact⟨[],Src.nil h m cap,.nil,by simp⟩
     ·rcases y with y|⟨e,br,M,rfl,W⟩
      ·omega
      ·rcases Q with⟨I,a9⟩|⟨ac,n,F,z,ax,bf,v,i⟩
       ·grind
       ·rw[M]at z
        injection z with f;injection f with E af;subst E;have A:off*b+len*b<=Z c*b:=by
         rw[<-rN];exact k9 _ O
        have be:∀bL∈(n.toList.drop (off*b)).take (len*b),bL.oneCell'=true:=λbL V=>by
         apply i;rw[<-j0 _ (Z c*b) _ _ A]at V;grind
        refine⟨(n.toList.drop (off*b)).take (len*b),by grind[Src.at],?_,S⟩;rw[tR off len j];have u:=RL.take (len*b) (RL.drop (off*b) v);rw[j0 _ _ _ _ A]at u;exact u
 |str p=>
  simp only[mm]at a;split at a
  case isFalse=>simp at a
  case isTrue i=>
  simp at a;subst a;subst i;cases d with
  |str e=>
   refine⟨byteCells e,?_,?_,by simp⟩
   ·rw[kd]
    have:Z e.data.toList=e.size:=by simp
    rw[this];exact⟨CF h,λ_=>rfl,firstCells_string e L.w,firstCells_string e L.w.drew,by grind[byteCells_length],λbL j=>by
     obtain⟨_,_,rfl⟩:=du.1 j;rfl⟩
   ·unfold byteCells
    generalize e.data.toList=p;induction p with
    |nil=>exact .nil
    |cons ae p X=>exact .cons _ _ _ _ (.int _ _) X
 |_=>simp[mm]at a
theorem Ui(l m s i:TypeId)(b:TypeInfo)(r:P.underlying l=T (.slice i))(p:P.info? i=T b)(c a h:Nat)(n:Value)(g:Nat)(d:List Value)(f:Src P b.size m n g d e)
 (o:e.heap[c]?=T (.cells fq t (0,0)))(q:a+g<=h)(v:a*b.size+Z d<=fq.size):
 (Builtin.append_ #[l,m] s #[.slice (T ⟨c,0,D⟩) a h,n]).run P e=.ok (.slice (T ⟨c,0,D⟩) (a+g) h) (e.setRow c (fq.toList.take (a*b.size)++d++fq.toList.drop (a*b.size+Z d)).toArray):=by
 have k:=run_storeCells_at P c (a*b.size) t d 0 fq e o (by omega) f.one;simp only[fo]at k;rcases f.kind with⟨u,j⟩|j<;>simp[Builtin.append_,run_underlying r,run_underlying j,sizeOf,typeInfo,p,f.len,q,f.cells,Addr.add_mid,k]
theorem KU(f g k b:TypeId)(d:TypeInfo)(j:P.underlying f=T (.slice b))(i:P.info? b=T d)(base:Option Addr)(cap:Nat)(h:Value)(a:Src P d.size g h 0 [] e):
 (Builtin.append_ #[f,g] k #[.slice base 0 cap,h]).run P e=.ok (.slice base 0 cap) e:=by
 rcases a.kind with⟨l,c⟩|c<;>cases base<;>simp[Builtin.append_,run_underlying j,run_underlying c,sizeOf,typeInfo,i,a.len,a.cells,storeCells]
theorem CG(b:Array Value)(a:Nat):(Builtin.zeroCells b a).size=a*b.size:=by simp[Builtin.zeroCells]
theorem F4(o:St L K s.tmps){d6 d4 f2:AV}{A:Value}(C:RT L d6 bL)(ho:RT L d4 A)(bf:pT P cK=ab)(h:mn P K t d6 d4=T (f2,j)):
 ∃f p,(Builtin.append_ #[t,cK] lj #[bL,A]).run P L.w=.ok f p.w/\R p f2 f/\St p j s.tmps/\Fr L p:=by
 unfold mn at h;split at h
 case h_2=>simp at h
 case h_1 d ad=>
 split at h
 case h_2=>simp at h
 case h_1 G b ax fI=>
 split at h
 case isFalse=>simp at h
 case isTrue Y=>
 obtain⟨f0,hg,be⟩:=Y;obtain⟨a,V,N,d2,hs,i3⟩:=yu (L:=L) ax;rw[jf N]at f0 hg fI h;rw[KG N]at be h;have d1:V.cells.size=a.size:=by rw[<-f0,<-hs.length];simp
 obtain⟨e,y,d7,d0⟩:=KT o (t:=cK) bf ho fI;have F:Z e=Z b*a.size:=y.newsLen;split at h
 ·
  rename_i em;obtain⟨i,hn⟩:∃i,bL=.slice i 0 0:=by
   replace C:=C.resolve_right (by rintro⟨_,_,_,h,_⟩;rw[h]at em;cases em);cases C<;>first|exact⟨_,rfl⟩|grind[AV.isNil]
  subst hn;have f9:(Builtin.firstCells a.size 0 (.slice i 0 0)).run P L.w.drew=.ok #[] L.w.drew:=by
   cases i with
   |none=>grind[run_firstCells_none]
   |some i=>grind[run_firstCells_some]
  split at h
  case isFalse=>simp at h
  case isTrue ah=>
  simp at h;obtain⟨rfl,rfl⟩:=h;by_cases a9:b=[]
  ·subst a9
   have ci:e=[]:=wF (by simpa using F);subst ci;obtain⟨p,O,bb,aB,r⟩:=F0 o a.size L.w (c7.refl _ _);refine⟨_,p,by rw[O];exact KU t cK lj d a ad N i 0 A y,?_,aB,r⟩;grind[F1]
  ·have i2:0<Z b:=List.length_pos_iff.2 a9
   have I:Z b*a.bytes<=140737488355328:=by simpa using ah
   have bw:Z b<=140737488355328:=iU (Tq _ be) I;have x:=run_append_grow_src (P:=P) L.w t cK lj d a V ad N d2 i 0 0 [] f9 A (Z b) e y (by omega) (by omega) (growslice_fits (by omega) (by simpa using I));simp only[aJ,c3]at x;have ar:=grownCap_ge L.w (Z b) 0 d;generalize M:e.toArray++Builtin.zeroCells V.cells (grownCap L.w (Z b) 0 d -(Z b))=cells at x
   have S:cells.size=grownCap L.w (Z b) 0 d*a.size:=by
    rw[<-M];simp only[Ts,Tt,CG,d1,F,<-rN];congr 1;omega
   have ac:cells.toList.take (Z b*a.size)=e:=by
    rw[<-M,Kh,Fv,<-F];exact Ki
   obtain⟨p,O,E,bb,aB,r⟩:=yv o a.size b cells d d0 (by grind) (by grind) (by rw[ac];exact y.one) (L.w.drew.alloc (.cells cells d)) ((c7.drew _ _).trans (c7.alloc _ _ _)) (heap_alloc_new L.w.drew _);refine⟨_,p,by rw[O];exact x,?_,aB,r⟩;exact CE (g:=0) (U:=a.size) (a:=b) (by rw[bb];simp) E ar (by rw[S];exact di _)
 ·split at h
  case h_3=>simp at h
  case h_2 c gt=>
   split at h
   case isFalse=>simp at h
   case isTrue Y=>
   obtain⟨a9,f6,ii,ah⟩:=Y;simp only[eK,eC]at h;obtain⟨rfl,rfl⟩:=h;replace C:=C.resolve_right (by grind);cases C with
   |qN f3 _ i hj=>
   have f8:∀(z:List AV),z∈c->Z z=a.size:=FW f6;obtain⟨u,ds,h4,-⟩:=KT (P:=P) (t:=t) (r:=.sl f3 c) (U:=a.size) (k:=c) o (by grind[pT]) (.inl hj) (by grind[mm]);have ex:Z u=Z c*a.size:=ds.newsLen;have I:(Z c+Z b)*a.bytes<=140737488355328:=by simpa using ah
   have gj:Z c+Z b<=140737488355328:=iU (Tq _ be) I;have x:=run_append_grow_src (P:=P) L.w t cK lj d a V ad N d2 i (Z c) (Z c) u ds.cellsD A (Z b) e y (by omega) (by omega) (growslice_fits (by omega) (by simpa using I));have ar:=grownCap_ge L.w (Z c+Z b) (Z c) d;generalize M:(u++e).toArray++Builtin.zeroCells V.cells (grownCap L.w (Z c+Z b) (Z c) d -(Z c+Z b))=cells at x
   have eq:Z (u++e)=Z (c++b)*a.size:=by simp only[fb,ex,F,rN]
   have ce:Z (c++b)=Z c+Z b:=fb;have S:cells.size=grownCap L.w (Z c+Z b) (Z c) d*a.size:=by
    rw[<-M];simp only[Ts,Tt,CG,d1,eq,ce,<-rN];congr 1;omega
   have ac:cells.toList.take (Z (c++b)*a.size)=u++e:=by
    rw[<-M,Kh,Fv,<-eq];exact Ki
   obtain⟨p,O,E,bb,aB,r⟩:=yv o a.size (c++b) cells d (λz hq=>by
    rcases c5.1 hq with hq|hq
    ·exact f8 z hq
    ·exact d0 z hq) (by grind) (by grind[List.flatten_append,RL.append]) (by rw[ac];intro f n;rcases c5.1 n with h|h;exact ds.one f h;exact y.one f h) (L.w.drew.alloc (.cells cells d)) ((c7.drew _ _).trans (c7.alloc _ _ _)) (heap_alloc_new L.w.drew _)
   refine⟨_,p,by rw[O];exact x,?_,aB,r⟩;have:=CE (g:=0) (U:=a.size) (a:=c++b) (id:=Z K.hp) (cap:=grownCap L.w (Z c+Z b) (Z c) d) (by rw[bb];simp) E (by rw[ce];exact ar) (by rw[S];exact di _);rw[ce]at this;exact this
  case h_1 id g len gt=>
  rw[o.hp]at h;cases au:L.H[id]? with
  |none=>grind
  |some ob=>
   cases ob with
   |mp _ _ _=>grind
   |hM _ _=>grind
   |arr B d3 c=>
    simp only[au]at h;split at h
    case isFalse=>simp at h
    case isTrue Y=>
    obtain⟨gc,bw,S,ah⟩:=Y;subst gc;subst S;simp at h;obtain⟨rfl,rfl⟩:=h;have I:(len+Z b)*a.bytes<=140737488355328:=by simpa using ah
    have gj:len+Z b<=140737488355328:=iU (Tq _ be) I;replace C:=C.resolve_right (by grind);obtain⟨fn,cs⟩:=o.b1.iw id _ au;have bi:Z (c.take len++b)=len+Z b:=by simp;omega
    have fs:∀z∈c.take len++b,Z z=a.size:=λz hq=>by
     rcases c5.1 hq with hq|hq
     ·exact fn z (qL hq)
     ·exact d0 z hq
    have el:(c.take len++b).flatten=c.flatten.take (len*a.size)++b.flatten:=by
     rw[zQ];have:=tR 0 len fn;simp only[jR,Kf]at this;rw[this]
    have ge:id<Z L.H:=(e6.1 au).1;cases C with
    |q _ _ _ _ _ _ a9 io h=>
     obtain⟨i,cap,rfl,ip,ex,aq⟩:=h _ _ au;have a4:∀(U:World)(J:Option (Nat×Nat))(f:Value),(Builtin.append_ #[t,cK] lj #[.slice i len cap,A]).run P L.w=.ok f U->c7 L.w U (λm=>∃G,L.h id=T (m,G))->
      (∀m G,J=T (m,G)->m<U.heap.size/\((∃aQ,L.h id=T (m,aQ))\/L.w.heap.size<=m))->
      (Fr L (L.b6 U id (.arr (B+1) a.size (c.take len++b)) J)->qS (L.b6 U id (.arr (B+1) a.size (c.take len++b)) J) id (.arr (B+1) a.size (c.take len++b)))->
      (∃a0 W,f=.slice a0 (len+Z b) W/\len+Z b<=W/\(W=0\/∃m G,J=T (m,G)/\a0=T ⟨m,0,D⟩/\W*a.size<=G))->
      ∃f p,(Builtin.append_ #[t,cK] lj #[.slice i len cap,A]).run P L.w=.ok f p.w/\R p (.q id (B+1) 0 (len+Z b)) f/\St p {K with hp:=L.H.set id (.arr (B+1) a.size (c.take len++b))} s.tmps/\Fr L p:=by
      intro U J f hh O gi gN ⟨a0,W,hm,f7,i0⟩;obtain⟨r,f5⟩:=l.vw o.b1 O au (k:=.arr (B+1) a.size (c.take len++b)) (f:=J) (by simp[iK]) gi gN;refine⟨f,_,hh,?_,?_,r⟩
      ·have go:(L.b6 U id (.arr (B+1) a.size (c.take len++b)) J).H[id]?=T (.arr (B+1) a.size (c.take len++b)):=by simp[l.b6,ge]
       refine .q id (B+1) 0 _ f (by grind) (by grind) (λi5 hw h3 hq=>?_) λhw h3 hq=>?_
       ·grind
       ·rw[go]at hq
        injection hq with v;injection v with _ af f4;subst af;subst f4;refine⟨a0,W,hm,f7,by omega,?_⟩;simp_all[l.b6]
      ·have:=St.mono o r f5 (λ_ _ h=>h) (λf1 ae bf=>O.block ae (o.b1.blt f1 ae bf).1 λ⟨aQ,d⟩=>(o.b1.blt f1 ae bf).2.2 _ _ d)
       grind[l.b6]
     by_cases dl:len+Z b<=cap
     ·rcases aq with aq|⟨m,d5,E,rfl,ax⟩
      ·
       have v:len=0:=by omega
       have af:b=[]:=wF (by omega);subst v;subst af;have ci:e=[]:=wF (by simpa using F);subst ci;refine a4 L.w (L.h id) _ (KU t cK lj d a ad N i cap A y) (c7.refl _ _) (λm G ak=>⟨(o.b1.dX _ _ _ ak).1,.inl ⟨G,ak⟩⟩) (λr=>?_) ⟨i,cap,rfl,by simp,.inl aq⟩;refine⟨by simp,?_⟩;rcases cs with⟨_,es⟩|⟨br,k,a3,Q,X,_,_,_⟩
       ·grind[l.b6]
       ·exact .inr ⟨br,k,a3,by simp[l.b6,Q],X,by simp,by simpa using RL.nil,by simp⟩
      ·rcases cs with⟨_,es⟩|⟨br,k,a3,Q,X,hu,d8,bv⟩
       ·grind
       rw[E]at Q;injection Q with v;injection v with v af;subst v;have d9:len*a.size+Z e<=k.size:=by
        rw[F,<-rN];have:=k9 a.size dl;simp only[aJ]at ax;omega
       have x:=Ui (P:=P) t cK lj d a ad N m len cap A (Z b) e y X dl d9;have b4:len*a.size<=Z c*a.size:=k9 _ bw;simp only[Kf]at a4⊢;have i1:Z (k.toList.take (len*a.size)++e++k.toList.drop (len*a.size+Z e))=k.size:=by
        rw[KL _ _ _ (by simpa using d9)];simp
       have fd:(k.toList.take (len*a.size)++e++k.toList.drop (len*a.size+Z e)).take ((len+Z b)*a.size)=k.toList.take (len*a.size)++e:=by
        rw[rN,<-F];have:Z (k.toList.take (len*a.size)++e)=len*a.size+Z e:=by simp;omega
        rw[<-this];exact Ki
       refine a4 _ (L.h id) _ x (c7.setRow _ _ _ _ ⟨d5,E⟩) (λae aQ ak=>⟨by simp;grind,.inl ⟨aQ,ak⟩⟩) (λr=>?_) ⟨_,cap,rfl,dl,.inr ⟨m,d5,E,rfl,by simpa using ax⟩⟩;refine⟨fs,.inr ⟨m,_,a3,?_,setRow_heap _ _ _ _ _ _ X,?_,?_,?_⟩⟩
       ·show(if id=id then L.h id else L.h id)=T (m,(List.toArray _).size)
        grind
       ·grind
       ·rw[bi,Fv,fd,el]
        refine RL.append (RL.mono r o.b1 ?_) (RL.mono r o.b1 d7);have:=RL.take (len*a.size) d8;grind
       ·intro f n
        rw[bi,Fv,fd]at n;rcases c5.1 n with n|n
        ·apply bv
         have:k.toList.take (len*a.size)=(k.toList.take (Z c*a.size)).take (len*a.size):=by rw[Tu,To b4]
         grind
        ·exact y.one f n
     ·
      have he:∃u,(Builtin.firstCells a.size len (.slice i len cap)).run P L.w.drew=.ok u.toArray L.w.drew/\Z u=len*a.size/\RL L (c.flatten.take (len*a.size)) u/\∀f∈u,f.oneCell'=true:=by
       by_cases gh:len=0
       ·subst gh
        refine⟨[],?_,by simp,by simpa using RL.nil,by simp⟩;cases i with
        |none=>grind[run_firstCells_none]
        |some i=>grind[run_firstCells_some]
       ·rcases aq with aq|⟨m,d5,E,rfl,ax⟩
        ·omega
        rcases cs with⟨_,es⟩|⟨br,k,a3,Q,X,hu,d8,bv⟩
        ·grind
        rw[E]at Q;injection Q with v;injection v with v af;subst v;have b4:len*a.size<=Z c*a.size:=k9 _ bw;have hl:(k.toList.take (Z c*a.size)).take (len*a.size)=k.toList.take (len*a.size):=by rw[Tu,To b4]
        have co:Z (k.toList.take (len*a.size))=len*a.size:=by simp;omega
        refine⟨k.toList.take (len*a.size),?_,co,by grind[RL.take],λf n=>bv f (by rw[<-hl]at n;exact qL n)⟩;simp only[Kf];have Y:=FN (e:=L.w) X 0 (k.toList.take (len*a.size)) (by rw[co];simp);exact run_firstCells_some L.w.drew a.size len _ len cap _ co (by simp_all)
      obtain⟨u,ha,e2,gM,it⟩:=he;have x:=run_append_grow_src (P:=P) L.w t cK lj d a V ad N d2 i len cap u ha A (Z b) e y (by omega) (by omega) (growslice_fits (by omega) I);have ar:=grownCap_ge L.w (len+Z b) cap d;generalize M:(u++e).toArray++Builtin.zeroCells V.cells (grownCap L.w (len+Z b) cap d -(len+Z b))=cells at x;have S:cells.size=grownCap L.w (len+Z b) cap d*a.size:=by
       rw[<-M];simp only[Ts,Tt,fb,CG,d1,F,e2,<-rN];congr 1;omega
      have ac:cells.toList.take ((len+Z b)*a.size)=u++e:=by
       rw[<-M,Kh,Fv,rN,<-F,<-e2,<-fb];exact Ki
      refine a4 _ (T (L.w.heap.size,cells.size)) _ x ((c7.drew _ _).trans (c7.alloc _ _ _)) (λae aQ ak=>?_) (λr=>?_) ⟨_,_,rfl,ar,.inr ⟨_,_,rfl,rfl,by rw[S];exact di _⟩⟩
      ·simp at*;omega
      ·refine⟨fs,.inr ⟨L.w.heap.size,cells,d,by simp[l.b6],heap_alloc_new L.w.drew _,?_,?_,?_⟩⟩
       ·grind
       ·rw[bi,ac,el];exact RL.append (RL.mono r o.b1 gM) (RL.mono r o.b1 d7)
       ·intro f n
        rw[bi,ac]at n;rcases c5.1 n with n|n
        ·grind
        ·exact y.one f n
end
section
variable{P:Program}{G:Nat->Option (List AV)}{A:bQ}
theorem F5(a:Array Value)(b:Nat)(c:a.size=b):∀n:Nat,(madeCells a (n*b)).toList=(List.replicate n a.toList).flatten
 |0=>by simp[madeCells]
 |n+1=>by
  have d:=F5 a b c n;unfold madeCells at d⊢;rw[akJ,zQ,<-d,qK];simp only[Array.toList_map,Array.toList_range,List.flatten_singleton];rw[List.range_add,ht,wG]
  congr 1
  apply sH
  ·simp[c]
  simp_all[wH,Fw,Function.comp,Nat.mul_comm,Nat.mod_eq_of_lt]
theorem KV(t:St L K s.tmps)(q:dC G L)(a:Nat):∀(parts:List (Nat×Operand))(b:List (List AV))(cells:Array Value)(g:List (List AV)),(∀n∈b,Z n=a)->RL L b.flatten cells.toList->(∀o∈cells.toList,o.oneCell'=ab)->
 kj a b (parts.map λe=>(e.1,ay G K e.2))=T g->∃j,Instr.fill (λc=>T (c*a,a)) cells (parts.map λe=>(e.1,s.eval e.2))=T j/\g.length=Z b/\(∀n∈g,Z n=a)/\RL L g.flatten j.toList/\∀o∈j.toList,o.oneCell'=ab
 |[],b,cells,g,i,k,p,f=>by
  simp[kj]at f;subst f;exact⟨cells,rfl,rfl,i,k,p⟩
 |(c,d)::parts,b,cells,g,i,k,p,f=>by
  simp only[eJ,kj]at f;split at f
  case isFalse=>simp at f
  case isTrue m=>
  obtain⟨z,y,v⟩:=m;obtain⟨r,C⟩:=(R.pl (dU t q d)).cells v;have B:(s.eval d).cells.size=a:=by rw[<-z,<-r.length];simp
  have M:cells.size=Z b*a:=by rw[<-CA i,<-k.length];simp
  have N:c*a+a<=Z b*a:=by
   have:=k9 a (show c+1<=Z b from y);rw[qK]at this;exact this
  have w:=F2 (c*a) (s.eval d).cells.toList 0 cells (by simp[B];omega);obtain⟨h,m⟩:∃h,b[c]?=T h:=by simp_all
  have x:(b.set c (ay G K d).pl.cells).flatten=eV b.flatten (c*a) (ay G K d).pl.cells:=by
   have:=FP (off:=0) (new:=(ay G K d).pl.cells) i m (by omega);have A:eV h 0 (ay G K d).pl.cells=(ay G K d).pl.cells:=by
    have:Z h=a:=i h (sG m);unfold eV;rw[Tp,sF (by omega)];simp
   rw[A,fo]at this;exact this
  obtain⟨j,E,F,H,I,J⟩:=KV t q a parts (b.set c (ay G K d).pl.cells) ((s.eval d).cells.zipIdx.foldl (λu(e:Value×Nat)=>u.setIfInBounds (c*a+e.2) e.1) cells) g (by
   grind) (by
   rw[<-Array.foldl_toList,Array.toList_zipIdx,w,x];simpa using RL.eV k r (c*a)) (by
   grind[Array.toList_zipIdx]) f
  grind[Instr.fill]
theorem F6(c:St L K s.tmps)(d:Nat)(a:List (List AV))(cells:Array Value)(i:TypeId)(j:Nat×Nat)(cap:Nat)(q:Z a<=cap)(t:∀x∈a,Z x=d)(z:Z a*d<=cells.size)
 (o:RL L a.flatten (cells.toList.take (Z a*d)))(y:∀v∈cells.toList.take (Z a*d),v.oneCell'=ab)(b:World)(m:c7 L.w b (λ_=>False))(k:b.heap[L.w.heap.size]?=T (.cells cells i j)):
 ∃e,e.w=b/\RT e (.sl aa a) (.slice (T ⟨L.w.heap.size,0,D⟩) (Z a) cap)/\St e K s.tmps/\Fr L e:=by
 have A:L.w.heap.size<b.heap.size:=(oI.1 k).1;obtain⟨f,n⟩:=l.FU c.b1 m;have p:(L.c4 b).S aa L.w.heap.size:=.inr (by omega);refine⟨L.c4 b,rfl,.inl (.sl aa a _ 0 d cap cells i j p k t q (by omega) (by simpa using RL.mono f c.b1 o) (by grind)),?_,f⟩;have:=St.mono c f n (λ_ _ g=>g) (λu h r=>m.block h (c.b1.blt u h r).1 (λg=>g));simpa[l.c4,<-c.hp]using this
theorem Uj{n:Array (Nat×Operand)}{own:Bool}{F:AV}(o:St L K s.tmps)(I:dC G L)(V:B.op=.buildSlice t U n)(h:rS P own K t U (n.toList.map λg=>(g.1,ay G K g.2))=T (F,j)):cj P B s L F j:=by
 unfold rS at h;split at h
 case h_2=>simp at h
 case h_1 k Y=>
 split at h
 case isFalse=>simp at h
 case isTrue r=>
 split at h
 case h_2=>simp at h
 case h_1 aq ad=>
 split at h
 case isFalse=>simp at h
 case isTrue E=>
 split at h
 case h_2=>simp at h
 case h_1 b u=>
 obtain⟨a,p,x,a3,C,ae⟩:=yu (L:=L) ad;rw[jf x]at r E u h;obtain⟨aQ,aB⟩:=r;have af:p.cells.size=a.size:=by rw[<-E,<-C.length];simp
 have z:=F5 p.cells a.size af U;obtain⟨c,v,y,m,J,ar⟩:=KV o I a.size n.toList (List.replicate U aq) (madeCells p.cells (U*a.size)) b (by grind) (by rw[z];exact RL.replicate C U) (by
  rw[z];intro ak ac;obtain⟨a4,R,A⟩:=zR.1 ac;rw[List.eq_of_mem_replicate R]at A;exact ae ak A) u
 simp only[List.length_replicate]at y;have M:c.size=Z b*a.size:=by rw[<-CA m,<-J.length];simp
 have a0:c.toList.take (Z b*a.size)=c.toList:=fW (by simp[M]);have q:(execOp s.eval B).run P L.w=.ok (.value (.slice (T ⟨L.w.heap.size,0,D⟩) U U)) (L.w.alloc (.cells c k)):=by
  by_cases H:U*a.size=0
  ·have S:U=0:=by rcases Nat.mul_eq_zero.1 H with h|h<;>omega
   subst S;have Q:Instr.fill (λah=>T (ah*a.size,a.size)) #[] (n.toList.map λg=>(g.1,s.eval g.2))=T c:=by
    have:madeCells p.cells (0*a.size)=#[]:=by simp[madeCells]
    rw[this]at v;exact v
   have X:(Array.range 0).map (λ_:Nat=>(default:Value))=#[]:=by simp
   simp[execOp,V,Instr.buildSlice,run_underlying Y,sizeOf,typeInfo,x,newRow,X,Q]
  ·simp_all[run_buildSlice,madeCells,execOp]
 split at h
 ·rename_i N
  have O:b=[]:=by simpa using N
  simp at h;obtain⟨rfl,rfl⟩:=h;obtain⟨d,f,W,i,e⟩:=F6 o a.size b c k (0,0) (Z b) (di _) m (by omega) (by grind) (by grind) _ (by grind[c7.alloc]) (heap_alloc_new _ _);refine⟨_,_,d,by rw[f];exact q,.inl rfl,.inl ?_,i,e⟩;rw[<-y,O];exact .dI _
 split at h
 ·simp at h
  obtain⟨rfl,rfl⟩:=h;obtain⟨d,f,ax,au,i,e⟩:=yv o a.size b c k m (by omega) (by grind) (by grind) _ (by grind[c7.alloc]) (heap_alloc_new _ _);refine⟨_,_,d,by rw[f];exact q,.inl rfl,.inl ?_,i,e⟩;grind[CE]
 ·simp at h
  obtain⟨rfl,rfl⟩:=h;obtain⟨d,f,W,i,e⟩:=F6 o a.size b c k (0,0) (Z b) (di _) m (by omega) (by grind) (by grind) _ (by grind[c7.alloc]) (heap_alloc_new _ _);refine⟨_,_,d,by rw[f];exact q,.inl rfl,?_,i,e⟩;grind
theorem Uk{n:AV}(h:St L K s.tmps)(k:dC G L)(E:B.op=.makeSlice t c dm)(d:wQ P K t (ay G K c) (ay G K dm)=T (n,j)):cj P B s L n j:=by
 unfold wQ at d;split at d
 case h_2=>simp at d
 case h_1 i V a U ak I z y=>
 split at d
 case h_2=>simp at d
 case h_1 g N=>
 split at d
 case isFalse=>simp at d
 case isTrue u=>
 obtain⟨m,F,rfl,q,r,Y⟩:=u;simp at d;obtain⟨rfl,rfl⟩:=d;obtain⟨b,e,f,S,O,ah⟩:=yu (L:=L) N;rw[jf f]at m F;rw[KG f]at r;have Q:e.cells.size=b.size:=by rw[<-m,<-O.length];simp
 have C:=F5 e.cells b.size Q a.toNat;have A:=R.pZ (z▸dU h k c);have v:=R.pZ (y▸dU h k dm);have H:=run_make (P:=P) L.w t i b e I f S V U a a q (Int.le_refl _) (by rw[Int.mul_comm];omega) (by omega);have ad:Z (List.replicate a.toNat g)=a.toNat:=by simp
 have J:∀X∈List.replicate a.toNat g,Z X=b.size:=by grind
 have x:(madeCells e.cells (a.toNat*b.size)).size=a.toNat*b.size:=size_madeCells _ _;have af:(madeCells e.cells (a.toNat*b.size)).toList.take (Z (List.replicate a.toNat g)*b.size)=(List.replicate a.toNat e.cells.toList).flatten:=by
  rw[fW (by simp[x]),C]
 obtain⟨o,M,ae,ac,W,p⟩:=yv h b.size (List.replicate a.toNat g) (madeCells e.cells (a.toNat*b.size)) i J (by grind) (by grind[RL.replicate]) (by
  simp_all) _ (by grind[c7.alloc,madeCells]) (heap_alloc_new _ _)
 rw[jf f];refine⟨_,.slice (T ⟨L.w.heap.size,0,D⟩) a.toNat a.toNat,o,?_,.inl rfl,.inl ?_,W,p⟩
 ·rw[M]
  simp[execOp,E,A,v,H]
 grind[CE]
theorem Ul{i:AV}(b:St L K s.tmps)(o:dC G L)(r:B.op=.range t c)(v:P.underlying t=T .string)(a:qQ K (tM (ay G K c) K.hp)=T (i,j)):cj P B s L i j:=by
 have h:=dU b o c;unfold tM qQ at a;split at a
 case h_2=>simp at a
 case h_1 k x=>
 rw[x]at h;simp only[iA,eK,eC]at a;obtain⟨rfl,rfl⟩:=a;obtain⟨d,y,rfl⟩:=R.vx h;have q:L.w.heap.size<(L.w.alloc (.stringIter d 0)).heap.size:=by simp
 obtain⟨f,n⟩:=l.CC b.b1 (iX:=.hM d.data.toList 0) (j:=T (L.w.heap.size,0)) (c7.alloc L.w (.stringIter d 0) _)
  (λk F e=>by injection e with e;injection e with m _;subst m;exact⟨q,di _⟩)
  (λf=>⟨_,d,by simp[l.new],heap_alloc_new _ _,rfl⟩)
 refine⟨_,.pointer (T ⟨L.w.heap.size,0,D⟩),_,?_,.inl rfl,.inl (.pQ _ _ ?_ rfl λE pos C=>⟨L.w.heap.size,0,?_,rfl⟩),?_,f⟩
 ·have u:=run_range_string (P:=P) L.w t d v
  simp[execOp,r,y,u,l.new,World.iter]
 ·rw[b.hp];simp[l.new]
 ·rw[b.hp];simp[l.new]
 ·have:=St.mono b f n (λ_ _ a=>a) (λz g p=>(c7.alloc L.w (.stringIter d 0) (λ_=>False)).block g (b.b1.blt z g p).1 (λa=>a))
  simpa[l.new,b.hp]using this
theorem Um{pos:Nat}{a:ByteArray}(d:TypeId)(c:e.heap[U]?=T (.stringIter a pos)):
 (Instr.next (.pointer (T ⟨U,0,D⟩)) ab d).run P e=if pos<a.size then .ok (.tuple #[.bool ab,.int .i64 pos,.int .i32 (Utf8.decode a pos).1]) {e with heap:=e.heap.setIfInBounds U (.stringIter a (pos+(Utf8.decode a pos).2))}else .ok (.tuple #[.bool aa]) e:=by
 by_cases b:pos<a.size
 ·simp only[Instr.next,getObj,setObj,Sem.run_bind,Sem.run,c,Result.andThen,b,if_true]
  simp[goInt]
 ·simp[Instr.next,getObj,Sem.run,c,b]
theorem Un{y:AV}(d:St L K s.tmps)(F:dC G L)(V:B.op=.next c ab)(a:qQ K (rU (ay G K c) K.hp)=T (y,j)):cj P B s L y j:=by
 have f:=dU d F c;unfold rU qQ at a;split at a
 case h_2=>simp at a
 case h_1 id M=>
 rw[M]at f;split at a
 case h_2=>simp at a
 case h_1 m pos k=>
 rw[d.hp]at k;replace f:=f.resolve_right (by grind);generalize W:s.eval c=ad at f;cases f with
 |pQ _ _ S O J=>
 obtain⟨g,z,p,rfl⟩:=J m pos k;obtain⟨N,b,q,H,rfl⟩:=d.b1.iw id _ k;rw[p]at q;injection q with n;injection n with A C;subst A;subst C;have t:=Um (P:=P) (e:=L.w) B.type H;have u:Z b.data.toList=b.size:=by simp
 have I:oP b.data.toList pos=Utf8.decode b pos:=by simp[oP]
 split at a
 ·rename_i e
  rw[u]at e;simp only[iA,eK,eC]at a;obtain⟨rfl,rfl⟩:=a;rw[if_pos e]at t;rw[I];have v:c7 L.w {L.w with heap:=L.w.heap.setIfInBounds g (.stringIter b (pos+(Utf8.decode b pos).2))} (λm=>∃z,L.h id=T (m,z)):=
   ⟨rfl,rfl,⟨rfl,di _⟩,by simp,λi _ U=>by
    grind⟩
  have R:=(d.b1.dX _ _ _ p).1;obtain⟨o,E⟩:=l.vw d.b1 v k (k:=.hM b.data.toList (pos+(Utf8.decode b pos).2)) (f:=L.h id) rfl (by grind)
   (λo=>⟨g,b,by simp[l.b6,p],by
    show(L.w.heap.setIfInBounds g _)[g]?=_;grind,rfl⟩)
  refine⟨.value (.tuple #[.bool ab,.int .i64 pos,.int .i32 (Utf8.decode b pos).1]),_,_,?_,.inl rfl,.inl (.aE _ _ (.cons _ _ _ _ (.bool _) (.cons _ _ _ _ (.int _ _) (.cons _ _ _ _ (.int _ _) .nil)))),?_,o⟩
  ·simp_all[execOp,l.b6]
  ·have:=St.mono d o E (λ_ _ a=>a) (λx i r=>v.block i (d.b1.blt x i r).1 λ⟨ae,n⟩=>(d.b1.blt x i r).2.2 _ _ n)
   simpa[l.b6,d.hp]using this
 ·rename_i e
  rw[u]at e;simp only[iA,eK,eC]at a;obtain⟨rfl,rfl⟩:=a;rw[if_neg e]at t;exact cj.still d (bL:=.tuple #[.bool aa]) (by simp_all[execOp]) (.inl (.aE _ _ (.cons _ _ _ _ (.bool _) .nil)))
theorem Uo(a:St L K s.tmps)(j:B.op=.makeMap t D):cj P B s L (.b5 (Z K.hp)) {K with hp:=K.hp++[.mp ab [] []]}:=by
 have i:L.w.heap.size<(L.w.alloc (.map #[] 0)).heap.size:=by simp
 obtain⟨c,g⟩:=l.CC a.b1 (iX:=.mp ab [] []) (j:=T (L.w.heap.size,0)) (c7.alloc L.w (.map #[] 0) _)
  (λm r b=>by injection b with b;injection b with f _;subst f;exact⟨i,di _⟩)
  (λc=>⟨_,#[],0,by simp[l.new],heap_alloc_new _ _,.nil,.nil,λ_=>⟨rfl,rfl⟩⟩)
 refine⟨_,.map (T L.w.heap.size),_,?_,.inl rfl,.inl (.b5 _ _ ?_ rfl λn q vs p=>⟨L.w.heap.size,0,?_,rfl⟩),?_,c⟩
 ·simp[execOp,j,Instr.makeMap,l.new]
 ·rw[a.hp];simp[l.new]
 ·rw[a.hp];simp[l.new]
 ·have:=St.mono a c g (λ_ _ d=>d) (λk e h=>(c7.alloc L.w (.map #[] 0) (λ_=>False)).block e (a.b1.blt k e h).1 (λd=>d))
  simpa[l.new,a.hp]using this
theorem Up(c:St L K s.tmps)(f:B.op=.assign (.const (.slice D 0 0))):cj P B s L (.q (Z K.hp) 0 0 0) {K with hp:=K.hp++[.arr 0 U []]}:=by
 obtain⟨a,g,e,d,b⟩:=F0 c U L.w (c7.refl _ _);refine⟨_,.slice D 0 0,a,?_,.inl rfl,.inl (by grind[F1]),d,b⟩;simp_all[execOp,Act.eval]
end
section
variable{P:Program}{G:Nat->Option (List AV)}{A:bQ}
theorem CH:∀{ks:List Nat}{e f:List AV},ft ks e f=T ab->e=f
 |ks,e,f,a=>by
  unfold ft at a;split at a
  ·rfl
  ·split at a
   ·rename_i h
    subst h;simp only[dg,bG,beq_iff_eq]at a;obtain⟨g,d,b,c⟩:=a;subst c;rw[b,CH d]
   ·simp at a
  ·simp only[dg,bG,beq_iff_eq]at a
   obtain⟨g,d,b,c⟩:=a;subst c;rw[b,CH d]
  ·simp only[dg,bG,beq_iff_eq]at a
   obtain⟨g,d,b,c⟩:=a;subst c;rw[b,CH d]
  ·simp at a
 termination_by ks=>Z ks
 decreasing_by all_goals grind
theorem Uq{a b:AV}(c:qP P t bu a b=T ab):a=b:=by
 unfold qP at c;grind[CH]
theorem Ur(b:n0 P t=T bu){c d:AV}{r:Value}(m:R L c bL)(n:R L d r)(a:qP P t bu c d=T V):
 (Op.equal t bL r).run P e=.ok V e/\∀g,P.underlying t=T g->∀i,Instr.sameNow g bL r=T i->i=V:=by
 have v:m9 P 100 t=T bu:=by
  unfold n0 at b;split at b
  ·exact b
  ·exact b
  ·split at b
   ·split at b
    ·exact b
    ·simp at b
   ·simp at b
  ·simp at b
 have key:=FY (L:=L) (e:=e) (P:=P) 100 10000 t bu (by omega) v;unfold qP at a;split at a
 ·rename_i k c C d
  split at a
  case isFalse=>simp at a
  case isTrue f=>
  obtain⟨rfl,rfl,o,h⟩:=f;simp at a;subst a;cases m;cases n
  have:=key [.int k c] [.int k d] [.int k c] [.int k d] (c==d) (RL.one (.int _ _)) (RL.one (.int _ _)) (by simp[h]) (by simp[h]) (by simp[ft]);simp only[valOf,o,cZ,if_false,akK]at this;refine⟨this,λg _ i j=>?_⟩;unfold Instr.sameNow at j;grind
 ·rename_i c d
  split at a
  case isFalse=>simp at a
  case isTrue f=>
  obtain⟨rfl,o,h⟩:=f;simp at a;subst a;cases m with
  |str p=>
   cases n with
   |str q=>
    have:=key [.str p.data.toList] [.str q.data.toList] [.string p] [.string q] (p.data.toList==q.data.toList) (RL.one (.str _)) (RL.one (.str _)) (by simp[h]) (by simp[h]) (by simp[ft]);simp only[valOf,o,cZ,if_false,akK]at this;refine⟨this,λg _ i j=>?_⟩;unfold Instr.sameNow at j;grind[beq_toListBytes,bytes_beq]
 ·rename_i s u
  split at a
  case isFalse=>simp at a
  case isTrue f=>
  cases m with
  |agg _ y w A=>
   cases n with
   |agg _ z x B=>
    have:=key s u y.toList z.toList V w x f.2.1 f.2.2 a;simp only[valOf,f.1,if_true,akI]at this;refine⟨this,λg _ i j=>?_⟩;grind[Instr.sameNow]
 ·simp at a
theorem yw{e:AV}:∀{d:List AV}{b c:Nat},findKey P t bu e d b=T (T c)->b<=c/\c -b<Z d/\d[c -b]?=T e
 |[],_,_,a=>by simp[findKey]at a
 |x::i,b,c,a=>by
  simp only[findKey]at a;split at a
  ·grind[Uq]
  ·obtain⟨f,g,h⟩:=yw a
   grind
  ·simp at a
theorem KW{g:World}(q:P.underlying t=T iY)(n:n0 P t=T bu){k:AV}(o:R L k bL):∀(c:List MapEntry)(h:List AV)(b:Nat)(d:Option Nat),RL L h (c.map (·.key))->findKey P t bu k h b=T d->
 (Instr.findAsking t bL c b).run P g=.ok (d.bind λa=>(c[a -b]?).map λe=>(a,e.val)) g/\∀i,Instr.findNow iY bL c b=T i->i=d.bind λa=>(c[a -b]?).map λe=>(a,e.val)
 |[],h,b,d,m,f=>by
  simp[Instr.findAsking,Instr.findNow]
 |e::c,h,b,d,m,f=>by
  cases m with
  |cons x _ y _ v w=>
   simp only[findKey]at f;cases j:qP P t bu k x with
   |none=>grind
   |some p=>
    obtain⟨u,E⟩:=Ur (e:=g) n o v j;cases p
    ·simp[j]at f
     obtain⟨z,A⟩:=KW (g:=g) q n o c y (b+1) d w f;have s:(d.bind λa=>((e::c)[a -b]?).map λe=>(a,e.val))=d.bind λa=>(c[a -(b+1)]?).map λe=>(a,e.val):=by
      cases d with
      |none=>rfl
      |some a=>
       obtain⟨B,C,_⟩:=yw f;grind
     rw[s];refine⟨by simp_all[Instr.findAsking],λi r=>?_⟩;grind[Instr.findNow,Instr.sameNow]
    ·simp[j]at f
     subst f;refine⟨by simp[Instr.findAsking,u],λi r=>?_⟩;grind[Instr.findNow,Instr.sameNow]
theorem wX(f:P.underlying t=T iY)(n:n0 P t=T bu){h:AV}(o:R L h bL)(a:List MapEntry)(b:List AV)(c:Option Nat)(m:RL L b (a.map (·.key)))(j:findKey P t bu h b 0=T c):
 (Instr.findKey t bL a).run P e=.ok (c.bind λg=>(a[g]?).map λi=>(g,i.val)) e:=by
 obtain⟨d,k⟩:=KW (g:=e) f n o a b 0 c m j;simp only[Nat.sub_zero]at d k;unfold Instr.findKey;simp only[Sem.run_bind,run_underlying f,Result.andThen_ok];cases p:Instr.findNow iY bL a 0 with
 |none=>exact d
 |some q=>simp_all
theorem CI(b:P.underlying t=T iY)(a:n0 P t=T bu){q:AV}(k:R L q bL)(o:mo P t bu q=ab)(empty:Bool):(Instr.checkKey empty 10000 t bL).run P e=.ok () e:=by
 unfold mo at o;obtain⟨H,c⟩:=rM.1 o;unfold n0 at a;rw[b]at a;have i:=Ad b;unfold qP at c;split at c
 ·cases k
  cases iY<;>simp[ym]at i a
  all_goals first
   |(unfold Instr.checkKey;simp[run_underlying b];done)
   |grind
 ·cases k
  cases iY<;>simp[ym]at i a
  all_goals first
   |(unfold Instr.checkKey;simp[run_underlying b];done)
   |grind
 ·split at c
  case isFalse=>simp at c
  case isTrue h=>
  rw[i]at h;cases iY with
  |array g m=>
   simp only at a;cases f:P.underlying m with
   |none=>grind
   |some u=>
    cases u with
    |int G=>
     simp only[f]at a;split at a
     case isFalse=>simp at a
     case isTrue j=>
     cases k with
     |agg _ vs v z=>
      obtain⟨y,p⟩:=info_of_underlying f;rw[jf p]at j;have E:vs.size=bc P t:=by rw[<-h.2.1,<-v.length];simp
      unfold Instr.checkKey;simp only[Sem.run_bind,run_underlying b,Result.andThen_ok];simp only[akH,Std.Legacy.Range.size];have x:List.range' 0 ((g -0+1 -1)/1) 1=List.range g:=by simp[Tn]
      rw[x];have n:∀d∈List.range g,d<vs.size:=λd w=>by have:=la.1 w;omega
      generalize List.range g=r at n;induction r with
      |nil=>simp
      |cons d r F=>
       have B:=n d (by simp);have C:=CD (P:=P) (e:=e) p f vs (d*y.size) (by rw[j.1];omega) (λ_=>j.1);have A:∀s:Value,(Instr.checkKey empty 9999 m s).run P e=.ok () e:=by
        intro s;unfold Instr.checkKey;simp[run_underlying f]
       simp_all[sizeOf,typeInfo]
    |_=>grind
  |_=>simp[ym]at h a
 ·simp at c
end
variable{F:Bool}{o:List z}{dD:z}{cn:Type}{ee:Call}
section
variable{P:Program}{G:Nat->Option (List AV)}{A:bQ}
theorem Af:∀{ks:List Nat}{h:List AV}{g vs:List Value},ft ks h h≠D->RL L h g->RL fM h vs->g=vs/\∀x,(g.zip vs).all (λf=>Instr.sameBits x f.1 f.2)=ab
 |ks,[],g,vs,_,e,d=>by cases e;cases d;simp
 |ks,y::h,g,vs,b,e,d=>by
  cases e with
  |cons _ B _ g e m=>
  cases d with
  |cons _ C _ vs d n=>
  unfold ft at b;split at b
  ·grind
  ·rename_i s u o z v p a c
   injection a with a i;injection c with c j;subst a;subst i;split at b
   ·obtain⟨q,r⟩:=Af (by intro k;rw[<-j,k]at b;simp at b) m n
    cases e;cases d
    simp_all[Instr.sameBits]
   ·simp at b
  ·rename_i s u o v p a c
   injection a with a i;injection c with c j;subst a;subst i;obtain⟨q,r⟩:=Af (by intro k;rw[<-j,k]at b;simp at b) m n;cases e with
   |str f=>
    generalize w:f.data.toList=A at d;cases d with
    |str t=>
     have:f=t:=by
      have:=congrArg List.toArray w;simp at this;cases f;cases t;simp_all
     simp_all[List.zip_cons_cons,Instr.sameBits,Go.MapKept.bytes_beq]
  ·rename_i s u o v p a c
   injection a with a i;injection c with c j;subst a;subst i;obtain⟨q,r⟩:=Af (by intro k;rw[<-j,k]at b;simp at b) m n;cases e;cases d
   simp_all[Instr.sameBits]
  ·simp at b
theorem KX{f:AV}{b:Value}(c:R L f bL)(d:R fM f b)(h:mo P t bu f=ab):(Instr.keyThatStays bL b).run P e=.ok b e:=by
 unfold mo at h;obtain⟨o,a⟩:=rM.1 h;have:bL=b/\Instr.sameBits 10000 bL b=true:=by
  unfold qP at a;split at a
  ·cases c;cases d
   exact⟨rfl,by simp[Instr.sameBits]⟩
  ·obtain⟨g,i⟩:=Af (ks:=[1]) (by simp[ft]) (RL.one c) (RL.one d)
   simp_all
  ·split at a
   ·cases c with
    |agg _ p j g=>
    cases d with
    |agg _ vs k m=>
    obtain⟨g,i⟩:=Af (by rw[a];simp) j k;simp_all[Instr.sameBits]
   grind
  ·simp at a
 simp[Instr.keyThatStays,this.2]
theorem Us(g:St L K s.tmps){h:AV}(a:RT L h bL){f vs:List AV}(b:wR K h=T (f,vs)):
 ∃d c clock,bL=.map (T d)/\L.w.heap[d]?=T (.map c clock)/\RL L f (c.toList.map (·.key))/\RL L vs (c.toList.map (·.val)):=by
 unfold wR at b;split at b
 ·rename_i m n
  simp at b;obtain⟨rfl,rfl⟩:=b;replace a:=a.resolve_right (by grind);cases a with
  |iu _ _ d clock c r i j k=>grind
 ·rename_i id
  split at b
  ·rename_i p m n e
   simp at b;obtain⟨rfl,rfl⟩:=b;rw[g.hp]at e;replace a:=a.resolve_right (by grind);cases a with
   |b5 _ _ v q a=>
    obtain⟨d,x,t,rfl⟩:=a _ _ _ e;obtain⟨o,c,clock,u,i,j,k,_⟩:=g.b1.iw id _ e;grind
  grind
 grind
theorem R.CJ{a:AV}(b:RT L a bL)(c:a.pl=a):R L a bL:=by
 grind[R.pl]
theorem CL{a:AV}(b:mo P t bu a=ab):a.pl=a:=by
 unfold mo at b;cases a<;>first|rfl|simp[qP]at b
theorem KY{e:AV}(b:tI P t=T e):∃a,(zeroValue t).run P L.w=.ok a L.w/\R L e a:=by
 unfold tI at b;cases c:P.info? t with
 |none=>grind
 |some f=>
  cases d:f.zero with
  |none=>grind
  |some a=>
   simp[c,d]at b;refine⟨a,by simp[zeroValue,typeInfo,c,d],?_⟩;have:=KI (L:=L) (bL:=a);rwa[b]at this
theorem Ut{ok:Bool}{i:AV}(f:St L K s.tmps)(r:dC G L)(Q:B.op=.lookup t c dm ok)(a:vn P K t (ay G K c) (ay G K dm) ok=T i):cj P B s L i K:=by
 unfold vn at a;split at a
 case h_2=>simp at a
 case h_1 C H A vs U O=>
 split at a
 case h_2=>simp at a
 case h_1 Y x=>
 split at a
 case isFalse=>simp at a
 case isTrue v=>
 obtain⟨ac,m,clock,X,I,N,V⟩:=Us f (dU f r c) O;have z:=R.CJ (dU f r dm) (CL v);obtain⟨q,u⟩:∃q,P.underlying C=T q:=by
  grind[n0]
 have J:=CI (e:=L.w) u x z v m.isEmpty;have E:∀h,findKey P C Y (ay G K dm) A 0=T h->∀b,(match h.bind λp=>(m.toList[p]?).map λk=>(p,k.val)with|some (_,i)=>b=(i,ab)|none=>∃j,(zeroValue H).run P L.w=.ok j L.w/\b=(j,aa))->(execOp s.eval B).run P L.w=.ok (.value (if ok then .tuple #[b.1,.bool b.2]else b.1)) L.w:=by
  intro h e b n;have M:=wX (e:=L.w) u x z m.toList A h N e;simp only[execOp,Q,Instr.lookup,Sem.run_bind,run_underlying U,Result.andThen_ok,X,Go.MapKept.run_getObj_map I,Sem.run_pure,J,M];split at n
  ·rename_i p F d
   simp only[d];subst n;simp
  ·rename_i d
   obtain⟨j,o,rfl⟩:=n;simp only[d];simp[o]
 split at a
 ·rename_i af g
  obtain⟨_,ae,ad⟩:=yw g;split at a
  case h_2=>simp at a
  case h_1 ak W=>
  simp at a;subst a;obtain⟨ah,y,e⟩:=V.get W;simp only[zS,dg]at y;obtain⟨k,d,rfl⟩:=y;refine cj.still f (E _ g (k.val,ab) (by simp only[zT,d,iA])) (.inl ?_);cases ok
  ·grind
  ·exact .aE _ _ (.cons _ _ _ _ e (.cons _ _ _ _ (.bool ab) .nil))
 ·rename_i g
  split at a
  case h_2=>simp at a
  case h_1 j o=>
  simp at a;subst a;obtain⟨F,S,e⟩:=KY (L:=L) o;refine cj.still f (E _ g (F,aa) (by simp[S])) (.inl ?_);cases ok
  ·grind
  ·exact .aE _ _ (.cons _ _ _ _ e (.cons _ _ _ _ (.bool aa) .nil))
 ·simp at a
theorem Ah(a:St L K s.tmps){id:Nat}{y vs e i:List AV}(k:K.hp[id]?=T (.mp V y vs)){p b:Array MapEntry}{clock:Nat}(u:L.h id=T (U,0))(j:L.w.heap[U]?=T (.map p clock))
 (g:RL L e (b.toList.map (·.key)))(x:RL L i (b.toList.map (·.val)))(t:F=ab->O=Z e/\b.toList.map (·.born)=List.range (Z e)):
 ∃f,f.w={L.w with heap:=L.w.heap.setIfInBounds U (.map b O)}/\f.h=L.h/\St f {K with hp:=K.hp.set id (.mp F e i)} s.tmps/\Fr L f:=by
 rw[a.hp]at k;obtain⟨v,B⟩:=Go.MapKept.heap_set (o':=.map b O) j;have m:c7 L.w {L.w with heap:=L.w.heap.setIfInBounds U (.map b O)} (λc=>∃A,L.h id=T (c,A)):=
  ⟨rfl,rfl,⟨rfl,di _⟩,by simp,by grind⟩
 obtain⟨d,q⟩:=l.vw a.b1 (id:=id) (k:=.mp F e i) (f:=L.h id) m k (by simp[iK])
  (by grind)
  (λd=>⟨U,b,O,by simp[l.b6,u],v,RL.mono d a.b1 g,RL.mono d a.b1 x,t⟩)
 refine⟨_,rfl,?_,?_,d⟩
 ·grind[l.b6]
 ·have:=St.mono a d q (λ_ _ r=>r) (λn c g=>m.block c (a.b1.blt n c g).1 λ⟨C,o⟩=>(a.b1.blt n c g).2.2 _ _ o)
  simpa[l.b6,a.hp]using this
theorem RL.set{d:AV}(c:R L d bL):∀{b:List AV}{vs:List Value}(a:Nat),RL L b vs->RL L (b.set a d) (vs.set a bL)
 |_,_,_,.nil=>.nil
 |_,_,0,.cons _ _ _ _ _ t=>.cons _ _ _ _ c t
 |_,_,a+1,.cons _ _ _ _ e t=>.cons _ _ _ _ e (RL.set c a t)
theorem RL.eraseIdx:∀{c:List AV}{vs:List Value}(a:Nat),RL L c vs->RL L (c.eraseIdx a) (vs.eraseIdx a)
 |_,_,_,.nil=>.nil
 |_,_,0,.cons _ _ _ _ _ b=>b
 |_,_,a+1,.cons _ _ _ _ d b=>.cons _ _ _ _ d (RL.eraseIdx a b)
theorem Ai(f:St L K s.tmps){id:Nat}{c vs:List AV}(d:K.hp[id]?=T (.mp V c vs))(e:RT L (.b5 id) bL):
 ∃b a clock,bL=.map (T b)/\L.h id=T (b,0)/\L.w.heap[b]?=T (.map a clock)/\RL L c (a.toList.map (·.key))/\RL L vs (a.toList.map (·.val))/\(V=ab->clock=Z c/\a.toList.map (·.born)=List.range (Z c)):=by
 rw[f.hp]at d;replace e:=e.resolve_right (by grind);cases e with
 |b5 _ _ p j g=>
  obtain⟨b,t,n,rfl⟩:=g _ _ _ d;obtain⟨i,a,clock,o,k,q,r,m⟩:=f.b1.iw id _ d;grind
theorem F7(b:n0 P t=T bu):∃a,P.underlying t=T a:=by
 grind[n0]
theorem tS(a:Array MapEntry)(b:Nat)(c:MapEntry->MapEntry)(g:MapEntry->z):(a.modify b c).toList.map g=match a[b]? with|some d=>(a.toList.map g).set b (g (c d))|none=>a.toList.map g:=by
 apply wI;grind
theorem tT(a:o[U]?=T dD):o.set U dD=o:=by
 apply wI;grind
theorem vw{b:Operand}(i:St L K s.tmps)(v:dC G L)(o:B.op=.mapUpdate t c dm b\/B.op=.insert t c dm b)(a:vo P K t (ay G K c) (ay G K dm) (ay G K b)=T j):cj P B s L .undef j:=by
 unfold vo at a;split at a
 case h_2=>simp at a
 case h_1 bb aQ id S af=>
 split at a
 case h_2=>simp at a
 case h_1 H q vs a9 O n=>
 split at a
 case isFalse=>simp at a
 case isTrue y=>
 obtain⟨W,d,clock,U,ac,f,m,a3,a0⟩:=Ai i O (af▸dU i v c);have g:=R.CJ (dU i v dm) (CL y);have a4:=R.pl (dU i v b);obtain⟨aB,x⟩:=F7 n;have I:=CI (e:=L.w) x n g y aa;have ah:execOp s.eval B=(do Instr.mapUpdate t (s.eval c) (s.eval dm) (s.eval b);pure .skip):=by
  rcases o with o|o<;>simp[execOp,o]
 have F:∀(h C:List AV)(e:Array MapEntry)(r:Nat),(Instr.mapUpdate t (s.eval c) (s.eval dm) (s.eval b)).run P L.w=.ok () {L.w with heap:=L.w.heap.setIfInBounds W (.map e r)}->
  RL L h (e.toList.map (·.key))->RL L C (e.toList.map (·.val))->(H=ab->r=Z h/\e.toList.map (·.born)=List.range (Z h))->j={K with hp:=K.hp.set id (.mp H h C)}->cj P B s L .undef j:=by
  intro h C e r A ad ar Y ak;obtain⟨V,au,_,ax,X⟩:=Ah i O ac f ad ar Y;refine⟨.skip,undef,V,?_,.inr ⟨rfl,rfl⟩,.inl (.undef _),ak▸ax,X⟩;rw[ah,au];simp[A]
 split at a
 ·rename_i p k
  obtain⟨_,ae,N⟩:=yw k;simp at a ae N;have z:=wX (e:=L.w) x n g d.toList q _ m k;obtain⟨be,Q,A⟩:=m.get N;simp only[zS,dg]at Q;obtain⟨u,J,rfl⟩:=Q;have M:d[p]?=T u:=by simpa using J
  have aq:=KX (P:=P) (e:=L.w) A g y;refine F q (vs.set p (ay G K b).pl) (d.modify p λu=>{u with key:=s.eval dm,val:=s.eval b}) clock ?_ ?_ ?_ ?_ a.symm
  ·simp only[Instr.mapUpdate,Sem.run_bind,run_underlying S,Result.andThen_ok,U,Go.MapKept.run_getObj_map f,I,z,zT,J,iA,M,oK,aq]
   exact Go.MapKept.run_setObj_map _ f
  ·rw[tS,M]
   simp only;have:=RL.set g p m;grind[tT]
  ·grind[tS,RL.set]
  grind[tS,tT]
 ·rename_i k
  simp at a;have z:=wX (e:=L.w) x n g d.toList q _ m k;refine F (q++[ay G K dm]) (vs++[(ay G K b).pl]) (d.push {key:=s.eval dm,val:=s.eval b,born:=clock}) (clock+1) ?_ ?_ ?_ ?_ a.symm
  ·simp only[Instr.mapUpdate,Sem.run_bind,run_underlying S,Result.andThen_ok,U,Go.MapKept.run_getObj_map f,I,z,akL]
   exact Go.MapKept.run_setObj_map _ f
  ·grind[RL.append,RL.one]
  ·grind[RL.append,RL.one]
  grind[List.range_succ]
 ·simp at a
theorem F8(c:z->cn):∀(b:List z)(a:Nat),(b.eraseIdx a).map c=(b.map c).eraseIdx a
 |[],_=>rfl
 |_::_,0=>rfl
 |_::b,a+1=>by simp[F8 c b a]
theorem Uu(n:St L K s.tmps)(y:dC G L)(ax:B.op=.call ee)(ac:ee.callee=.builtin .delete)(Y:ee.argTypes.toList=[t,cK])(X:ee.args.toList=[c,dm])
 (a:yp P K t (ay G K c) (ay G K dm)=T j):cj P B s L (.aE []) j:=by
 unfold yp at a;split at a
 case h_2=>simp at a
 case h_1 bi bb id M au=>
 split at a
 case h_2=>simp at a
 case h_1 W m vs bf r k=>
 split at a
 case isFalse=>simp at a
 case isTrue F=>
 obtain⟨S,b,clock,N,ah,f,i,a0,ae⟩:=Ai n r (au▸dU n y c);have u:=R.CJ (dU n y dm) (CL F);obtain⟨a9,p⟩:=F7 k;have C:=CI (e:=L.w) p k u F b.isEmpty;have x:∀(o:Bool)(g v:List AV)(e:Array MapEntry),(Builtin.delete_ ee.argTypes B.type (ee.args.map s.eval)).run P L.w=.ok (.tuple #[]) {L.w with heap:=L.w.heap.setIfInBounds S (.map e clock)}->
  RL L g (e.toList.map (·.key))->RL L v (e.toList.map (·.val))->(o=ab->clock=Z g/\e.toList.map (·.born)=List.range (Z g))->j={K with hp:=K.hp.set id (.mp o g v)}->cj P B s L (.aE []) j:=by
  intro o g v e I ak aQ af aB;obtain⟨Q,a3,_,a4,V⟩:=Ah n r ah f ak aQ af;refine⟨.value (.tuple #[]),.tuple #[],Q,?_,.inl rfl,.inl (.aE _ _ .nil),aB▸a4,V⟩;rw[a3];simp[execOp,ax,resolve,ac,invoke,builtin,I]
 have z:ee.argTypes=#[t,cK]:=by rw[<-sI];simpa using Y
 have A:ee.args.map s.eval=#[s.eval c,s.eval dm]:=by rw[<-sI];simp[X]
 split at a
 ·rename_i d h
  obtain⟨_,aq,H⟩:=yw h;simp at a aq H;have q:=wX (e:=L.w) p k u b.toList m _ i h;obtain⟨br,J,I⟩:=i.get H;simp only[zS,dg]at J;obtain⟨U,E,rfl⟩:=J;have ar:d<b.size:=by have:=(e6.1 E).1;simpa using this
  have be:(b.eraseIdxIfInBounds d).toList=b.toList.eraseIdx d:=by simp[Array.eraseIdxIfInBounds,ar]
  refine x aa (m.eraseIdx d) (vs.eraseIdx d) (b.eraseIdxIfInBounds d) ?_ ?_ ?_ (λa=>by cases a) a.symm
  ·rw[z,A]
   have ad:b[d]?=T U:=by simpa using E
   simp[Builtin.delete_,run_underlying M,N,Go.MapKept.run_getObj_map f,C,q,ad,Go.MapKept.run_setObj_map _ f]
  ·grind[F8,RL.eraseIdx]
  grind[F8,RL.eraseIdx]
 ·rename_i h
  simp at a;have q:=wX (e:=L.w) p k u b.toList m _ i h;refine x W m vs b ?_ i a0 ae ?_
  ·rw[z,A]
   simp[Builtin.delete_,run_underlying M,N,Go.MapKept.run_getObj_map f,C,q,Go.MapKept.run_setObj_map _ f]
  ·rw[<-a,tT r]
 ·simp at a
theorem Uv{X:AV}(d:St L K s.tmps)(I:dC G L)(Q:B.op=.mapEntry t c dm)(a:wS P K t (ay G K c) (ay G K dm)=T (X,j)):cj P B s L X j:=by
 unfold wS at a;split at a
 case h_2=>simp at a
 case h_1 br bf id V ah=>
 split at a
 case h_2=>simp at a
 case h_1 q vs bi p o=>
 split at a
 case isFalse=>simp at a
 case isTrue C=>
 obtain⟨bb,f,clock,W,N,g,n,au,af⟩:=Ai d p (ah▸dU d I c);obtain⟨y,x⟩:=af rfl;have k:=R.CJ (dU d I dm) (CL C);obtain⟨be,z⟩:=F7 o;have J:=CI (e:=L.w) z o k C aa;split at a
 ·rename_i b m
  obtain⟨_,O,M⟩:=yw m;simp at O M;have E:=wX (e:=L.w) z o k f.toList q _ n m;obtain⟨bv,S,ak⟩:=n.get M;simp only[zS,dg]at S;obtain⟨e,A,rfl⟩:=S;have i:f[b]?=T e:=by simpa using A
  have ar:=KX (P:=P) (e:=L.w) ak k C;split at a
  case h_2=>simp at a
  case h_1 b4 ax=>
  simp at a;obtain⟨rfl,rfl⟩:=a;have ae:e.born=b:=by
   have v:(f.toList.map (·.born))[b]?=T e.born:=by simp[i]
   rw[x]at v;simp[akM O]at v;exact v.symm
  obtain⟨u,F,_,r,h⟩:=Ah (b:=f.modify b λe=>{e with key:=s.eval dm}) (O:=clock) (F:=true) (e:=q) (i:=vs) d p N g (by
   rw[tS,i];simp only;have:=RL.set k b n;grind[tT]) (by
   grind[tS,tT]) (λ_=>by
   rw[tS,i];simp only;rw[tT (by simp[i]),x];exact⟨y,rfl⟩)
  rw[tT p]at r;obtain⟨bw,U,aq⟩:=au.get ax;simp only[zS,A,iA,eK]at U;subst U;refine⟨.value (.tuple #[e.val,goInt b]),_,u,?_,.inl rfl,.inl (.aE _ _ (.cons _ _ _ _ (aq.mono h d.b1) (.cons _ _ _ _ (.int .i64 b) .nil))),r,h⟩;rw[F]
  simp only[execOp,Q,Instr.mapEntry,Sem.run_bind,run_underlying V,Result.andThen_ok,W,Go.MapKept.run_getObj_map g,J,E,zT,A,iA,i,oK,ar,Go.MapKept.run_setObj_map _ g,Sem.run_pure,ae]
 ·rename_i m
  have E:=wX (e:=L.w) z o k f.toList q _ n m;split at a
  case h_2=>simp at a
  case h_1 a9 aB=>
  simp at a;obtain⟨rfl,rfl⟩:=a;obtain⟨Y,a0,aQ⟩:=KY (L:=L) aB;obtain⟨u,F,_,r,h⟩:=Ah (b:=f.push {key:=s.eval dm,val:=Y,born:=clock}) (O:=clock+1) (F:=true) (e:=q++[ay G K dm]) (i:=vs++[a9]) d p N g
   (by grind[RL.append,RL.one]) (by grind[RL.append,RL.one]) (λ_=>by simp[x,y,wJ])
  refine⟨.value (.tuple #[Y,goInt clock]),_,u,?_,.inl rfl,.inl (.aE _ _ (.cons _ _ _ _ (aQ.mono h d.b1) (.cons _ _ _ _ (by rw[y];exact .int .i64 _) .nil))),r,h⟩;rw[F];simp only[execOp,Q,Instr.mapEntry,Sem.run_bind,run_underlying V,Result.andThen_ok,W,Go.MapKept.run_getObj_map g,J,E,akL,a0,Go.MapKept.run_setObj_map _ g,Sem.run_pure]
 ·simp at a
theorem Uw{g:Operand}(f:St L K s.tmps)(m:dC G L)(J:B.op=.entryStore t c dm g)(b:yo K (ay G K c) (ay G K dm) (ay G K g)=T j):cj P B s L .undef j:=by
 unfold yo at b;split at b
 case h_2=>simp at b
 case h_1 id ad e I E=>
 split at b
 case h_2=>simp at b
 case h_1 p vs u=>
 split at b
 case isFalse=>simp at b
 case isTrue X=>
 simp at b;obtain⟨Q,a,clock,N,C,n,H,Y,A⟩:=Ai f u (I▸dU f m c);obtain⟨x,r⟩:=A rfl;have F:=R.pZ (E▸dU f m dm);have ac:=R.pl (dU f m g);have W:a.size=Z p:=by simpa using H.length
 have h:e<a.size:=by omega
 have q:∀d(o:d<a.size),a[d].born=d:=by
  intro d o;have k:(a.toList.map (·.born))[d]?=T a[d].born:=by simp[o]
  rw[r]at k;simp[akM (show d<Z p by omega)]at k;exact k.symm
 have z:a.findIdx? (λi=>(i.born:Int)==(Int.ofNat e))=T e:=by
  rw[Array.findIdx?_eq_some_iff_getElem];refine⟨h,by simp[q e h],λd o=>?_⟩;have:=q d (by omega);simp[this];omega
 have y:a[e]?=T a[e]:=by simp[h]
 obtain⟨v,M,_,O,w⟩:=Ah (b:=a.modify e λi=>{i with val:=s.eval g}) (O:=clock) (F:=true) (e:=p) (i:=vs.set e (ay G K g).pl) f u C n (by
  grind[tS,tT]) (by
  grind[tS,RL.set]) (λ_=>by
  rw[tS,y];simp only;rw[tT (by simp[h]),r];exact⟨x,rfl⟩)
 refine⟨.skip,undef,v,?_,.inr ⟨rfl,rfl⟩,.inl (.undef _),b▸O,w⟩;rw[M];simp only[execOp,J,Instr.entryStore,Sem.run_bind,N,F,Result.andThen_ok,Go.MapKept.run_getObj_map n,asInt,asIntOf,Sem.run_pure,z,Go.MapKept.run_setObj_map _ n]
end
variable{lh m6:Option Operand}{c1:Int}
section
variable{P:Program}{G:Nat->Option (List AV)}{A:bQ}
def qT(e c b:Nat):Option Value->Prop
 |none=>b=c
 |some f=>∃d a,f=.int d a/\0<=a/\a<=(e:Int)/\b=a.toNat
theorem j1(g:St L K s.tmps)(d:dC G L)(a:cQ U O (lh.map (ay G K))=T y):qT U O y (lh.map s.eval):=by
 cases lh with
 |none=>simp[cQ]at a;exact a.symm
 |some lh=>
  simp only[iA]at a⊢;cases c:ay G K lh with
  |int f e=>
   rw[c]at a;simp only[cQ]at a;split at a
   ·rename_i b
    simp at a;exact⟨f,e,R.pZ (c▸dU g d lh),b.1,b.2,a.symm⟩
   ·simp at a
  |_=>grind[cQ]
theorem Aj{c:IntKind}{code:BoundsCode}(a:0<=aU)(b:aU<=(U:Int)):(Instr.sliceBound (.int c aU) U code).run P e=.ok aU.toNat e:=by
 simp[Instr.sliceBound,asIntOf,a,b]
theorem Ak{len cap:Nat}{a c:Option Value}(n:len<=cap)(b:qT len len O c)(d:qT O 0 U a):(Instr.sliceBounds V len cap a c D).run P e=.ok (U,O,cap) e/\U<=O/\O<=len:=by
 cases c with
 |none=>
  simp only[qT]at b;subst b;cases a with
  |none=>
   simp_all[qT,Instr.sliceBounds]
  |some g=>
   obtain⟨j,f,rfl,h,i,rfl⟩:=d;simp_all[Instr.sliceBounds,Aj]
 |some g=>
  obtain⟨j,f,rfl,h,i,rfl⟩:=b;have k:f<=(cap:Int):=by omega
  cases a with
  |none=>
   simp_all[qT,Instr.sliceBounds,Aj]
  |some g=>
   obtain⟨p,o,rfl,l,m,rfl⟩:=d;exact⟨by simp_all[Instr.sliceBounds,Aj],by omega,by omega⟩
theorem Al{len cap:Nat}{c a:Option Value}(o:len<=cap)(i:qT len 0 O (T bL))(f:qT len len O a)(g:a.isSome=ab)(h:qT O 0 U c):(Instr.sliceBounds V len cap c a (T bL)).run P e=.ok (U,O,O) e:=by
 obtain⟨x,d,rfl,r,s,rfl⟩:=i;have t:d<=(cap:Int):=by omega
 cases a with
 |none=>cases g
 |some j=>
  obtain⟨v,b,rfl,k,l,p⟩:=f;have:b=d:=by omega
  subst this;have q:b<=(b.toNat:Int):=by omega
  cases c with
  |none=>
   simp_all[qT,Instr.sliceBounds,Aj]
  |some j=>
   obtain⟨w,u,rfl,m,n,rfl⟩:=h;simp_all[Instr.sliceBounds,Aj]
theorem extract_toList(c:ByteArray)(b a:Nat):(c.extract b a).data.toList=(c.data.toList.take a).drop b:=by
 simp[Tv]
theorem wY{a:Option Addr}{len cap:Nat}{c b d:Option Value}(h:P.underlying t=T (.slice cK))(g:P.info? cK=T mX)(f:(Instr.sliceBounds ab len cap c b d).run P e=.ok (U,O,y) e):
 (Instr.sliceAt t (.slice a len cap) c b d).run P e=.ok (.slice (if y=U then a else a.map (·.add (U*mX.size))) (O -U) (y -U)) e:=by
 simp[Instr.sliceAt,Instr.slice,run_underlying h,f,sizeOf,typeInfo,g]
theorem Ux{h:Option Operand}{F:AV}(d:St L K s.tmps)(f:dC G L)(fn:B.op=.slice t c lh m6 h)
 (a:ju P K t (ay G K c) (lh.map (ay G K)) (m6.map (ay G K)) (h.map (ay G K))=T (F,j)):cj P B s L F j:=by
 have k:=dU d f c;generalize ay G K c=f6 at a k;have gh:execOp s.eval B=(do pure (.value (<-Instr.sliceAt t (s.eval c) (lh.map s.eval) (m6.map s.eval) (h.map s.eval)))):=by
  simp[execOp,fn]
 have U:∀ac,(Instr.sliceAt t (s.eval c) (lh.map s.eval) (m6.map s.eval) (h.map s.eval)).run P L.w=.ok ac L.w->R L F ac->j=K->cj P B s L F j:=by
  intro ac A X aB;subst aB;exact cj.still d (by simp_all) (.inl X)
 have fresh:∀p e,(Instr.sliceAt t (s.eval c) (lh.map s.eval) (m6.map s.eval) (h.map s.eval)).run P L.w=.ok (.slice e 0 0) L.w->F=.q (Z K.hp) 0 0 0->j={K with hp:=K.hp++[.arr 0 (bc P p) []]}->cj P B s L F j:=by
  intro p e A f0 aB;subst f0;subst aB;obtain⟨d2,gi,d5,f4,d4⟩:=F0 d (bc P p) L.w (c7.refl _ _);refine⟨.value (.slice e 0 0),_,d2,by simp_all,.inl rfl,.inl (F1 (U:=bc P p) (by rw[d5];simp) e),f4,d4⟩
 generalize gj:s.eval c=f5 at*;cases f6 with
 |ai=>
  simp only[ju]at a;split at a
  case h_2=>simp at a
  case h_1 p a3 a4 a9 v N W ah=>
  split at a
  case isFalse=>simp at a
  case isTrue r=>
  simp at a;obtain⟨rfl,rfl⟩:=a;obtain⟨m,u⟩:=pY r.1;replace k:=k.resolve_right (by grind);cases k
  have I:=j1 d f N;have J:=j1 d f W;have M:=j1 d f ah;have be:a3=0:=by cases m6 with|none=>exact I|some _=>obtain⟨_,_,_,_,_,rfl⟩:=I;omega
  have bf:a4=0:=by cases lh with|none=>exact J|some _=>obtain⟨_,_,_,_,_,rfl⟩:=J;omega
  have bi:a9=0:=by cases h with|none=>exact M|some _=>obtain⟨_,_,_,_,_,rfl⟩:=M;omega
  subst be;subst bf;subst bi;have o:(Instr.sliceBounds ab 0 0 (lh.map s.eval) (m6.map s.eval) (h.map s.eval)).run P L.w=.ok (0,0,0) L.w:=by
   cases h with
   |none=>grind[Ak]
   |some _=>grind[Al]
  refine U _ (wY v u o) ?_ rfl;exact R.ai
 |dI=>
  simp only[ju]at a;split at a
  case h_2=>simp at a
  case h_1 p a3 a4 a9 v N W ah=>
  split at a
  case isFalse=>simp at a
  case isTrue r=>
  simp at a;obtain⟨rfl,rfl⟩:=a;obtain⟨m,u⟩:=pY r.1;replace k:=k.resolve_right (by grind);cases k
  have I:=j1 d f N;have J:=j1 d f W;have M:=j1 d f ah;have be:a3=0:=by cases m6 with|none=>exact I|some _=>obtain⟨_,_,_,_,_,rfl⟩:=I;omega
  have bf:a4=0:=by cases lh with|none=>exact J|some _=>obtain⟨_,_,_,_,_,rfl⟩:=J;omega
  have bi:a9=0:=by cases h with|none=>exact M|some _=>obtain⟨_,_,_,_,_,rfl⟩:=M;omega
  subst be;subst bf;subst bi;have o:(Instr.sliceBounds ab 0 0 (lh.map s.eval) (m6.map s.eval) (h.map s.eval)).run P L.w=.ok (0,0,0) L.w:=by
   cases h with
   |none=>grind[Ak]
   |some _=>grind[Al]
  refine U _ (wY v u o) ?_ rfl;have e0:∀e:Addr,(Value.slice (if 0=0 then T e else(T e).map (·.add (0*m.size))) (0 -0) (0 -0))=.slice (T e) 0 0:=λe=>by simp
  rw[e0];exact R.dI _
 |str H=>
  simp only[ju]at a;split at a
  case h_2=>simp at a
  case h_1 i v y x=>
  split at a
  case h_2=>simp at a
  case h_1 b z=>
  simp at a;obtain⟨rfl,rfl⟩:=a;obtain⟨V,rfl,rfl⟩:=R.vx k;have Q:h=none:=by cases h with|none=>rfl|some _=>simp at y
  subst Q;have a0:Z V.data.toList=V.size:=by simp
  rw[a0]at x;obtain⟨o,_,_⟩:=Ak (P:=P) (e:=L.w) (V:=false) (di V.size) (j1 d f x) (j1 d f z);refine U (.string (V.extract b i)) ?_ ?_ rfl
  ·simp[Instr.sliceAt,Instr.slice,run_underlying v,o]
  ·rw[<-extract_toList];exact .str _
 |sl br n=>
  simp only[ju]at a;replace k:=k.resolve_right (by grind);have d0:∃e cap,f5=.slice e (Z n) cap/\Z n<=cap:=by
   cases k with
   |h5 _ e cap=>grind
   |sl _ _ H B i cap bv b4 ce cs o x r d1 X N=>grind
  split at a
  ·rename_i p i v y x
   have Q:h=none:=by cases h with|none=>rfl|some _=>simp at y
   subst Q;split at a
   case h_2=>simp at a
   case h_1 b z=>
   split at a
   case isFalse=>simp at a
   case isTrue r=>
   simp at a;obtain⟨rfl,rfl⟩:=a;obtain⟨m,u⟩:=pY r.2;obtain⟨e,cap,aQ,C⟩:=d0;obtain⟨o,ax,aq⟩:=Ak (P:=P) (e:=L.w) (V:=true) C (j1 d f x) (j1 d f z);have A:=wY (a:=e) v u o;rw[<-aQ]at A;refine U _ A ?_ rfl;cases k with
   |h5 _ f8 ae=>simp at aq;subst aq;simp;simp at ax;subst ax;simpa using R.h5 br _ _
   |sl _ _ H B f1 ae bv b4 ce cs d6 ex gc d1 X N=>
    injection aQ with af bw d3;subst af;subst d3;by_cases d9:i=b
    ·subst d9
     have:(n.take i).drop i=[]:=sF (by simp;omega);rw[this,Ke];exact .h5 _ _ _
    ·have fd:ae≠b:=by omega
     have au:Z ((n.take i).drop b)=i -b:=by simp;omega
     have es:f1=m.size:=by
      have co:0<Z n:=by omega
      have:=FW r.1 (n[0]) (bs co);rw[jf u]at this;grind
     subst es;have d8:(n.take i).drop b=(n.drop b).take (i -b):=by rw[Tv]
     have e2:b*m.size+(i -b)*m.size<=Z n*m.size:=by
      rw[<-rN];exact k9 _ (by omega)
     simp only[if_neg fd,iA,Addr.add_mid];rw[<-au];refine .sl br _ H (B+b*m.size) m.size (ae -b) bv b4 ce cs d6 (λp ge=>?_) (by omega) (by grind) ?_ ?_
     ·grind
     ·rw[au,d8,tR b (i -b) ex]
      have W:=RL.take ((i -b)*m.size) (RL.drop (b*m.size) X);grind[j0,List.drop_drop]
     ·intro ac fI
      rw[au,<-vf,<-j0 _ (Z n*m.size) _ _ e2]at fI;grind
  ·rename_i p f2 i v y x
   split at a
   case h_2=>simp at a
   case h_1 f3 b O z=>
   split at a
   case isFalse=>simp at a
   case isTrue r=>
   obtain⟨rfl,rfl,S,ak⟩:=r;simp at a;obtain⟨rfl,rfl⟩:=a;obtain⟨m,u⟩:=pY S;obtain⟨e,cap,aQ,C⟩:=d0;cases h with
   |none=>simp at y
   |some bb=>
    rw[<-y]at O;have o:=Al (P:=P) (e:=L.w) (V:=true) C (j1 (lh:=T bb) d f O) (j1 d f x) (by simpa using ak) (j1 d f z);have A:=wY (a:=e) v u o;grind
  ·simp at a
 |q id g off len=>
  simp only[ju]at a;replace k:=k.resolve_right (by grind);cases k with
  |q _ _ _ _ _ eq co el dl=>
  split at a
  ·rename_i p i v y x
   have Q:h=none:=by cases h with|none=>rfl|some _=>simp at y
   subst Q;split at a
   case h_2=>simp at a
   case h_1 b ci Y n z E=>
   split at a
   case isFalse=>simp at a
   case isTrue r=>
   obtain⟨rfl,a0,S⟩:=r;simp at a;obtain⟨rfl,rfl⟩:=a;rw[d.hp]at E;obtain⟨m,u⟩:=pY S;obtain⟨e,cap,rfl,ar,fs,C⟩:=dl Y n E;obtain⟨o,ax,aq⟩:=Ak (P:=P) (e:=L.w) (V:=true) ar (j1 d f x) (j1 d f z);have A:=wY (a:=e) v u o;refine U _ A ?_ rfl;refine .q id ci (off+b) (i -b) _ eq ⟨_,_,rfl⟩ el λgo f9 ds=>?_;rw[E]at ds;injection ds with p;injection p with _ af bw;subst af;subst bw
   refine⟨_,_,rfl,by omega,by omega,?_⟩;rcases C with C|⟨H,f7,em,rfl,d1⟩
   ·left;omega
   ·by_cases d7:cap=b
    ·left;omega
    ·right
     refine⟨H,f7,em,?_,?_⟩
     ·rw[if_neg d7,iA,Addr.add_mid,a0,jf u,<-rN]
     grind
  ·rename_i p f2 i v y x
   split at a
   case h_2=>simp at a
   case h_1 f3 b ci Y n O z E=>
   split at a
   case isFalse=>simp at a
   case isTrue r=>
   obtain⟨rfl,rfl,S,ak,rfl⟩:=r;simp at a;obtain⟨rfl,rfl⟩:=a;rw[d.hp]at E;obtain⟨m,u⟩:=pY S;obtain⟨e,cap,rfl,ar,fs,C⟩:=dl Y n E;cases h with
   |none=>simp at y
   |some bb=>
    rw[<-y]at O;have o:=Al (P:=P) (e:=L.w) (V:=true) ar (j1 (lh:=T bb) d f O) (j1 d f x) (by simpa using ak) (j1 d f z);have A:=wY (a:=e) v u o;grind
  ·simp at a
 |_=>simp[ju]at a
theorem KZ{b:Option Operand}(c:oO lh m6 b=T U):∃d e a,lh=D/\m6=T (.const (.int d a))/\b=T (.const (.int e a))/\0<a/\U=a.toNat:=by
 unfold oO at c;grind
theorem Uy{z:Option Operand}{C:AV}(A:St L K s.tmps)(H:dC G L)(O:B.op=.slice t c lh m6 z)(M:oO lh m6 z=T U)
 (b:yn P t U (ay G K c)=T C):cj P B s L C K:=by
 obtain⟨h,k,f,rfl,rfl,rfl,Y,rfl⟩:=KZ M;have e:=dU A H c;generalize ay G K c=aB at b e;unfold yn at b;split at b
 case h_2=>simp at b
 case h_1 i a=>
 split at b
 case h_2=>simp at b
 case h_1 X V=>
 split at b
 case isFalse=>simp at b
 case isTrue j=>
 obtain⟨ad,ac,Q⟩:=j;simp only[eK]at b;subst b;replace e:=e.resolve_right (by grind);have ah:execOp s.eval B=(do pure (.value (<-Instr.sliceAt t (s.eval c) D (T (.int h f)) (T (.int k f))))):=by
  simp[execOp,O,Act.eval]
 obtain⟨d,cap,x,J⟩:∃d cap,s.eval c=.slice d (Z a) cap/\Z a<=cap:=by
  generalize s.eval c=ax at e;cases e with
  |h5 _ d cap=>grind
  |sl _ _ m B h cap n o p r u v j y g q=>grind
 obtain⟨ak,N⟩:=pY Q;have ae:(f:Int)=Z a:=by omega
 have F:qT (Z a) 0 (Z a) (T (Value.int k f)):=⟨k,f,rfl,by omega,by omega,by omega⟩;have E:qT (Z a) (Z a) (Z a) (T (Value.int h f)):=⟨h,f,rfl,by omega,by omega,by omega⟩;have u:=Al (P:=P) (e:=L.w) (V:=true) (c:=D) (U:=0) J F E rfl rfl;have S:=wY (a:=d) V N u;rw[<-x]at S;have af:Z a≠0:=by omega
 rw[x]at e;have g:R L (.sl i a) (.slice d (Z a) (Z a)):=by
  cases e with
  |h5 _ _ _=>grind
  |sl _ _ m B W _ n o p r I v j y g q=>exact .sl i a m B W _ n o p r I v (di _) y g q
 refine cj.still (bL:=.slice d (Z a) (Z a)) A (by simp_all[Addr.add]) (.inl (.qN i a d g))
theorem Uz{b:Operand}{a:AV}(h:St L K s.tmps)(f:dC G L)(g:B.op=.pick c dm b)(e:(match ay G K c with|.bool d=>T ((if d then(ay G K dm).pl else(ay G K b).pl),K)|_=>D)=T (a,j)):cj P B s L a j:=by
 grind[T0]
theorem UA{a:List AV}(j:St L K s.tmps)(o:dC G L)(A:B.op=.slice t c D D D)(C:P.underlying t=T (.array U cK))(h:ay G K c=.aK V a 0)
 (e:Z a=U*bc P cK)(n:bc P cK=1):cj P B s L (.sl V (a.map λb=>[b])) K:=by
 have d:=dU j o c;rw[h]at d;replace d:=d.resolve_right (by grind);generalize E:s.eval c=I at d;obtain⟨F,z⟩:=pY (P:=P) (t:=cK) (by omega);rw[n,Fx]at e;cases d with
 |aK _ _ _ f i vs k m q r w p u=>
  refine cj.still j (bL:=.slice (T ⟨f,i,D⟩) U U) ?_ (.inl ?_)
  ·simp_all[execOp,Instr.sliceAt,run_underlying,Instr.sureAddr,Instr.sliceBounds,sizeOf,typeInfo,Addr.add_mid]
  ·have g:Z (a.map λb=>[b])=U:=by simp[e]
   have y:(a.map λb=>[b]).flatten=a:=by
    clear p u w e h g;induction a with
    |nil=>rfl
    |cons b a x=>simp[x]
   rw[<-g];refine .sl V _ f i 1 _ vs k m q r (λcK v=>?_) (di _) (by omega) ?_ ?_
   ·obtain⟨b,_,rfl⟩:=du.1 v;rfl
   ·grind
   grind
theorem CM{a:Builtin}(f:B.op=.call ee)(d:ee.callee=.builtin a){b:Next}(c:(builtin a ee.argTypes B.type (ee.args.map λ|.const _=>ab|_=>aa) (ee.args.map s.eval)).run P e=.ok b pM):(execOp s.eval B).run P e=.ok b pM:=by
 grind[execOp,resolve,invoke]
theorem UB(B:St L K s.tmps){o n:AV}(b:RT L o bL)(a:kK P K t o=T n):∃m,(Builtin.len_ #[t] cK #[bL]).run P L.w=.ok m L.w/\R L n m:=by
 unfold kK at a;split at a
 ·rename_i h c
  simp at a;subst a;obtain⟨i,rfl,rfl⟩:=R.vx b;refine⟨goInt i.size,by simp[Builtin.len_,run_underlying c],?_⟩;have:Z i.data.toList=i.size:=by simp
  rw[this];exact .int .i64 _
 ·rename_i e c
  simp at a;subst a;replace b:=b.resolve_right (by grind);cases b
  exact⟨goInt 0,by simp[Builtin.len_,run_underlying c],.int .i64 0⟩
 ·rename_i e c
  simp at a;subst a;replace b:=b.resolve_right (by grind);cases b
  exact⟨goInt 0,by simp[Builtin.len_,run_underlying c],.int .i64 0⟩
 ·rename_i e C d c
  simp at a;subst a;replace b:=b.resolve_right (by grind);cases b with
  |h5 _ p cap=>exact⟨goInt 0,by simp[Builtin.len_,run_underlying c],.int .i64 0⟩
  |sl _ _ h X W cap E F H v f k M V J I=>exact⟨goInt (Z d),by simp[Builtin.len_,run_underlying c],.int .i64 _⟩
 ·rename_i e id g off len c
  simp at a;subst a;replace b:=b.resolve_right (by grind);cases b with
  |q _ _ _ _ _ S u O N=>
   obtain⟨p,cap,rfl⟩:=u;exact⟨goInt len,by simp[Builtin.len_,run_underlying c],.int .i64 _⟩
 ·rename_i A e c
  simp at a;subst a;exact⟨goInt A,by simp[Builtin.len_,run_underlying c],.int .i64 _⟩
 ·rename_i z r id c
  split at a
  case h_2=>simp at a
  case h_1 G j vs y=>
  simp at a;subst a;obtain⟨h,d,clock,rfl,Q,f,x,_,_⟩:=Ai B y b;have:d.size=Z j:=by simpa using x.length
  refine⟨goInt d.size,by simp[Builtin.len_,run_underlying c,Go.MapKept.run_getObj_map f],?_⟩;rw[<-this];exact .int .i64 _
 ·rename_i z r j vs c
  simp at a;subst a;replace b:=b.resolve_right (by grind);cases b with
  |iu _ _ h clock d v f k U=>
   have:d.size=Z j:=by simpa using k.length
   refine⟨goInt d.size,by simp[Builtin.len_,run_underlying c,Go.MapKept.run_getObj_map f],?_⟩;rw[<-this];exact .int .i64 _
 ·simp at a
theorem UC{b:AV}(a:St L K s.tmps)(g:dC G L)(m:B.op=.call ee)(k:ee.callee=.builtin .len)(j:ee.argTypes.toList=[t])(i:ee.args.toList=[c])(d:kK P K t (ay G K c)=T b):cj P B s L b K:=by
 have e:ee.argTypes=#[t]:=by rw[<-sI];simpa using j
 have f:ee.args.map s.eval=#[s.eval c]:=by rw[<-sI];simp[i]
 obtain⟨o,n,h⟩:=UB (cK:=B.type) a (dU a g c) d;refine cj.still a (bL:=o) (CM m k ?_) (.inl h);rw[e,f];simp[builtin,n]
theorem UD{e:AV}(a:St L K s.tmps)(b:dC G L)(p:B.op=.call ee)(n:ee.callee=.builtin .append)(m:ee.argTypes.toList=[t,cK])(k:ee.args.toList=[c,dm])(o:pT P cK=ab)
 (h:mn P K t (ay G K c) (ay G K dm)=T (e,j)):cj P B s L e j:=by
 have r:ee.argTypes=#[t,cK]:=by rw[<-sI];simpa using m
 have u:ee.args.map s.eval=#[s.eval c,s.eval dm]:=by rw[<-sI];simp[k]
 obtain⟨d,f,v,i,q,g⟩:=F4 (lj:=B.type) a (dU a b c) (dU a b dm) o h;refine⟨.value d,d,f,CM p n ?_,.inl rfl,.inl i,q,g⟩;simp_all[builtin]
theorem K0{d:List AV}{e:AV}(f:pU d=T e):∃c a g b,d=[.int c a,.int g b]/\e=.int c (if b<a then b else a):=by
 unfold pU at f;grind
theorem K1{d:List AV}{e:AV}(f:rT d=T e):∃c a g b,d=[.int c a,.int g b]/\e=.int c (if b>a then b else a):=by
 unfold rT at f;grind
theorem K2(f:St L K s.tmps)(c:dC G L){d e:IntKind}(a:ee.args.toList.map (ay G K)=[.int d aU,.int e c1]):ee.args.map s.eval=#[.int d aU,.int e c1]:=by
 cases g:ee.args.toList with
 |nil=>grind
 |cons h b=>
  cases b with
  |nil=>grind
  |cons i b=>
   cases b with
   |cons _ _=>grind
   |nil=>
    simp[g]at a;have j:=R.pZ (a.1▸dU f c h);have k:=R.pZ (a.2▸dU f c i);rw[<-sI];simp_all
theorem UE{b:AV}(a:St L K s.tmps)(h:dC G L)(j:B.op=.call ee)(i:ee.callee=.builtin .min)(e:pU (ee.args.toList.map (ay G K))=T b):cj P B s L b K:=by
 obtain⟨k,c,m,d,f,rfl⟩:=K0 e;have g:=K2 a h f;refine cj.still a (bL:=.int k (if d<c then d else c)) (CM j i ?_) (.inl (.int _ _));rw[g];simp[builtin,Builtin.min_,Builtin.min2]
theorem UF{b:AV}(a:St L K s.tmps)(h:dC G L)(j:B.op=.call ee)(i:ee.callee=.builtin .max)(e:rT (ee.args.toList.map (ay G K))=T b):cj P B s L b K:=by
 obtain⟨k,c,m,d,f,rfl⟩:=K1 e;have g:=K2 a h f;refine cj.still a (bL:=.int k (if d>c then d else c)) (CM j i ?_) (.inl (.int _ _));rw[g];simp[builtin,Builtin.max_,Builtin.max2]
end
section
variable{P:Program}{G:Nat->Option (List AV)}{A:bQ}
theorem UG(b:List UInt8):(b.map λa=>[AV.int .u8 a.toNat]).flatten=b.map λa=>AV.int .u8 a.toNat:=by
 induction b with
 |nil=>rfl
 |cons a b c=>simp[c]
theorem K3:∀(a:List UInt8),RL L (a.map λb=>AV.int .u8 b.toNat) (a.map λb=>Value.int .u8 b.toNat)
 |[]=>.nil
 |b::a=>.cons _ _ _ _ (.int .u8 _) (K3 a)
theorem UH{q:AV}(j:St L K s.tmps)(x:dC G L)(y:B.op=.convert t cK c)(b:vl P t cK (ay G K c)=T q):cj P B s L q K:=by
 unfold vl at b;have e:=dU j x c;split at b
 ·rename_i Q p S C i h g
  simp at b;subst b;rw[g]at e;refine cj.still j (bL:=.int p (p.wrap C)) ?_ (.inl (.int _ _));simp[execOp,y,R.pZ e,convert,run_underlying i,run_underlying h,Conv.intToInt]
 ·rename_i u i h g
  simp at b;subst b;rw[g]at e;obtain⟨a,k,rfl⟩:=R.vx e;simp_all[cj.still,execOp,convert,run_underlying]
 ·rename_i d u i h g
  rw[g]at e;obtain⟨a,I,rfl⟩:=R.vx e;split at b
  case h_2=>simp at b
  case h_1 k=>
  split at b
  case isFalse=>simp at b
  case isTrue N=>
  simp at b;subst b;have M:=Go.Lib.run_convert_string_bytes (P:=P) L.w t cK d a i h k;have J:=grownCap_ge L.w a.size 0 d;have m:Z (a.data.toList.map λf=>[AV.int .u8 f.toNat])=a.size:=by simp
  have z:(Go.Lib.bytesCells L.w d a).toList.take a.size=a.data.toList.map λf=>Value.int .u8 f.toNat:=by
   unfold Go.Lib.bytesCells;rw[Kh,Ck (by simp)];rw[fW (by simp)];simp
  have A:c7 L.w (Go.Lib.bytesWorld L.w d a) (λ_=>False):=
   ⟨by grind[Go.Lib.bytesWorld,World.freeze,World.alloc,World.drew],by grind[Go.Lib.bytesWorld,World.freeze,World.alloc,World.drew],
    by grind[Go.Lib.bytesWorld,World.freeze,World.alloc,World.drew],by rw[Go.Lib.bytesWorld_size];omega,by grind[Go.Lib.bytesWorld_at_old]⟩
  obtain⟨r,O,n,E,v⟩:=F6 j 1 (a.data.toList.map λf=>[AV.int .u8 f.toNat]) (Go.Lib.bytesCells L.w d a) d _ (grownCap L.w a.size 0 d) (by omega) (by grind)
   (by grind[Go.Lib.bytesCells]) (by simp_all[Fx,UG,K3]) (λF o=>by
    rw[m,Fx,z]at o;obtain⟨H,_,rfl⟩:=du.1 o;rfl) _ A (Go.Lib.bytesWorld_at_new L.w d a)
  rw[m]at n;refine⟨_,_,r,?_,.inl rfl,by simpa using n,E,v⟩;simp_all[execOp]
 ·simp at b
theorem RT.pl{a:AV}(b:RT L a bL):RT L a.pl bL:=.inl (R.pl b)
theorem cj.pl{a:AV}(c:cj P B s L a K):cj P B s L a.pl K:=by
 obtain⟨i,j,b,d,e,f,g,h⟩:=c;exact⟨i,j,b,d,e,f.pl,g,h⟩
theorem j2{a:Option AV}{c:AV}(b:eL K a=T (c,j)):a=T c/\j=K:=by
 unfold eL at b;cases a with
 |none=>simp at b
 |some d=>grind
theorem K4{n:AV}(h:St L K s.tmps)(f:dC G L)(a:aT P G A K B.dst B.op=T (n,j)):cj P B s L n j:=by
 generalize g:B.op=op at a;have O:=a;unfold aT at a;cases op with
 |move b=>grind[KK]
 |assign b=>
  have key:(ay G K b).pl=n->K=j->cj P B s L n j:=by
   rintro rfl rfl;exact KK h f (.inr g)
  simp only at a;split at a
  ·rename_i t Q
   split at a
   ·grind[Up]
   ·simp at a
    obtain⟨rfl,rfl⟩:=a;have:=key;simp[ay,pR,ofValue,AV.pl]at this;exact this
  grind
 |pick i b q=>grind[Uz]
 |alloc u=>grind[Ug]
 |box u b=>grind[FR]
 |build c H=>obtain⟨a,rfl⟩:=j2 a;grind[Uh]
 |buildSlice c z H=>grind[Uj]
 |load c b=>
  obtain⟨a,rfl⟩:=j2 a;simp only[dg]at a;obtain⟨o,d,rfl⟩:=a;exact(TZ h f g d).pl
 |store c b q=>
  simp only[dg,eC]at a;grind[T1]
 |nilCheck b=>grind[T5]
 |binOp r c b q C=>obtain⟨a,rfl⟩:=j2 a;grind[T8]
 |unOp ad c b=>obtain⟨a,rfl⟩:=j2 a;grind[T9]
 |convert b q ah=>obtain⟨a,rfl⟩:=j2 a;grind[UH]
 |makeInterface c b=>
  grind[Ua]
 |makeFunc v first cap=>
  grind[Ub]
 |makeMap c ac=>
  grind[Uo]
 |makeSlice c e i=>grind[Uk]
 |range c b=>
  grind[Ul]
 |next b r=>
  grind[Un]
 |slice c b Y S Z=>
  simp only at a;split at a
  ·rename_i z u M N V W
   split at a
   ·rename_i x
    simp at a x;grind[UA]
   ·simp at a
  ·split at a
   ·rename_i z R
    obtain⟨a,rfl⟩:=j2 a;grind[Uy]
   grind[Ux]
 |fieldAddr c b v=>obtain⟨a,rfl⟩:=j2 a;grind[T2]
 |field c b v=>
  obtain⟨a,rfl⟩:=j2 a;simp only[dg]at a;obtain⟨o,d,rfl⟩:=a;exact(Uc h f g d).pl
 |indexAddr c b y=>obtain⟨a,rfl⟩:=j2 a;grind[T4]
 |index c b y=>
  obtain⟨a,rfl⟩:=j2 a;simp only[dg]at a;obtain⟨o,d,rfl⟩:=a;exact(Ud h f g d).pl
 |lookup c m k ok=>
  obtain⟨a,rfl⟩:=j2 a;simp only[dg]at a;obtain⟨o,d,rfl⟩:=a;exact(Ut h f g d).pl
 |mapUpdate c m k b=>
  simp only[dg,eC]at a;grind[vw]
 |insert c m k b=>
  simp only[dg,eC]at a;obtain⟨J,d,rfl,rfl⟩:=a;exact vw h f (.inr g) d
 |mapEntry c m k=>grind[Uv]
 |entryStore c m k b=>
  simp only[dg,eC]at a;grind[Uw]
 |extract b y=>
  grind[Ue]
 |typeAssert b af c ok=>
  grind[Uf]
 |call i=>
  simp only at a;split at a
  ·rename_i r x
   unfold jw at a;split at a
   ·rename_i c b w p
    simp only[dg,eC]at a;obtain⟨o,a,rfl,rfl⟩:=a;obtain⟨ae,X,rfl⟩:=List.map_eq_singleton_iff.1 p;grind[UC]
   ·rename_i c C t b w p
    split at a
    ·rename_i U
     cases E:i.args.toList with
     |nil=>grind
     |cons F e=>
      cases e with
      |nil=>grind
      |cons I e=>
       cases e with
       |cons _ _=>grind
       |nil=>
        grind[UD]
    ·simp at a
   ·rename_i c C t b w p
    simp only[dg,eC]at a;obtain⟨J,a,rfl,rfl⟩:=a;cases E:i.args.toList with
    |nil=>grind
    |cons F e=>
     cases e with
     |nil=>grind
     |cons I e=>
      cases e with
      |cons _ _=>grind
      |nil=>
       grind[Uu]
   ·simp only[dg,eC]at a
    grind[UE]
   ·simp only[dg,eC]at a
    grind[UF]
   ·simp at a
  ·simp at a
 |_=>simp at a
end
def l.ep(a:l)(d:Md):l:=
 {w:=a.w,S:=λc b=>if d=.cm/\c=ab then b<a.w.heap.size else a.S c b,h:=λ_=>D,bx:=λ_=>D,H:=[]}
theorem bR.length:∀{a b:List AV},bR N cA a b->Z b=Z a
 |_,_,.nil _=>rfl
 |_,_,.cons _ _ _ _ _ _ c=>by simp[bR.length c]
theorem eX.length:∀{a b:List (List AV)},eX N cA a b->Z b=Z a
 |_,_,.nil _=>rfl
 |_,_,.cons _ _ _ _ _ _ c=>by simp[eX.length c]
theorem eX.width:∀{c d:List (List AV)},eX N cA c d->(∀a∈c,Z a=U)->∀a∈d,Z a=U
 |_,_,.nil _,_=>by simp
 |_,_,.cons _ j h vs i e f,g=>by
  intro a b;rcases cf.1 b with rfl|b
  ·rw[e.length];grind
  ·exact eX.width f (by grind) a b
theorem l.wZ(g:Good L)(a:L.S V U)(b:F=V\/(cA=.cm/\F=ab)):(L.ep cA).S F U:=by
 simp only[l.ep];split
 ·exact g.jy U (g.jL V U a)
 grind
theorem CN(g:Good L){id:Nat}(d:L.H[id]?=T (.arr U O bS))(f:L.h id=T (y,c2)):
 ∃a c,L.w.heap[y]?=T (.cells a c (0,0))/\Z bS*O<=a.size/\(∀b∈bS,Z b=O)/\RL L bS.flatten (a.toList.take (Z bS*O))/\∀e∈a.toList.take (Z bS*O),e.oneCell'=true:=by
 obtain⟨j,i⟩:=g.iw id _ d;grind
theorem K5{off len:Nat}(b:∀a∈bS,Z a=U):∀a∈(bS.drop off).take len,Z a=U:=by grind
theorem RL.split{a:List AV}(b:RL L (bg++a) gD):RL L bg (gD.take (Z bg))/\RL L a (gD.drop (Z bg)):=by
 grind[RL.take,RL.drop,List.take_left,List.drop_left]
theorem l.K6(g:Good L)(a:L.S V U):(L.ep .c4).S ab U:=by
 simp only[l.ep];exact g.jL V U a
theorem l.K7{E:l}(g:Good E){m:Md}:Rm (E.ep .c4) (E.ep m)where
 S:=λa b h=>l.wZ g (V:=a) (by grind[l.ep]) (.inl rfl)
 heap:=λ_ _ _=>rfl
 kk:=di _
 jZ:=λid c h=>absurd h (J8 _)
mutual
theorem aI.fJ{p:l}(g:Good p):∀{r:Md}{x s:AV}{y:Value},aI p.H r x s->r≠.res->R p x y->R (p.ep r) s y
 |_,_,_,_,.int _ F bb,b,a=>by cases a;exact .int F bb
 |_,_,_,_,.bool _ e,b,a=>by cases a;exact .bool e
 |_,_,_,_,.str _ ce,b,a=>by cases a;exact .str _
 |_,_,_,_,.hL _,b,a=>by cases a;exact .hL
 |_,_,_,_,.gO _,b,a=>by cases a;exact .gO
 |_,_,_,_,.ki _,b,a=>by cases a;exact .ki
 |_,_,_,_,.undef _ _,b,_=>.undef _
 |_,_,_,_,.ai _ e,b,a=>by cases a;exact .h5 e _ _
 |_,_,_,_,.dI _ e,b,a=>by cases a;exact .h5 e _ _
 |_,_,_,_,.agg _ m C c,b,a=>by
  cases a with
  |agg _ vs k j=>exact .agg _ _ (bR.fJ g c b k) j
 |_,_,_,_,.aE _ m C c,b,a=>by
  cases a with
  |aE _ vs k=>exact .aE _ _ (bR.fJ g c b k)
 |_,_,_,_,.yq r _ e i A c,b,a=>by
  have d:=c.length
  cases a with
  |h5 _ U cap=>have:A=[]:=by simpa using d
               subst this;exact .h5 _ _ _
  |sl _ _ t w F cap m n u o f v Y G k j=>
   rw[<-d]
   exact .sl _ _ t w F cap m n u (l.wZ g o (.inl rfl)) f (c.width v) (by omega) (by grind) (by rw[d];exact RL.iB (l.K7 g) (eX.fJ g c (by simp) k)) (by grind)
 |_,_,_,_,.z7 e i A c,_,a=>by
  have d:=c.length
  cases a with
  |h5 _ U cap=>have:A=[]:=by simpa using d
               subst this;exact .h5 _ _ _
  |sl _ _ t w F cap m n u o f v Y G k j=>
   rw[<-d]
   exact .sl _ _ t w F cap m n u (l.K6 g o) f (c.width v) (by omega) (by grind) (by rw[d];exact eX.fJ g c (by simp) k) (by grind)
 |_,_,_,_,.Cw _ _ _ _,b,_=>absurd rfl b
 |_,_,_,_,.Aa e i A c,b,a=>by
  have d:=c.length
  cases a with
  |h5 _ U cap=>have:A=[]:=by simpa using d
               subst this;exact .h5 _ _ _
  |sl _ _ t w F cap m n u o f v Y G k j=>
   rw[<-d]
   exact .sl _ _ t w F cap m n u (l.wZ g o (.inr ⟨rfl,rfl⟩)) f (c.width v) (by omega) (by grind) (by rw[d];exact eX.fJ g c b k) (by grind)
 |_,_,_,_,.vq id ax off len h i A B d c,b,a=>by
  have K:=c.length
  have a3:Z ((i.drop off).take len)=len:=by simp;omega
  rw[a3]at K
  cases a with
  |q _ _ _ _ _ af X aB J=>
   obtain⟨U,cap,rfl,bw,b4,ac⟩:=J h i B
   by_cases a4:len=0
   ·subst a4
    have:A=[]:=by simpa using K
    subst this;exact .h5 _ _ _
   ·rcases ac with ac|⟨e,aq,L,rfl,G⟩
    ·omega
    ·obtain⟨m,n,f,a0,O,k,j⟩:=CN g B L
     have M:off*h+len*h<=Z i*h:=by rw[<-rN];exact k9 _ d
     have I:=RL.take (len*h) (RL.drop (off*h) k)
     rw[j0 _ _ _ _ M,<-tR off len O]at I
     rw[<-K]
     refine .sl ab A e (off*h) h cap m n (0,0) ?_ f (c.width (K5 O)) (by omega) (by grind) (by rw[K];exact eX.fJ g c b I) ?_
     ·grind[l.ep]
     ·intro s N
      rw[K,<-j0 _ (Z i*h) _ _ M]at N
      grind
 |_,_,_,_,.na _ _ _ _ _ _ _ _ _ _,b,_=>absurd rfl b
 |_,_,_,_,.tN r _ e m C off c,b,a=>by
  have d:=c.length
  cases a with
  |aK _ _ _ t w vs n u o f G k j=>
   exact .aK _ _ _ t w vs n u (l.wZ g o (.inl rfl)) f (by omega) (by rw[d];exact RL.iB (l.K7 g) (bR.fJ g c (by simp) k)) (by grind)
 |_,_,_,_,.FJ e m C off c,_,a=>by
  have d:=c.length
  cases a with
  |aK _ _ _ t w vs n u o f G k j=>
   exact .aK _ _ _ t w vs n u (l.K6 g o) f (by omega) (by rw[d];exact bR.fJ g c (by simp) k) (by grind)
 |_,_,_,_,.Cx _ _ _ _ _,b,_=>absurd rfl b
 |_,_,_,_,.yr e m C off c,b,a=>by
  have d:=c.length
  cases a with
  |aK _ _ _ t w vs n u o f G k j=>
   exact .aK _ _ _ t w vs n u (l.wZ g o (.inr ⟨rfl,rfl⟩)) f (by omega) (by rw[d];exact bR.fJ g c b k) (by grind)
 |_,_,_,_,.pV id ax P off h i m C B V c,b,a=>by
  have d:=c.length
  cases a with
  |ptr _ _ _ _ _ af X aB J=>
   obtain⟨e,aq,L,rfl⟩:=J h i B
   obtain⟨vs,n,f,a0,O,k,j⟩:=CN g B L
   have ad:Z m=h:=O m (sG V)
   have aQ:P<Z i:=(e6.1 V).1
   have M:P*h+h<=Z i*h:=by
    have:=k9 h (show P+1<=Z i from aQ)
    rw[qK]at this;exact this
   have I:=RL.take h (RL.drop (P*h) k)
   rw[Ae O V,j0 _ _ _ _ M]at I
   refine .aK ab C off e (P*h) vs n (0,0) ?_ f (by omega) (by rw[d,ad];exact bR.fJ g c b I) ?_
   ·grind[l.ep]
   ·intro s N
    rw[d,ad,<-j0 _ (Z i*h) _ _ M]at N
    grind
 |_,_,_,_,.FK _ _ _ _ _ _ _ _ _ _ _,b,_=>absurd rfl b
 |_,_,_,_,.ys ah vs ak Q j z,b,a=>by
  cases a with
  |iu _ _ e clock i o f v E=>exact .iu _ _ e clock i (l.wZ g o (.inl rfl)) f (bR.fJ g j b v) (bR.fJ g z b E)
 |_,_,_,_,.wT ah vs ak Q j z,b,a=>by
  cases a with
  |iu _ _ e clock i o f v E=>exact .iu _ _ e clock i (l.wZ g o (.inl rfl)) f (bR.fJ g j b v) (bR.fJ g z b E)
 |_,_,_,_,.wU id bv ah vs ak Q B j z,b,a=>by
  cases a with
  |b5 _ _ af X J=>
   obtain⟨e,aq,L,rfl⟩:=J _ _ _ B
   obtain⟨bf,i,clock,ae,f,v,E,_⟩:=g.iw id _ B
   rw[L]at ae
   injection ae with ar
   injection ar with au _
   subst au
   refine .iu _ _ e clock i ?_ f (bR.fJ g j b v) (bR.fJ g z b E)
   grind[l.ep]
 |_,_,_,_,.fn _ br be bi m C j z,b,a=>by
  cases a with
  |fn _ _ _ Q vs N E=>exact .fn _ _ _ _ _ (bR.fJ g j b N) (bR.fJ g z b E)
 |_,_,_,_,.iface _ S x s c,b,a=>by
  cases a with
  |iface _ _ y W=>exact .iface _ _ _ (aI.fJ g c b W)
theorem bR.fJ {p:l} (g:Good p):∀{r:Md}{x s:List AV}{y:List Value},bR p.H r x s->r≠.res->RL p x y->RL (p.ep r) s y
 |_,_,_,_,.nil _,b,a=>by cases a;exact .nil
 |_,_,_,_,.cons _ x s vs Q c S,b,a=>by
  cases a with
  |cons _ y _ ci W a9=>exact .cons _ _ _ _ (aI.fJ g c b W) (bR.fJ g S b a9)
theorem eX.fJ {p:l} (g:Good p):∀{r:Md}{x s:List (List AV)}{y:List Value},eX p.H r x s->r≠.res->RL p x.flatten y->RL (p.ep r) s.flatten y
 |_,_,_,_,.nil _,b,a=>by cases a;exact .nil
 |_,_,_,y,.cons _ x s vs Q c S,b,a=>by
  rw[wE]at a⊢
  obtain⟨j,z⟩:=RL.split a
  have:=RL.append (bR.fJ g c b j) (eX.fJ g S b z)
  rwa[vg]at this
end
def F9(b:Prop)(a:Bool):Prop:=a=aa\/b
structure CO(q:Prop)(E E':l):Prop where
 w:E'.w=E.w
 S:∀br b,F9 q br->E.S br b->E'.S br b
 h:∀id b z,E.h id=T (b,z)->E'.S aa b
mutual
theorem aI.ng{m:Prop}{k x:l}(g:Good k)(c:CO m k x):∀{y:Md}{t i:AV}{n:Value},aI k.H y t i->y=.res->(m\/NB i)->R k t n->R x i n
 |_,_,_,_,.int _ c f,_,_,a=>by cases a;exact .int c f
 |_,_,_,_,.bool _ j,_,_,a=>by cases a;exact .bool j
 |_,_,_,_,.str _ ci,_,_,a=>by cases a;exact .str _
 |_,_,_,_,.hL _,_,_,a=>by cases a;exact .hL
 |_,_,_,_,.gO _,_,_,a=>by cases a;exact .gO
 |_,_,_,_,.ki _,_,_,a=>by cases a;exact .ki
 |_,_,_,_,.undef _ _,_,_,_=>.undef _
 |_,_,_,_,.ai _ j,_,_,a=>by cases a;exact .h5 j _ _
 |_,_,_,_,.dI _ j,_,_,a=>by cases a;exact .h5 j _ _
 |_,_,_,_,.agg _ u C d,b,hq,a=>by
  cases a with
  |agg _ vs p v=>exact .agg _ _ (bR.ng g c d b (hq.imp id λf=>by cases f;assumption) p) v
 |_,_,_,_,.aE _ u C d,b,hq,a=>by
  cases a with
  |aE _ vs p=>exact .aE _ _ (bR.ng g c d b (hq.imp id λf=>by cases f;assumption) p)
 |_,_,_,_,.yq _ I _ _ _ _,b,_,_=>absurd b I
 |_,_,_,_,.z7 _ _ _ _,b,_,_=>by cases b
 |_,_,_,_,.Aa _ _ _ _,b,_,_=>by cases b
 |_,_,_,_,.Cw j o A d,b,hq,a=>by
  have s:=d.length
  cases a with
  |h5 _ aq cap=>have:A=[]:=by simpa using s
                subst this;exact .h5 _ _ _
  |sl _ _ P ac bf cap u z Q V B a3 bw ah p v=>
   by_cases ax:A=[]
   ·subst ax
    have:Z o=0:=by simpa using s.symm
    rw[this];exact .h5 _ _ _
   ·have r:F9 m j/\(m\/vr A):=by
     rcases hq with hq|hq
     ·exact⟨.inr hq,.inl hq⟩
     ·cases hq with
      |KC _=>grind
      |sl _ a=>exact⟨.inl rfl,.inr a⟩
    rw[<-s]
    exact .sl _ _ P ac bf cap u z Q (c.S _ _ r.1 V) (by rw[c.w];exact B) (d.width a3) (by omega) (by grind) (by rw[s];exact eX.ng g c d b r.2 p) (by grind)
 |_,_,_,_,.vq _ _ _ _ _ _ _ _ _ _,b,_,_=>by cases b
 |_,_,_,_,.na id ar off len e o A J s d,b,hq,a=>by
  have r:=d.length
  have a9:Z ((o.drop off).take len)=len:=by simp;omega
  rw[a9]at r
  cases a with
  |q _ _ _ _ _ aQ au aB W=>
   obtain⟨aq,cap,rfl,b4,ce,ae⟩:=W e o J
   by_cases I:len=0
   ·subst I
    have:A=[]:=by simpa using r
    subst this;exact .h5 _ _ _
   ·rcases ae with ae|⟨j,ad,F,rfl,ah⟩
    ·omega
    ·obtain⟨u,z,B,a4,L,p,v⟩:=CN g J F
     have G:off*e+len*e<=Z o*e:=by rw[<-rN];exact k9 _ s
     have E:=RL.take (len*e) (RL.drop (off*e) p)
     rw[j0 _ _ _ _ G,<-tR off len L]at E
     have N:m\/vr A:=by
      rcases hq with hq|hq
      ·grind
      ·cases hq with
       |KC _=>grind
       |sl _ a=>exact .inr a
     rw[<-r]
     refine .sl aa A j (off*e) e cap u z (0,0) (c.h id j ad F) (by rw[c.w];exact B) (d.width (K5 L)) (by omega) (by grind) (by rw[r];exact eX.ng g c d b N E) ?_
     intro i K
     rw[r,<-j0 _ (Z o*e) _ _ G]at K
     grind
 |_,_,_,_,.tN _ I _ _ _ _ _,b,_,_=>absurd b I
 |_,_,_,_,.FJ _ _ _ _ _,b,_,_=>by cases b
 |_,_,_,_,.yr _ _ _ _ _,b,_,_=>by cases b
 |_,_,_,_,.Cx j u C off d,b,hq,a=>by
  have s:=d.length
  cases a with
  |aK _ _ _ P ac vs z Q V B ah p v=>
   have r:F9 m j/\(m\/rV C):=by
    rcases hq with hq|hq
    ·exact⟨.inr hq,.inl hq⟩
    ·cases hq with
     |aK _ _ a=>exact⟨.inl rfl,.inr a⟩
   exact .aK _ _ _ P ac vs z Q (c.S _ _ r.1 V) (by rw[c.w];exact B) (by omega) (by rw[s];exact bR.ng g c d b r.2 p) (by grind)
 |_,_,_,_,.pV _ _ _ _ _ _ _ _ _ _ _,b,_,_=>by cases b
 |_,_,_,_,.FK id ar M off e o u C J X d,b,hq,a=>by
  have s:=d.length
  cases a with
  |ptr _ _ _ _ _ aQ au aB W=>
   obtain⟨j,ad,F,rfl⟩:=W e o J
   obtain⟨vs,z,B,a4,L,p,v⟩:=CN g J F
   have af:Z u=e:=L u (sG X)
   have a0:M<Z o:=(e6.1 X).1
   have G:M*e+e<=Z o*e:=by
    have:=k9 e (show M+1<=Z o from a0)
    rw[qK]at this;exact this
   have E:=RL.take e (RL.drop (M*e) p)
   rw[Ae L X,j0 _ _ _ _ G]at E
   refine .aK aa C off j (M*e) vs z (0,0) (c.h id j ad F) (by rw[c.w];exact B) (by omega) (by rw[s,af];exact bR.ng g c d b (hq.imp (λn=>n) λf=>by cases f;assumption) E) ?_
   intro i K
   rw[s,af,<-j0 _ (Z o*e) _ _ G]at K
   grind
 |_,_,_,_,.ys _ _ _ _ _ _,b,_,_=>by cases b
 |_,_,_,_,.wT _ _ _ _ _ _,b,_,_=>by cases b
 |_,_,_,_,.wU _ _ _ _ _ _ _ _ _,b,_,_=>by cases b
 |_,_,_,_,.fn _ bv bi br u C v U,b,hq,a=>by
  cases a with
  |fn _ _ _ ak vs K bb=>
   have N:m:=hq.elim id λf=>by cases f
   exact .fn _ _ _ _ _ (bR.ng g c v b (.inl N) K) (bR.ng g c U b (.inl N) bb)
 |_,_,_,_,.iface _ O t i d,b,hq,a=>by
  cases a with
  |iface _ _ n Y=>exact .iface _ _ _ (aI.ng g c d b (.inl (hq.elim id λf=>by cases f)) Y)
theorem bR.ng {m:Prop} {k x:l} (g:Good k) (c:CO m k x):∀{y:Md}{t i:List AV}{n:List Value},bR k.H y t i->y=.res->(m\/rV i)->RL k t n->RL x i n
 |_,_,_,_,.nil _,_,_,a=>by cases a;exact .nil
 |_,_,_,_,.cons _ t i vs ak d O,b,hq,a=>by
  cases a with
  |cons _ n _ co Y be=>exact .cons _ _ _ _ (aI.ng g c d b (hq.imp id λf=>by cases f;assumption) Y) (bR.ng g c O b (hq.imp id λf=>by cases f;assumption) be)
theorem eX.ng {m:Prop} {k x:l} (g:Good k) (c:CO m k x):∀{y:Md}{t i:List (List AV)}{n:List Value},eX k.H y t i->y=.res->(m\/vr i)->RL k t.flatten n->RL x i.flatten n
 |_,_,_,_,.nil _,_,_,a=>by cases a;exact .nil
 |_,_,_,n,.cons _ t i vs ak d O,b,hq,a=>by
  rw[wE]at a⊢
  obtain⟨v,U⟩:=RL.split a
  have:=RL.append (bR.ng g c d b (hq.imp id λf=>by cases f;assumption) v) (eX.ng g c O b (hq.imp id λf=>by cases f;assumption) U)
  rwa[vg]at this
end
section
variable{P:Program}{G:Nat->Option (List AV)}{A:bQ}
inductive iL(E:l):List AV->List Value->Prop
 |nil:iL E [] []
 |cons (v:AV) (u:Value) (vs:List AV) (us:List Value) (h:RT E v u) (t:iL E vs us):iL E (v::vs) (u::us)
theorem iL.append:∀{b c:List AV}{d vs:List Value},iL L b d->iL L c vs->iL L (b++c) (d++vs)
 |_,_,_,_,.nil,a=>a
 |_,_,_,_,.cons _ _ _ _ e f,a=>.cons _ _ _ _ e (iL.append f a)
theorem iL.of:∀{a:List AV}{b:List Value},RL L a b->iL L a b
 |_,_,.nil=>.nil
 |_,_,.cons _ _ _ _ c d=>.cons _ _ _ _ (.inl c) (iL.of d)
theorem iL.eval(c:St L K s.tmps)(b:dC G L):∀(a:List Operand),iL L (a.map (ay G K)) (a.map s.eval)
 |[]=>.nil
 |x::a=>.cons _ _ _ _ (dU c b x) (iL.eval c b a)
theorem iL.pl:∀{a:List AV}{b:List Value},iL L a b->RL L (a.map AV.pl) b
 |_,_,.nil=>.nil
 |_,_,.cons _ _ _ _ c d=>.cons _ _ _ _ (R.pl c) (iL.pl d)
structure CP(P:Program)(f:Nat):Prop where
 ex:∃fn body,P.funcs[f]?=T fn/\fn.body=T body/\(fn.name== "runtime.NumGoroutine")=aa
theorem Ga(a:CP P U)(args:Array Value):(callFunc U args).run P e=.ok (.enter U args) e:=by
 obtain⟨fn,b,d,c,f⟩:=a.ex;simp_all[callFunc]
theorem UI(b:TypeId)(a:Addr)(c d:String):(Builtin.ssaWrapNilChk_ #[b] b #[.pointer (T a),strVal c,strVal d]).run P e=.ok (.pointer (T a)) e:=rfl
theorem K8{args:List AV}(j:St L K s.tmps)(m:dC G L)(ae:B.op=.call ee)(a:h0 P G K ee=T (U,args))(V:CP P U):
 ∃k,(execOp s.eval B).run P L.w=.ok (.enter U k.toArray) L.w/\iL L args k:=by
 unfold h0 at a;have n:=iL.eval j m ee.args.toList;split at a
 ·rename_i f C
  split at a
  case h_2=>simp at a
  case h_1 y first cap q=>
  simp only[eK,eC]at a;obtain⟨rfl,rfl⟩:=a;have b:=dU j m f;rw[q]at b;replace b:=b.resolve_right (by grind);generalize N:s.eval f=au at b;cases b with
  |fn _ _ _ k vs g z=>
   refine⟨k.toList++ee.args.toList.map s.eval++vs.toList,?_,((iL.of (iL.pl (iL.of g))).append n).append (iL.of (iL.pl (iL.of z)))⟩;simp_all[execOp,resolve,Deferred.ofValue,invoke,Ga]
 ·rename_i f name C
  split at a
  case h_2=>simp at a
  case h_1 d ar q=>
  split at a
  case h_2=>simp at a
  case h_1 ak H=>
  have b:=dU j m f;rw[q]at b;replace b:=b.resolve_right (by grind);generalize N:s.eval f=au at b;cases b with
  |iface _ _ e J=>
   obtain⟨r,o⟩:∃r,P.info? d=T r:=by
    cases o:P.info? d with
    |none=>grind
    |some r=>grind
   simp only[o,zT]at H;have X:(execOp s.eval B).run P L.w=(callMethod (.iface d e) name (ee.args.map s.eval)).run P L.w:=by
    have Q:(#[Value.iface d e]++ee.args.map s.eval)[0]?=T (Value.iface d e):=by simp[Array.getElem?_append]
    have g:(#[Value.iface d e]++ee.args.map s.eval).extract 1 (#[Value.iface d e]++ee.args.map s.eval).size=ee.args.map s.eval:=by
     rw[<-sI];simp[fW]
    simp only[execOp,ae,resolve,C,N,Sem.run_bind,Sem.run_pure,Result.andThen_ok,invoke];rw[Q,g]
   have Y:∃O,P.types.size+Made.depth=O+1:=⟨P.types.size+99,by simp[Made.depth]⟩;obtain⟨O,ad⟩:=Y;split at a
   ·rename_i y x I F M
    simp only[eK,eC]at a;obtain⟨rfl,rfl⟩:=a;refine⟨e::ee.args.toList.map s.eval,?_,.cons _ _ _ _ (.inl (R.pl (.inl J))) n⟩;simp_all[callMethod,method,typeInfo,follow,receiverAt,run_underlying,Place.get,Ga]
   ·rename_i y x I F M
    split at a
    case h_2=>simp at a
    case h_1 a4 c=>
    simp only[eK,eC]at a;obtain⟨rfl,rfl⟩:=a;unfold m8 at c;cases A:nZ K ar.pl with
    |none=>grind
    |some aq=>
     obtain⟨v,off⟩:=aq;simp only[A]at c;split at c
     case isFalse=>simp at c
     case isTrue i=>
     simp at c;subst c;obtain⟨ax,t,vs,aQ,a0,rfl,W,a3,S,g⟩:=FQ j (.inl (R.pl (.inl J))) A;obtain⟨aB,E⟩:=rM.1 i.2.2;obtain⟨h,p⟩:=info_of_underlying E;rw[jf p]at i;have c:Z ((v.drop off).take h.size)=h.size:=by simp;omega
     have ah:=FO (P:=P) W (t+off) p E (by omega) i.2.1;refine⟨(if eU P x then .agg ((vs.toList.drop (t+off)).take h.size).toArray else((vs.toList.drop (t+off)).take h.size).headD undef)::ee.args.toList.map s.eval,?_,.cons _ _ _ _ (.inl (R.pl (.inl ?_))) n⟩
     ·have:∀u:Value,(u::ee.args.toList.map s.eval).toArray=#[u]++ee.args.map s.eval:=λu=>by rw[<-sI];simp
      have af:ak.path=#[]:=by rw[<-sI];simpa using I
      rw[X,this];simp only[callMethod,ad,method,Sem.run_bind,typeInfo,run_program,o,H,Sem.run_pure,Result.andThen_ok,follow,F,receiverAt,run_underlying M,Place.get,af,Array.isEmpty_empty,if_true,UI,asAddr,ah,Ga V]
     ·rw[jf p]
      refine CB ?_ ?_ (λac=>by rw[c];exact i.2.1 ac)
      ·have z:=RL.take h.size (RL.drop off S)
       grind[j0,List.drop_drop]
      ·intro f b
       apply g;rw[<-vf,<-j0 _ (Z v) _ _ (by omega)]at b;grind
   grind
 grind
end
variable{ez:Option Tmp}{r:Array Oper}{lx:List Oper}{cq:Code}
section
variable{P:Program}{G:Nat->Option (List AV)}{An:Nat->bQ}{X:eD}
def mu(d:l)(e:AS)(c b:Act)(f:World):Prop:=
 ∃a,a.w=f/\St a e b.tmps/\Fr d a/\b.tmps.size=c.tmps.size/\b.defers=c.defers
theorem sL(a:Act)(b:Option Tmp)(c:Value):(a.put b c).tmps.size=a.tmps.size:=by
 cases b<;>simp[Act.put]
theorem Am(a:Act)(b:Option Tmp)(c:Value):(a.put b c).defers=a.defers:=by
 cases b<;>rfl
theorem St.Ao(b:St L K s.tmps){e:AV}(j:RT L e bL)(g:∀a,ez=T a->a<s.tmps.size):St L (fD ez (e,K)) (s.put ez bL).tmps:=by
 cases ez with
 |none=>exact b
 |some a=>
  have i:=g a rfl;exact{
   b1:=b.b1
   hp:=b.hp
   env:=λd h c=>by
    simp only[fD,fc]at c;simp only[Act.put];by_cases f:d=a
    ·simp_all
    ·rw[if_neg f]at c
     have:=b.env d h c;simp_all[Kb]
   bx:=b.bx}
theorem Ap(p:St L K s.tmps)(a:fu r K B=T V):Region.wanted B (yielded r s.tmps)=V:=by
 unfold fu at a;unfold Region.wanted;cases k:B.guard with
 |none=>grind
 |some j=>
  obtain⟨o,u⟩:=j;simp only[k]at a⊢;cases f:(r[o]?).bind (·.dst)with
  |none=>grind
  |some b=>
   simp only[f]at a;cases e:look b K.env with
   |none=>grind
   |some h=>
    have c:=p.env b h e;simp only[e]at a;unfold yielded;simp only[f,zT];cases h with
    |bool i=>
     simp at a;have g:=R.wW c;have:s.tmps[b]?=T (.bool i):=by
      have m:b<s.tmps.size:=by
       rcases Kj b s.tmps.size with d|d
       ·exact d
       ·simp[Array.getElem?_eq_none d,undef]at g
      simpa[m]using g
     simp_all
    |aE vs=>
     cases vs with
     |nil=>
      simp at a;subst a;replace c:=c.resolve_right (by grind);cases n:s.tmps[b]? with
      |none=>rfl
      |some t=>
       simp[n]at c;cases c with
       |aE _ vs q=>rfl
     |cons _ _=>simp at a
    |_=>simp at a
theorem K9(b:fO r bu=[])(c:∀a∈bu,a<r.size):bu=[]:=by
 cases bu with
 |nil=>rfl
 |cons a bu=>
  grind[fO]
theorem Aq(c:fO r bu=B::lx)(d:∀a∈bu,a<r.size):∃a b,bu=a::b/\r[a]?=T B/\fO r b=lx:=by
 cases bu with
 |nil=>simp[fO]at c
 |cons a bu=>
  grind[fO]
def Ar(b:l)(c:List Obj)(d:AV):Ending->World->Prop
 |.returned e,f=>∃a,a.w=f/\Fr b a/\Good a/\a.H=c/\R a d e
 |_,_=>False
def jz(P:Program)(G:Nat->Option (List AV))(b:Nat)(args:List AV)(d:List Obj)(g:AV)(e:List Obj):Prop:=
 CP P b/\∀(a:l)(c:List Value),Good a->(∀f,a.bx f=D)->a.H=d->RL a args c->dC G a->Calls P b c.toArray a.w (Ar a e g)
theorem mu.trans{a b:Act}(d:Fr L fM)(n:a.tmps.size=s.tmps.size)(m:a.defers=s.defers)(f:mu fM K a b e):mu L K s b e:=by
 obtain⟨c,g,h,i,j,k⟩:=f;exact⟨c,g,h,d.trans i,j.trans n,k.trans m⟩
theorem UJ{E:l}(g:Good E)(m:Md):Good (E.ep m)where
 jL:=λa b h=>by
  simp only[l.ep]at h⊢;split at h
  ·grind
  ·split
   ·exact g.jy b (g.jL a b h)
   ·exact g.jL a b h
 jy:=λb h=>by
  simp only[l.ep]at h;split at h
  ·exact h
  ·exact g.jy b h
 dX:=λid b z e=>by cases e
 kL:=λi j b z c e=>by cases e
 blt:=λk b e=>by cases e
 nf:=λi j b e=>by cases e
 iw:=by grind[id,l.ep]
theorem UK(a:Md):(L.ep a).base=L.base:=by
 simp[l.base,l.ep]
theorem La(c:St L K s.tmps)(m:cA≠.res):∀{g i:List AV}{f:List Value},n4 K cA g i->iL L g f->RL (L.ep cA) i f
 |_,_,_,.nil,e=>by cases e;exact .nil
 |_,_,_,.cons J I vs f u A,e=>by
  cases e with
  |cons _ M _ N b z=>
   refine .cons _ _ _ _ ?_ (La c m A z);cases u with
   |of _ _ _ a=>
    rw[c.hp]at a;rcases b with b|⟨n,off,h,rfl,_,_⟩
    ·exact aI.fJ c.b1 a m b
    ·cases a;exact .undef _
   |lp n off o p v a=>
    rw[c.hp]at a;rcases b with b|⟨G,H,h,d,x,rfl⟩
    ·cases b
    ·injection d with q r
     subst q;subst r;obtain⟨C,B,t,k,w,j,E⟩:=c.bx n o v;rw[x]at k;injection k with d;subst d;have y:=a.length;have F:=j.length;have:=R.aK (E:=L.ep .cm) ab p off h 0 B t (0,0) (by grind[l.ep]) w (by grind)
      (by rw[y,jR,fW (by omega)];exact bR.fJ c.b1 a (by simp) j) (by grind)
     grind
theorem Lb(e:St L K s.tmps)(b:Fr (L.ep cA) fM)(f:Good fM){q i:AV}(z:R fM q bL)(A:aI fM.H .res q i)(y:cA=.cm->NB i):
 ∃d,d.w=fM.w/\St d K s.tmps/\Fr L d/\R d i bL:=by
 have o:c7 L.w fM.w (λ_=>False):=⟨b.os,b.output,b.tape,b.size,λa u _=>b.heap a u (λ_ _ c=>by cases c) (λ_ c=>by cases c)⟩;obtain⟨m,t⟩:=l.FU e.b1 o;refine⟨L.c4 fM.w,rfl,?_,m,?_⟩
 ·have:=St.mono e m t (λ_ _ h=>h) (λp k v=>o.block k (e.b1.blt p k v).1 (λh=>h))
  simpa[l.c4,<-e.hp]using this
 ·have p:CO (cA≠.cm) fM (L.c4 fM.w):={
   w:=rfl
   S:=λj a hf n=>by
    have g:=f.jy a (f.jL j a n);rcases b.pX j a n with h|h
    ·simp only[l.ep]at h
     split at h
     ·rename_i x
      rcases hf with hf|hf
      ·grind
      grind
     ·exact .inl h
    ·exact .inr ⟨h,g⟩
   h:=λid a r c=>by
    have g:=(f.dX id a r c).1;rcases b.oR id a r c with⟨B,C,h⟩|h
    ·cases h
    ·exact .inr ⟨h,g⟩}
  grind[aI.ng]
def l.w2(a:l):l:={a with bx:=λ_=>D}
theorem UL{E:l}(g:Good E):Good E.w2 where
 jL:=g.jL
 jy:=g.jy
 dX:=g.dX
 kL:=g.kL
 blt:=λk b e=>by cases e
 nf:=λi j b e=>by cases e
 iw:=λid o h=>by
  have:=g.iw id o h;have f:Rm E E.w2:=⟨λ_ _ h=>h,λ_ _ _=>rfl,di _,λid p _ h=>⟨p,h,iK.refl _ _⟩⟩;cases o with
  |arr q r m=>
   refine⟨this.1,this.2.imp (λh=>h) λ⟨b,cs,n,h1,h2,a,c,d⟩=>⟨b,cs,n,h1,h2,a,RL.iB f c,d⟩⟩
  |mp fl ks vs=>
   obtain⟨b,m,clock,h1,h2,a,c,d⟩:=this;exact⟨b,m,clock,h1,h2,RL.iB f a,RL.iB f c,d⟩
  |hM _ _=>exact this
theorem UM(b:l):Rm b b.w2:=⟨λ_ _ a=>a,λ_ _ _=>rfl,di _,λid c _ a=>⟨c,a,iK.refl _ _⟩⟩
def l.CQ(a b:l):l:={b with bx:=a.bx}
theorem UN(j:St L K s.tmps)(b:Fr L.w2 fM)(e:Good fM){v:AV}(E:R fM v bL):
 ∃k,k.w=fM.w/\St k {K with hp:=fM.H} s.tmps/\Fr L k/\R k v bL:=by
 have G:∀d a,L.bx d=T a->fM.w.heap[a]?=L.w.heap[a]?:=λd a t=>b.heap a (j.b1.blt d a t).1 (λid p c=>(j.b1.blt d a t).2.2 id p c) (λ_ c=>by cases c);have m:Rm fM (L.CQ fM):=⟨λ_ _ h=>h,λ_ _ _=>rfl,di _,λid J _ h=>⟨J,h,iK.refl _ _⟩⟩;have r:Fr L (L.CQ fM):={
  os:=b.os,output:=b.output,tape:=b.tape,size:=b.size,pW:=b.pW,pX:=b.pX
  heap:=λa B C P=>b.heap a B C (λ_ c=>by cases c)
  kk:=b.kk,jZ:=b.jZ,oR:=b.oR,rW:=λd a c=>.inl ⟨d,c⟩}
 have A:Good (L.CQ fM):={
  jL:=e.jL,jy:=e.jy,dX:=e.dX,kL:=e.kL
  blt:=λd a c=>by
   obtain⟨f,g,i⟩:=j.b1.blt d a c;refine⟨jQ f b.size,λF=>?_,λid p y=>?_⟩
   ·rcases b.pX ab a F with h|h
    ·exact g h
    ·have:L.w2.w.heap.size=L.w.heap.size:=rfl
     omega
   ·rcases b.oR id a p y with⟨I,M,h⟩|h
    ·exact i I M h
    ·have:L.w2.w.heap.size=L.w.heap.size:=rfl
     omega
  nf:=j.b1.nf
  iw:=λid u h=>by
   have:=e.iw id u h;cases u with
   |arr O S q=>
    refine⟨this.1,this.2.imp (λh=>h) λ⟨a,x,z,f,g,i,n,o⟩=>⟨a,x,z,f,g,i,RL.iB m n,o⟩⟩
   |mp N Q vs=>
    obtain⟨a,q,clock,f,g,i,n,o⟩:=this;exact⟨a,q,clock,f,g,RL.iB m i,RL.iB m n,o⟩
   |hM _ _=>exact this}
 exact⟨L.CQ fM,rfl,St.mono j r A (λ_ _ h=>h) G,r,R.iB m E⟩
def eN.CR:eN->Exit
 |.norm=>.normal
 |.exit id=>.exit id
 |.ret=>.ret
def Gb(a:l)(b:Act)(e:eN)(f:AS)(d:Exit)(c:Act)(g:World):Prop:=d=e.CR/\mu a f b c g
def CS(P:Program)(c:Code)(h:Exit->Act->World->Prop)(i:Act)(j:World):Prop:=
 ∀(b:Frame)(f:List Item)(d:List Frame),∃e a g,h e a g/\Arrives P (lone (b.at i (.code c::.inLoop c::f)) d j) b f d e a g
theorem CS.wp{b:Exit->Act->World->Prop}{a:Act}(h:CS P cq b a e):(Code.loop cq).wp P b a e:=λd k f=>by
 obtain⟨g,c,l,j,i⟩:=h d k f;exact⟨g,c,l,j,.of_steps (.one step_loop) i⟩
def As(P:Program)(c:Code)(a:Exit->Act->World->Prop)(b:Act)(d:World):Prop:=
 match c with
 |.loop e=>CS P e a b d
 |c=>c.wp P a b d
theorem As.wp{b:Exit->Act->World->Prop}{a:Act}(c:As P cq b a e):cq.wp P b a e:=by
 cases cq<;>first|exact c|exact CS.wp c
theorem At(f:List Nat)(c:Nat):∀(a:List (Nat×z))(d:z),look c (jJ f a)=T d->look c a=T d
 |[],_,b=>by grind[jJ]
 |(g,j)::a,d,b=>by
  simp only[jJ]at b;simp only[look];split at b
  ·simp only[look]at b
   split at b
   ·grind
   ·rename_i e;rw[if_neg e];exact At f c a d b
  ·rename_i h
   by_cases e:g=c
   ·subst e
    exfalso;have:∀a:List (Nat×z),look g (jJ f a)=none:=by
     intro a;induction a with
     |nil=>rfl
     |cons k a i=>
      grind[jJ,look]
    grind
   ·rw[if_neg e];exact At f c a d b
theorem CT(c d:Nat):∀(a:List (Nat×z))(e:z),look d (nX c a)=T e->look d a=T e
 |[],_,b=>by grind[nX]
 |(g,j)::a,e,b=>by
  simp only[nX]at b;simp only[look];split at b
  ·rename_i h
   by_cases f:g=d
   ·subst f
    exfalso;have:∀a:List (Nat×z),look c (nX c a)=none:=by
     intro a;induction a with
     |nil=>rfl
     |cons k a i=>
      grind[nX,look]
    grind
   ·rw[if_neg f];exact CT c d a e b
  ·simp only[look]at b
   split at b
   ·grind
   ·rename_i f;rw[if_neg f];exact CT c d a e b
theorem St.mj{E:l}{s:AS}{t:Array Value}(st:St E s t)(ks a:List Nat):St E {env:=jJ ks s.env,bx:=jJ a s.bx,hp:=s.hp} t where
 b1:=st.b1
 hp:=st.hp
 env:=λk v h=>st.env k v (At _ _ _ _ h)
 bx:=λk cs h=>st.bx k cs (At _ _ _ _ h)
theorem St.drop(a:St L K fq)(b:bQ)(c:Operand):St L (oQ b c K) fq:=by
 unfold oQ;split
 ·split
  ·exact{b1:=a.b1,hp:=a.hp,env:=λe f d=>a.env e f (CT _ _ _ _ d),bx:=a.bx}
  ·exact a
 ·exact a
theorem yx(a:tO U r=ab)(d:r[O]?=T B):(∀b,B.dst=T b->b<U)/\∀c∈B.after,Region.binds .any c=ab->c.on<O:=by
 unfold tO at a;rw[fi]at a;have:=a (B,O) (by
  grind)
 grind[Array.all_eq_true_iff_forall_mem]
theorem CU:∀(n:Nat)(a:List Nat),a.Nodup->(∀b∈a,b<n)->Z a<=n
 |0,a,_,c=>by
  cases a with
  |nil=>simp
  |cons b a=>exact absurd (c b (by simp)) (J8 b)
 |n+1,a,d,c=>by
  by_cases e:n∈a
  ·have:=CU n (a.erase n) (d.erase n) (by grind)
   grind
  ·have:=CU n a d (by grind)
   omega
theorem Lc(m:tO U r=ab):∀(d c:Nat)(listed:Array Bool)(done:List Nat),listed.size=r.size->(∀a,a<r.size->(listed.getD a ab=ab<->a∈done))->done.Nodup->(∀a∈done,a<r.size)->r.size<=Z done+d->
 n5 r done (Region.linearise.go .any r d c listed [])
 |0,c,listed,done,y,g,w,u,q=>by
  simp only[Region.linearise.go,akN,n5];intro a j;by_cases f:a∈done
  ·exact f
  ·exfalso
   have o:(a::done).Nodup:=by grind
   have:=CU r.size (a::done) o (by
    grind)
   grind
 |d+1,c,listed,done,y,g,w,u,q=>by
  simp only[Region.linearise.go];change n5 r done (match(Region.ready .any r listed)[c%Z (Region.ready .any r listed)]? with
   |some a=>Region.linearise.go .any r d (c/Z (Region.ready .any r listed)) (listed.setIfInBounds a ab) [a]
   |none=>[].reverse)
  cases j:(Region.ready .any r listed)[c%Z (Region.ready .any r listed)]? with
  |none=>
   have G:Region.ready .any r listed=[]:=by
    cases H:Region.ready .any r listed with
    |nil=>rfl
    |cons I J=>
     grind[Nat.mod_lt]
   simp only[akN,n5];intro a;induction a using Nat.strongRecOn with
   |_ a A=>
    intro k;by_cases f:a∈done
    ·exact f
    ·exfalso
     have e:r[a]?=T r[a]:=by simp[k]
     have:a∈Region.ready .any r listed:=by
      rw[mem_ready];refine⟨?_,r[a],e,λb i h=>?_⟩
      ·cases s:listed.getD a ab
       ·rfl
       ·exact absurd ((g a k).1 s) f
      ·have v:=(yx m e).2 b i h
       have p:=A b.on v (by omega);have:=(g b.on (by omega)).2 p;have z:b.on<listed.size:=by omega
       simpa[z]using this
     grind
  |some a=>
   simp only[];rw[linearise_go_acc,List.reverse_singleton,Kk];have l:=sG j;rw[mem_ready]at l;obtain⟨C,B,e,E⟩:=l;have F:a<r.size:=(oI.1 e).1;have x:a∉done:=by grind
   refine⟨x,⟨B,e,λb i h=>?_⟩,?_⟩
   ·grind
   ·refine Lc m d _ _ (a::done) (by grind) (λn t=>?_) (by grind) (λn t=>?_) (by simp;omega)
    ·by_cases b:a=n
     ·simp_all
     simp_all;omega
    grind
theorem Ld(b:tO U r=ab)(a:Nat):n5 r [] (Region.linearise .any r a):=
 Lc b r.size a _ [] (by simp) (by simp_all) .nil (by simp) (by simp)
theorem Au:∀{c done:List Nat},n5 r done c->∀b∈c,b<r.size
 |[],_,_,_,a=>by cases a
 |j::c,done,a,b,hi=>by
  obtain⟨_,⟨f,e,_⟩,d⟩:=a;rcases cf.1 hi with rfl|hi
  ·grind
  ·exact Au d b hi
end
variable{lf:Code}{jX:AS}{iq:eN}{ey:List Obj}
section
variable{P:Program}{G:Nat->Option (List AV)}{An:Nat->bQ}{X:eD}
theorem UO(p:St L K s.tmps){j:ResultVar}{e:AV}(b:vt P K j=T e):
 ∃q,((match j with|.tmp a=>pure (s.tmps.getD a undef)|.cell d a=>do loadVar a (<-asAddr (s.tmps.getD d undef))):Sem Value).run P L.w=.ok q L.w/\R L e q:=by
 have env:∀a,RT L ((look a K.env).getD .undef) (s.tmps.getD a undef):=by
  intro a;cases o:look a K.env with
  |none=>exact .inl (.undef _)
  |some e=>exact p.env a e o
 cases j with
 |tmp a=>
  simp[vt]at b;subst b;simp_all[R.pl]
 |cell d a=>
  simp only[vt,dg]at b;obtain⟨G,b,rfl⟩:=b;have h:=env d;unfold m8 at b;cases m:nZ K ((look d K.env).getD .undef)with
  |none=>grind
  |some y=>
   obtain⟨k,off⟩:=y;simp only[m]at b;split at b
   case isFalse=>simp at b
   case isTrue f=>
   simp at b;subst b;obtain⟨z,i,vs,B,C,x,u,F,t,r⟩:=FQ p h m;obtain⟨A,n⟩:=rM.1 f.2.2;obtain⟨c,g⟩:=info_of_underlying n;rw[jf g]at f;have o:Z ((k.drop off).take c.size)=c.size:=by simp;omega
   have v:=FO (P:=P) u (i+off) g n (by omega) f.2.1;refine⟨if eU P a then .agg ((vs.toList.drop (i+off)).take c.size).toArray else((vs.toList.drop (i+off)).take c.size).headD undef,by simp only[x,asAddr,Sem.run_bind,Sem.run_pure,Result.andThen_ok,v],R.pl (.inl ?_)⟩;rw[jf g];refine CB ?_ ?_ (by grind)
   ·have E:=RL.take c.size (RL.drop off t)
    grind[j0,List.drop_drop]
   ·intro H h
    apply r;rw[<-vf,<-j0 _ (Z k) _ _ (by omega)]at h;grind
theorem Gc(g:St L K s.tmps):∀{b:List ResultVar}{vs:List AV},tP P K b=T vs->
 ∃c,(b.mapM (λr=>match r with|.tmp d=>pure (s.tmps.getD d undef)|.cell h d=>do loadVar d (<-asAddr (s.tmps.getD h undef))):Sem (List Value)).run P L.w=.ok c L.w/\RL L vs c
 |[],vs,a=>by
  simp[tP]at a;subst a;exact⟨[],by simp,.nil⟩
 |r::b,vs,a=>by
  simp only[tP]at a;cases e:vt P K r with
  |none=>grind
  |some o=>
   cases f:tP P K b with
   |none=>grind
   |some p=>
    simp[e,f]at a;subst a;obtain⟨k,m,i⟩:=UO g e;obtain⟨c,n,j⟩:=Gc g f;refine⟨k::c,?_,.cons _ _ _ _ i j⟩;simp_all
theorem Gd(n:St L K s.tmps){fn:Func}{d:AV}(b:vu P fn K=T d):∃i,(results fn s.tmps).run P L.w=.ok i L.w/\R L d i:=by
 unfold vu at b;have key:∀c:List Value,(fn.results.toList.mapM (λd=>match d with|.tmp a=>pure (s.tmps.getD a undef)|.cell e a=>do loadVar a (<-asAddr (s.tmps.getD e undef))):Sem (List Value)).run P L.w=.ok c L.w->
  (results fn s.tmps).run P L.w=.ok (if b:c.toArray.size=1 then c.toArray[0]else .tuple c.toArray) L.w:=by
  intro c g;unfold results;rw[Array.mapM_eq_mapM_toList];simp only[Sem.run_bind,map_eq_pure_bind,Sem.run_pure];have m:=g
  rw[show(λd:ResultVar=>(match d with|.tmp a=>pure (s.tmps.getD a undef)|.cell e a=>do loadVar a (<-asAddr (s.tmps.getD e undef)):Sem Value))=(λo:ResultVar=>(match o with|.tmp a=>pure (s.tmps.getD a undef)|.cell e a=>do loadVar a (<-asAddr (s.tmps.getD e undef)):Sem Value))from rfl]at m
  refine Eq.trans (congrArg (λd=>(Result.andThen (Result.andThen d λs j=>Result.ok s.toArray j) λs j=>Result.ok (if b:s.size=1 then s[0]else Value.tuple s) j)) m) ?_;rfl
 split at b
 ·rename_i i h
  simp at b;subst b;obtain⟨c,g,f⟩:=Gc n h;cases f with
  |cons _ v _ x t p=>
   cases p
   grind
 ·rename_i vs r h
  simp at b;subst b;obtain⟨c,g,f⟩:=Gc n h;have q:Z c≠1:=by
   intro k;rw[f.length]at k;cases vs with
   |nil=>simp at k
   |cons o u=>
    simp_all
  refine⟨.tuple c.toArray,by grind,.aE _ _ (by omega)⟩
 ·simp at b
theorem RL.mq:∀(k:Nat){d:List AV}{e:List Value},RL L d e->∀(pre:List Value)(post:List Value),Z pre=k->∀b c,look b (mq k d)=T c->RT L c ((pre++e++post).toArray.getD b undef)
 |_,_,_,.nil,_,_,_,b,c,a=>by simp[AM.mq,look]at a
 |k,_,_,.cons j i d e m h,pre,post,g,b,c,a=>by
  simp only[AM.mq,look]at a;split at a
  ·rename_i f
   subst f;simp at a;subst a
   left
   simp_all
  ·have:=RL.mq (k+1) h (pre++[i]) post (by simp[g]) b c a
   grind
theorem Ge{E:l}{args:List AV}(g:Good E)(a:RL E args gD)(n:Nat):St E {env:=mq 0 args,bx:=[],hp:=E.H} (gD.toArray++Array.replicate (n -gD.toArray.size) undef)where
 b1:=g
 hp:=rfl
 env:=λk v h=>by
  have:=RL.mq 0 a [] (List.replicate (n -gD.toArray.size) undef) rfl k v h;have e:gD.toArray++Array.replicate (n -gD.toArray.size) undef=([]++gD++List.replicate (n -gD.toArray.size) undef).toArray:=by
   rw[<-sI];simp
  rw[e];exact this
 bx:=by grind[look]
variable(P G An X)
def kM(c:Array Oper)(i:List Oper)(j k:AS):Prop:=
 ∀(a:l)(b:Act)(e:Exit->Act->World->Prop)(d:List Nat),fO c d=i->(∀h∈d,h<c.size)->St a j b.tmps->dC G a->tO b.tmps.size c=ab->(∀f g,mu a k b f g->e .normal f g)->wpOps P c e d b a.w
def MC(c:Code)(e:AS)(d:eN)(f:AS):Prop:=
 ∀(a:l)(b:Act),St a e b.tmps->dC G a->gk b.tmps.size c=ab->As P c (Gb a b d f) b a.w
variable{P G An X}
theorem Gg:kM P G r [] K K:=λa b g h d e f _ _ c=>by
 have:=K9 d e;subst this;exact c b a.w ⟨a,rfl,f,Fr.refl a,rfl,rfl⟩
theorem Lf(p:fu r K B=T aa)(s:kM P G r lx (fD B.dst (.aE [],K)) j):kM P G r (B::lx) K j:=λa e d y k m c g n h=>by
 obtain⟨x,t,rfl,b,l⟩:=Aq k m;have q:=Ap c p;have i:=(yx n b).1;simp only[wpOps,b,q,cZ,if_false];have u:=c.Ao (ez:=B.dst) (e:=.aE []) (bL:=undef) (.inl (.aE [] #[] .nil)) i;exact s a (e.put B.dst undef) d t l (by grind) u g (by grind[sL])
  (λf v o=>h f v (o.trans (Fr.refl a) (sL _ _ _) (Am _ _ _)))
theorem Gh{g:bQ}{a:AV×AS}(y:fu r K B=T ab)(u:aT P G g K B.dst B.op=T a)(A:kM P G r lx (fD B.dst a) j):kM P G r (B::lx) K j:=λJ k i N o q b d t m=>by
 obtain⟨M,C,rfl,e,p⟩:=Aq o q;have z:=Ap b y;have n:=(yx t e).1;obtain⟨R,Q⟩:=a;obtain⟨O,H,h,w,s,x,F,c⟩:=K4 b d u;simp only[wpOps,e,z,if_true];refine .inl ?_;have E:=F.Ao (ez:=B.dst) x n;have f:=A h (k.put B.dst H) i C p (by grind) E (d.mono c b.b1) (by grind[sL])
  (λl I v=>m l I (v.trans c (sL _ _ _) (Am _ _ _)))
 unfold Oper.wp;rw[w];rcases s with rfl|⟨rfl,rfl⟩
 ·exact f
 ·exact f
theorem Lg{args e:List AV}{h d:AV}(S:fu r K B=T ab)(L:B.op=.call ee)(y:h0 P G K ee=T (U,args))
 (H:cA≠.res)(w:n4 K cA args e)(O:jz P G U e [] h N)(ak:aI N .res h d)(I:cA=.cm->NB d)(W:kM P G r lx (fD B.dst (d,K)) j):kM P G r (B::lx) K j:=λk n m ax C F a b J t=>by
 obtain⟨au,X,rfl,g,E⟩:=Aq C F;have V:=Ap a S;have z:=(yx J g).1;obtain⟨x,A⟩:=O;obtain⟨ac,Q,R⟩:=K8 a b L y x;simp only[wpOps,g,V,if_true];refine .inl ?_;unfold Oper.wp;rw[Q,Oper.upon_enter];refine Calls.mono (A (k.ep cA) ac (UJ a.b1 cA) (λ_=>rfl) rfl (La a H w R) (b.KF (UK cA))) ?_;intro p i c;cases p with
 |returned ad=>
  obtain⟨ae,aq,q,s,ah,v⟩:=c;obtain⟨l,ar,Z,f,u⟩:=Lb a q s v (by grind) I;have Y:=Z.Ao (ez:=B.dst) (.inl u) z;have:=W l (n.put B.dst ad) m X E (by grind) Y (b.mono f a.b1) (by grind[sL])
   (λo i M=>t o i (M.trans f (sL _ _ _) (Am _ _ _)))
  grind
 |panicked _=>exact c.elim
 |outgrown=>exact c.elim
theorem Lh{args:List AV}{d:AV}(O:fu r K B=T ab)(I:B.op=.call ee)(y:h0 P G K ee=T (U,args))
 (J:jz P G U (args.map AV.pl) K.hp d N)(S:kM P G r lx (fD B.dst (d.pl,{K with hp:=N})) j):kM P G r (B::lx) K j:=λe n m af C F a b H u=>by
 obtain⟨ae,V,rfl,g,E⟩:=Aq C F;have Q:=Ap a O;have z:=(yx H g).1;obtain⟨x,A⟩:=J;obtain⟨X,L,M⟩:=K8 a b I y x;simp only[wpOps,g,Q,if_true];refine .inl ?_;unfold Oper.wp;rw[L,Oper.upon_enter];refine Calls.mono (A e.w2 X (UL a.b1) (λ_=>rfl) a.hp.symm (RL.iB (UM e) M.pl) (b.KF rfl)) ?_;intro p k c;cases p with
 |returned i=>
  obtain⟨Y,ac,q,s,t,w⟩:=c;obtain⟨l,ad,h,f,v⟩:=UN a q s w;rw[t]at h;have W:=h.Ao (ez:=B.dst) (e:=d.pl) (.inl (R.pl (.inl v))) z;have:=S l (n.put B.dst i) m V E (by grind) W (b.mono f a.b1) (by grind[sL])
   (λo k hp=>u o k (hp.trans f (sL _ _ _) (Am _ _ _)))
  grind
 |panicked _=>exact c.elim
 |outgrown=>exact c.elim
theorem Li(a:Array Oper):∀n,n<=a.size->fO a (List.range n)=a.toList.take n
 |0,_=>by simp[fO]
 |n+1,b=>by
  have c:=Li a n (by omega);grind[fO,List.range_succ,List.take_succ_eq_append_getElem]
theorem Gi(a:Array Oper):fO a (List.range a.size)=a.toList:=by
 simp[Li,fW]
theorem Lj{a:bQ}{id:Nat}(k:kM P G r r.toList K j):MC P G (.region id r aa) K .norm (qR a j):=λb d l h n=>by
 refine wp_region ?_;refine k b d _ (List.range r.size) (Gi r) (by grind) l h (by grind[gk]) ?_;intro m o i;obtain⟨c,e,f,g⟩:=i;exact⟨rfl,c,e,f.mj _ _,g⟩
theorem Lk{h:bQ}(t:P.follows .mixedOrders=ab){id:Nat}(x:∀g,n5 r [] g->kM P G r (fO r g) K j):MC P G (.region id r ab) K .norm (qR h j):=λa c b s u=>by
 have f:tO c.tmps.size r=true:=by simpa[gk]using u
 refine wp_region_draw λz=>?_;simp only[Region.schedule,t,yi,if_true];have e:=Ld f z;obtain⟨d,k⟩:=l.FT (e:={a.w with drawn:=a.w.drawn+1}) b.b1 ⟨rfl,rfl,⟨rfl,Nat.le_succ _⟩,di _,λ_ _ _=>rfl⟩;have y:St (a.wd {a.w with drawn:=a.w.drawn+1}) K c.tmps:=by
  have:=St.mono b d k (λ_ _ m=>m) (λ_ _ _=>rfl);simpa[l.wd,<-b.hp]using this
 refine x _ e _ c _ _ rfl (Au e) y (s.mono d b.b1) f ?_;intro B A v;obtain⟨i,n,o,p,q⟩:=v;exact⟨rfl,i,n,o.mj _ _,d.trans p,q⟩
theorem Ll(k:MC P G cq K .norm j)(l:MC P G lf j iq jX):MC P G (.seq cq lf) K iq jX:=λe g d b c=>by
 simp only[gk,bG]at c;refine wp_seq (wp_mono (k e g d b c.1).wp ?_);rintro i h w1 ⟨rfl,f,rfl,p,a,o,m⟩;refine wp_mono (l f h p (b.mono a d.b1) (by grind)).wp ?_;rintro i q r ⟨rfl,n⟩;cases iq<;>exact⟨rfl,n.trans a o m⟩
theorem Lm(e:MC P G cq K iq j)(k:iq≠.norm):MC P G (.seq cq lf) K iq j:=λc d g f a=>by
 simp only[gk,bG]at a;refine wp_seq (wp_mono (e c d g f a.1).wp ?_);rintro i h w1 ⟨rfl,b⟩;cases iq with
 |norm=>grind
 |exit id=>exact⟨rfl,b⟩
 |ret=>exact⟨rfl,b⟩
theorem Ln{b:bQ}(i:ay G K c=.bool V)(h:MC P G (if V then cq else lf) (oQ b c K) iq j):MC P G (.cond c cq lf) K iq j:=λg d f e a=>by
 simp only[gk,bG]at a;have k:=R.wW (i▸dU f e c);refine wp_cond k ?_;have l:gk d.tmps.size (if V then cq else lf)=true:=by cases V;exact a.2;exact a.1
 exact(h g d (f.drop b c) e l).wp
theorem Lo{id:Nat}(e:MC P G cq K iq j)(k:iq≠.exit id):MC P G (.block id cq) K iq j:=λc d g f b=>by
 simp only[gk]at b;refine wp_block (wp_mono (e c d g f b).wp ?_);rintro i h w1 ⟨rfl,a⟩;cases iq with
 |norm=>exact⟨rfl,a⟩
 |exit l=>
  simp only[eN.CR,Exit.inBlock];rw[if_neg (by grind)];exact⟨rfl,a⟩
 |ret=>exact⟨rfl,a⟩
theorem Lp{id:Nat}(d:MC P G cq K (.exit id) j):MC P G (.block id cq) K .norm j:=λb c g e a=>by
 simp only[gk]at a;refine wp_block (wp_mono (d b c g e a).wp ?_);rintro i h w1 ⟨rfl,f⟩;simp only[eN.CR,Exit.inBlock,if_true];exact⟨rfl,f⟩
theorem Lq(m:MC P G cq K .norm j)(n:MC P G (.loop cq) (Cy K j) iq jX):MC P G (.loop cq) K iq jX:=λh a g e r=>by
 have s:gk a.tmps.size cq=true:=by simpa[gk]using r
 intro b f c;obtain⟨y,k,w1,⟨rfl,i,rfl,w,d,v,q⟩,o⟩:=(m h a g e s).wp b (.inLoop cq::f) c;have u:=n i k (w.mj _ _) (e.mono d g.b1) (by grind);obtain⟨z,l,x,⟨rfl,t⟩,p⟩:=u b f c;exact⟨_,l,x,⟨rfl,t.trans d v q⟩,.of_steps (Steps.trans o (.one step_inLoop)) p⟩
theorem Lr(f:MC P G cq K iq j)(i:iq≠.norm):MC P G (.loop cq) K iq j:=λb a o g k=>by
 have l:gk a.tmps.size cq=true:=by simpa[gk]using k
 intro d n e;obtain⟨p,c,w1,⟨rfl,m⟩,h⟩:=(f b a o g l).wp d (.inLoop cq::n) e;refine⟨_,c,w1,⟨rfl,m⟩,.pass (x:=.inLoop cq) rfl (λ_ _=>.inl ?_) h⟩;cases iq<;>simp[eN.CR]at i⊢
theorem Ls(d:MC P G cq K iq j):MC P G (.scope cq) K iq j:=λb c g e a=>by
 simp only[gk]at a;refine wp_scope_straight (wp_mono (d b c g e a).wp ?_);rintro i h w1 ⟨rfl,f⟩;cases iq<;>exact⟨rfl,f⟩
theorem Lt{fn:Func}{args:List AV}{d:AV}(k:P.funcs[U]?=T fn)(j:fn.body=T cq)(s:(fn.name== "runtime.NumGoroutine")=aa)(A:Z args<=fn.ntmps)(B:gk fn.ntmps cq=ab)
 (n:MC P G cq {env:=mq 0 args,bx:=[],hp:=N} iq K)(t:iq=.norm\/iq=.ret)(u:vu P fn K=T d):jz P G U args N d K.hp:=by
 refine⟨⟨fn,cq,k,j,s⟩,λf b g z p i o=>?_⟩;refine calls_of_wp k j ?_;have E:(b.toArray++Array.replicate (fn.ntmps -b.toArray.size) undef).size=fn.ntmps:=by
  have:=i.length;simp;omega
 have l:=Ge g i fn.ntmps;rw[p]at l;have v:=(n f {tmps:=b.toArray++Array.replicate (fn.ntmps -b.toArray.size) undef,defers:=[]} l o (by grind)).wp;refine wp_mono v ?_;rintro y h w1 ⟨rfl,a,rfl,e,m,C,r⟩;obtain⟨c,x,q⟩:=Gd e u;have hp:h.defers=[]/\∃c,(results fn h.tmps).run P a.w=.ok c a.w/\Ar f K.hp d (.returned c) a.w:=⟨r,c,x,a,rfl,m,e.b1,e.hp.symm,q⟩;rcases t with rfl|rfl<;>exact hp
theorem UP(w:P.follows .mixedOrders=ab)(v:∀U args N d ey,X U args N d ey->jz P G U args N d ey){args:List AV}{d:AV}(f:jK P G An X U args N d ey):jz P G U args N d ey:=by
 refine jK.rec (motive_1:=λe t u c l _=>kM P G t u c l) (motive_2:=λe o c m l _=>MC P G o c m l) (motive_3:=λU args N d ey _=>jz P G U args N d ey)
  ?_ ?_ ?_ ?_ ?_ ?_ ?_ ?_ ?_ ?_ ?_ ?_ ?_ ?_ ?_ ?_ ?_ ?_ ?_ ?_ ?_ ?_ f
 ·grind[Gg]
 ·grind[Lf]
 ·grind[Gh]
 ·grind[Lg]
 ·grind[Lh]
 ·intro e c a k b g h;exact wp_skip ⟨rfl,a,rfl,b,Fr.refl a,rfl,rfl⟩
 ·intro e x c a k b g h;exact wp_label ⟨rfl,a,rfl,b,Fr.refl a,rfl,rfl⟩
 ·grind[id,Lj]
 ·grind[id,Lk]
 ·grind[Ll]
 ·grind[Lm]
 ·grind[Ln]
 ·grind[id,Lo]
 ·grind[id,Lp]
 ·grind[Lq]
 ·grind[Lr]
 ·intro e id c a k b g h;exact wp_exit ⟨rfl,a,rfl,b,Fr.refl a,rfl,rfl⟩
 ·intro e c a k b g h;exact wp_ret ⟨rfl,a,rfl,b,Fr.refl a,rfl,rfl⟩
 ·grind[Ls]
 ·intro e k c y l m q p r _ s a n b g h;exact s a n ⟨b.b1,r.trans b.hp,λi j f=>b.env i j (q i j f),λi j f=>b.bx i j (p i j f)⟩ g h
 ·grind[Lt]
 grind
end
inductive Cl where
 |pure|rd|hO|box
 deriving DecidableEq
def yy(a:Program)(b:Array TypeId):Cl:=
 match(b[0]?).bind a.underlying with
 |some (.slice _)|some .string|some (.array _ _)=>.pure
 |_=>.rd
def az(e:Program)(b:bQ)(f:Oper->Bool)(a:Oper):Cl:=
 match a.op with
 |.move _|.pick ..|.build ..|.binOp ..|.unOp ..|.convert ..|.makeInterface ..|.makeFunc ..|.field ..|.index ..|.extract ..|.typeAssert ..=>.pure
 |.assign _=>if(a.dst.bind (look · b.acc)).isSome then .hO else .pure
 |.buildSlice _ i _=>if i≠0/\a.dst.any (· ∈b.own)=ab then .hO else .pure
 |.load ..|.nilCheck _|.fieldAddr ..|.indexAddr ..|.lookup ..=>.rd
 |.slice _ _ h g d=>if((oO h g d).isSome||d.isNone)=ab then .rd else .hO
 |.alloc _=>if a.dst.any (· ∈b.lb)then .box else .hO
 |.box ..=>if a.dst.any (· ∈b.lb)then .box else if a.dst.any (· ∈b.own)then .hO else .pure
 |.call c=>
  match c.callee with
  |.builtin .len=>yy e c.argTypes
  |.builtin .min|.builtin .max=>.pure
  |.builtin _=>.hO
  |_=>if f a then .hO else .rd
 |_=>.hO
variable{cg:Oper -> Bool}
section
variable{P:Program}{G:Nat->Option (List AV)}{A:bQ}
theorem UQ(b:∀a,c=.tmp a->look a j.env=look a K.env):ay G j c=ay G K c:=by
 cases c with
 |tmp a=>grind[ay]
 |_=>rfl
theorem UR{a:AV}(c:j.hp=K.hp)(d:∀b off,a=.lp b off->look b j.bx=look b K.bx):nZ j a=nZ K a:=by
 cases a<;>simp[nZ,c]
 grind
theorem Lu{b:AV}(d:j.hp=K.hp)(c:∀a off,b=.lp a off->look a j.bx=look a K.bx):m8 P j t b=m8 P K t b:=by
 simp[m8,UR d c]
theorem Gj{a:AV}(b:j.hp=K.hp):lz j U a=lz K U a:=by
 simp_all[lz]
theorem US{a:AV}(b:j.hp=K.hp):tK P j t a U=tK P K t a U:=by
 simp[tK,Gj b]
theorem UT{c b:AV}(a:j.hp=K.hp):pS P j t c b=pS P K t c b:=by
 unfold pS;simp only[Gj a,a]
theorem UU{a:AV}(b:j.hp=K.hp):wR j a=wR K a:=by
 simp[wR,b]
theorem UW{b a:AV}{ok:Bool}(c:j.hp=K.hp):vn P j t b a ok=vn P K t b a ok:=by
 simp[vn,UU c]
theorem Lv{a:AV}(b:j.hp=K.hp):kK P j t a=kK P K t a:=by
 simp[kK,b]
theorem UX{a:AV}{c b:Option AV}(d:j.hp=K.hp):ju P j t a c b D=(ju P K t a c b D).map λe=>(e.1,j):=by
 unfold ju;cases a with
 |ai=>
  grind
 |dI=>
  grind
 |str f=>
  grind
 |sl h i=>
  simp only
  repeat' split
  all_goals grind
 |q id g off len=>
  simp only[d]
  repeat' split
  all_goals grind
 |_=>rfl
def Ag(c:Array Oper)(b:Oper)(d e:AS):Prop:=∀a∈b.looksAt c,look a e.env=look a d.env
theorem Ag.op(d:Ag r B K j):∀a∈B.op.operands,ay G j a=ay G K a:=λa e=>
 UQ λb c=>d b (by
  subst c;exact Tw _ (yj.2 ⟨.tmp b,by grind,rfl⟩))
theorem Ag.wanted(b:Ag r B K j):fu r j B=fu r K B:=by
 unfold fu;cases c:B.guard with
 |none=>rfl
 |some a=>
  obtain⟨e,g⟩:=a;simp only;cases d:(r[e]?).bind (·.dst)with
  |none=>rfl
  |some f=>
   simp only;rw[b f (List.mem_append_right _ (by simp[c,d]))]
def lA(d:Array Oper)(c:Oper)(e:AS)(b:Nat):Prop:=∃a∈c.looksAt d,∃off,look a e.env=T (.lp b off)
theorem UY{off:Nat}(a:ay G K c=.lp U off):∃d,c=.tmp d/\look d K.env=T (.lp U off):=by
 cases c with
 |tmp d=>
  simp only[ay]at a;cases i:look d K.env with
  |none=>grind
  |some e=>grind
 |const e=>
  simp only[ay]at a;cases b:pR e with
  |none=>grind
  |some f=>
   simp[b]at a;subst a;exfalso;unfold pR at b;split at b
   ·simp at b
   ·unfold ofValue at b
    grind
 |global g=>
  grind[ay]
 |func h=>simp[ay]at a
theorem lA.of(e:c∈B.op.operands){off:Nat}(b:ay G K c=.lp U off):lA r B K U:=by
 obtain⟨a,rfl,d⟩:=UY b;exact⟨a,Tw _ (yj.2 ⟨.tmp a,by grind,rfl⟩),off,d⟩
def ix(b:AS)(a:Option (AV×AS)):Option (AV×AS):=a.map λa=>(a.1,b)
theorem Lw:∀{parts:List (Nat×AV)}{b c:List (List AV)},kj U b parts=T c->c.length=Z b
 |[],b,c,a=>by grind[kj]
 |(d,e)::parts,b,c,a=>by
  simp only[kj]at a;split at a
  ·have:=Lw a;grind
  ·simp at a
theorem UZ{own:Bool}{parts:List (Nat×AV)}(g:U=0\/own=aa):rS P own j t U parts=(rS P own K t U parts).map λb=>(b.1,j):=by
 unfold rS;split
 case h_2=>rfl
 case h_1 c h=>
 split
 case isFalse=>rfl
 case isTrue e=>
 split
 case h_2=>rfl
 case h_1 k i=>
 split
 case isFalse=>rfl
 case isTrue f=>
 split
 case h_2=>rfl
 case h_1 d a=>
 have:=Lw a;grind
theorem U0(b:∀a∈B.op.operands,ay G j a=ay G K a)(d:az P A cg B=.pure):aT P G A j B.dst B.op=ix j (aT P G A K B.dst B.op):=by
 unfold az at d;generalize I:B.op=op at b d⊢;cases op<;>simp only[Op.operands,reduceCtorEq]at b d
 case move a=>simp[aT,ix,b]
 case pick f r o=>
  simp[aT,ix,b];grind
 case build e i=>
  have:(i.toList.map λc=>(c.1,ay G j c.2))=i.toList.map λc=>(c.1,ay G K c.2):=rO λc n=>by
   rw[b c.2 (by simp;exact⟨c.1,by simpa using n⟩)]
  simp only[aT,eL,ix,this,qM];rfl
 case binOp o e a N J=>simp[aT,eL,ix,b];rfl
 case unOp L e a=>simp[aT,eL,ix,b];rfl
 case convert r o a=>simp[aT,eL,ix,b];rfl
 case makeInterface e a=>
  simp[aT,ix,b];grind
 case makeFunc s first cap=>
  have u:first.toList.map (λa=>(ay G j a).pl)=first.toList.map (λa=>(ay G K a).pl):=rO λa h=>by rw[b a (by simp[Cm.1 h])]
  have v:cap.toList.map (λa=>(ay G j a).pl)=cap.toList.map (λa=>(ay G K a).pl):=rO λa h=>by rw[b a (by simp[Cm.1 h])]
  simp only[aT,ix,u,v];grind
 case field e a s=>simp[aT,eL,ix,b];rfl
 case index e a y=>simp[aT,eL,ix,b];rfl
 case extract a y=>
  simp[aT,ix,b];grind
 case typeAssert a M e ok=>
  simp[aT,ix,b];grind
 case assign a=>
  split at d
  ·simp at d
  ·rename_i m
   simp only[aT,ix];grind
 case box C a=>
  split at d
  ·simp at d
  ·rename_i m
   split at d
   ·simp at d
   ·rename_i H
    simp at b;simp only[aT,ix,b];grind
 case buildSlice e q i=>
  split at d
  ·simp at d
  ·rename_i m
   have:(i.toList.map λc=>(c.1,ay G j c.2))=i.toList.map λc=>(c.1,ay G K c.2):=rO λc n=>by
    rw[b c.2 (by simp;exact⟨c.1,by simpa using n⟩)]
   have x:q=0\/(B.dst.any λa=>S (a∈A.own))=false:=by
    by_cases k:q=0
    ·exact .inl k
    ·exact .inr (by simpa usingλt=>m ⟨k,t⟩)
   simp only[aT,ix,this];exact UZ x
 case call f=>
  have l:f.args.toList.map (ay G j)=f.args.toList.map (ay G K):=rO λa h=>b a (by
   simp only[Call.operands];split<;>simp[Cm.1 h])
  split at d
  ·rename_i g
   simp only[aT,g,l];unfold jw ix;split
   ·rename_i z a F w E
    simp only[qM];have p:yy P f.argTypes=.pure:=d;unfold yy at p;have k:f.argTypes[0]?=T z:=by
     have:=congrArg List.toArray w;simp at this;rw[this];rfl
    simp only[k,zT]at p;unfold kK;grind
   all_goals grind
  ·rename_i g
   simp only[aT,g,l];unfold jw ix;split<;>first|grind|(simp[qM];rfl)
  ·rename_i g
   simp only[aT,g,l];unfold jw ix;split<;>first|grind|(simp[qM];rfl)
  ·simp at d
  grind
 case slice=>grind
 grind
theorem U1(a:∀b∈B.op.operands,ay G j b=ay G K b)(e:j.hp=K.hp)(E:∀d,lA r B K d->look d j.bx=look d K.bx)(c:az P A cg B=.rd):aT P G A j B.dst B.op=ix j (aT P G A K B.dst B.op):=by
 have h:∀b∈B.op.operands,∀d off,ay G K b=.lp d off->look d j.bx=look d K.bx:=by grind[lA.of]
 unfold az at c;generalize F:B.op=op at a c h⊢;cases op<;>simp only[Op.operands,reduceCtorEq]at a c h
 case load k b=>
  simp only[Fy,cf,iW,or_false,forall_eq]at a h;simp only[aT,eL,ix,a,Lu e h,qM];rfl
 case nilCheck b=>
  simp only[Fy,cf,iW,or_false,forall_eq]at a;simp only[aT,eL,ix,a];split
  ·rfl
  ·simp only[Gj e,qM];rfl
 case fieldAddr k b w=>
  simp only[Fy,cf,iW,or_false,forall_eq]at a;simp only[aT,eL,ix,a,US e,qM];rfl
 case indexAddr k b H=>
  simp at a;simp only[aT,eL,ix,a.1,a.2,UT e,qM];rfl
 case lookup k I d ok=>
  simp at a;simp only[aT,eL,ix,a.1,a.2,UW e,qM];rfl
 case slice k b i g l=>
  split at c
  ·rename_i t
   have n:=a b (by simp);cases f:oO i g l with
   |some J=>
    obtain⟨_,_,_,rfl,rfl,rfl,-,-⟩:=KZ f;simp only[aT,ix,n,f,eL];split
    ·grind
    ·rw[qM];rfl
   |none=>
   have u:l=none:=by cases l with|none=>rfl|some _=>simp[f]at t
   subst u;have s:i.map (ay G j)=i.map (ay G K):=by
    cases i with
    |none=>rfl
    |some v=>grind
   have q:g.map (ay G j)=g.map (ay G K):=by
    cases g with
    |none=>rfl
    |some v=>grind
   simp only[aT,ix,n,s,q,f];grind[UX]
  grind
 case call m=>
  have o:m.args.toList.map (ay G j)=m.args.toList.map (ay G K):=by simp_all[Call.operands]
  split at c
  ·rename_i p
   simp only[aT,p,o];unfold jw ix;split
   ·simp only[Lv e,qM];rfl
   all_goals grind
  ·simp at c
  ·simp at c
  ·simp at c
  ·rename_i x y z C
   simp only[aT];rfl
 case assign=>grind
 case buildSlice=>grind
 case alloc=>grind
 grind
def lB(b:AS)(a:Option (AV×AS)):Option (AV×AS):=a.map λa=>(a.1,{a.2 with env:=b.env})
theorem U2{c a:AV}(d:j.hp=K.hp)(f:j.bx=K.bx):mn P j t c a=lB j (mn P K t c a):=by
 have e:∀b,mm j b a=mm K b a:=by intro b;unfold mm;simp only[d]
 unfold mn lB;simp only[e,d]
 repeat' split
 all_goals grind
theorem Lx(a:∀e∈B.op.operands,ay G j e=ay G K e)(b:j.hp=K.hp)(f:j.bx=K.bx)(c:az P A cg B=.hO):aT P G A j B.dst B.op=lB j (aT P G A K B.dst B.op):=by
 unfold az at c;generalize H:B.op=op at a c⊢;cases op<;>simp only[Op.operands,reduceCtorEq]at a c
 case assign e=>
  simp only[aT,lB];split
  ·grind
  ·simp[a];cases j;grind
 case buildSlice d J q=>
  have:(q.toList.map λk=>(k.1,ay G j k.2))=q.toList.map λk=>(k.1,ay G K k.2):=by grind[List.map_congr_left]
  simp only[aT,lB,this];unfold rS;simp only[b]
  repeat' split
  all_goals first|rfl|(simp[f];done)|(simp_all;done)|(cases j;simp_all)
 case slice d e h g i=>
  have C:=a e (by simp);have x:h.map (ay G j)=h.map (ay G K):=by
   cases h with
   |none=>rfl
   |some o=>grind
  have w:g.map (ay G j)=g.map (ay G K):=by
   cases g with
   |none=>rfl
   |some o=>grind
  have y:i.map (ay G j)=i.map (ay G K):=by
   cases i with
   |none=>rfl
   |some o=>grind
  split at c
  ·simp at c
  rename_i v;have m:oO h g i=none:=by cases m:oO h g i with|none=>rfl|some _=>simp[m]at v
  simp only[aT,lB,C,x,w,y,m];split
  ·grind
  ·unfold ju
   simp only[b]
   repeat' split
   all_goals first|rfl|(simp[f];done)|(simp_all;done)|(cases j;simp_all)
 case alloc t=>
  split at c
  ·simp at c
  ·rename_i z
   simp only[aT,lB];grind
 case box t e=>
  split at c
  ·simp at c
  ·rename_i z
   split at c
   ·rename_i F
    simp at a;simp only[aT,lB,a];grind
   grind
 case makeMap d M=>
  simp only[aT,lB];grind
 case makeSlice d I l=>
  simp at a;simp only[aT,lB,a.1,a.2];unfold wQ;simp only[b]
  repeat' split
  all_goals grind
 case store d e o=>
  simp at a;simp only[aT,lB,a.1,a.2];unfold tJ;simp only[b,f]
  repeat' split
  all_goals grind
 case mapUpdate d n p r=>
  simp at a;simp only[aT,lB,a.1,a.2.1,a.2.2];unfold vo;simp only[b]
  repeat' split
  all_goals grind
 case insert d n p r=>
  simp at a;simp only[aT,lB,a.1,a.2.1,a.2.2];unfold vo;simp only[b]
  repeat' split
  all_goals grind
 case mapEntry d n p=>
  simp at a;simp only[aT,lB,a.1,a.2];unfold wS;simp only[b]
  repeat' split
  all_goals first|rfl|(simp[f];done)|(simp_all;done)|(cases j;simp_all)
 case entryStore d n N r=>
  simp at a;simp only[aT,lB,a.1,a.2.1,a.2.2];unfold yo;simp only[b]
  repeat' split
  all_goals grind
 case call l=>
  have u:l.args.toList.map (ay G j)=l.args.toList.map (ay G K):=by simp_all[Call.operands]
  simp only[aT,lB];split
  ·rename_i s E
   simp only[u];unfold jw;split
   ·simp only[Lv b,qM]
    congr 1
    funext L
    cases j;simp_all
   ·split
    ·exact U2 b f
    ·rfl
   ·unfold yp
    simp only[b]
    repeat' split
    all_goals first|rfl|(simp[f];done)|(simp_all;done)|(cases j;simp_all)
   ·grind
   ·grind
   ·rfl
  ·rfl
 case range d e=>
  simp only[Fy,cf,iW,or_false,forall_eq]at a;simp only[aT,lB,a,b,qQ];split
  ·rw[qM]
   congr 1
   grind
  ·rfl
 case next e s=>
  simp only[Fy,cf,iW,or_false,forall_eq]at a;simp only[aT,lB,a,b,qQ];split
  ·rw[qM]
   congr 1
   grind
  ·rfl
 all_goals first|rfl|(simp at c;done)
end
section
variable{P:Program}{G:Nat->Option (List AV)}{An:Nat->bQ}{X:eD}{A:bQ}
variable(P G An X)in
 inductive dO(hc:Oper->Bool)(A:bQ)(ops:Array Oper)(o:Oper)(s:AS):AS->Prop
 |skip (hw:fu ops s o=T aa):dO hc A ops o s (fD o.dst (.aE [],s))
 |op (r:AV×AS) (hw:fu ops s o=T ab) (ho:aT P G A s o.dst o.op=T r):dO hc A ops o s (fD o.dst r)
 |sJ (c:Call) (f:Nat) (m:Md) (args args':List AV) (r0 r:AV) (hp0:List Obj) (hh:hc o=aa) (hw:fu ops s o=T ab) (ho:o.op=.call c) (hcl:h0 P G s c=T (f,args))
  (hm:m≠.res) (ha:n4 s m args args') (hr:jK P G An X f args' [] r0 hp0) (hs:aI hp0 .res r0 r) (hn:m=.cm->NB r):dO hc A ops o s (fD o.dst (r,s))
 |sK (c:Call) (f:Nat) (args:List AV) (r:AV) (hp':List Obj) (hh:hc o=ab) (hw:fu ops s o=T ab) (ho:o.op=.call c) (hcl:h0 P G s c=T (f,args))
  (hr:jK P G An X f (args.map AV.pl) s.hp r hp'):dO hc A ops o s (fD o.dst (r.pl,{s with hp:=hp'}))
theorem dO.cons(k:dO P G An X cg A r B K j)(d:mr P G An X A r lx j jX):mr P G An X A r (B::lx) K jX:=by
 cases k with
 |skip a=>exact .skip _ _ _ _ _ _ a d
 |op c a b=>exact .op _ _ _ _ _ _ c a b d
 |sJ e f t args i u c q m a b g n l h s o=>exact .sJ _ _ _ _ _ _ e f t args i u c q a b g n l h s o d
 |sK e f args c p m a b g h=>exact .sK _ _ _ _ _ _ e f args c p a b g h d
theorem yz(c b:z)(d:U≠O):∀a:List (Nat×z),put U c (put O b a)=put O b (put U c a)
 |[]=>by
  grind[put,absurd]
 |(f,g)::a=>by
  have e:=yz c b d a;grind[put,absurd]
def h6(a:Nat):List (Nat×AV)->Bool
 |[]=>ab
 |(_,c)::b=> !c.gE a&&h6 a b
theorem oS:∀{a:List (Nat×AV)},h6 U a=ab->m7 U a=a
 |[],_=>rfl
 |(c,d)::a,b=>by
  simp only[h6,bG,jt]at b;simp[m7,b.1,oS b.2]
theorem vy{d:AV}(c:d.gE U=aa):∀{b:List (Nat×AV)},h6 U b=ab->h6 U (put O d b)=ab
 |[],_=>by simp[put,h6,c]
 |(e,f)::b,a=>by
  simp only[h6,bG,jt]at a;simp only[put];split
  ·grind[h6]
  ·split
   ·grind[h6]
   ·simp[h6,a.1,vy c a.2]
theorem yA{off:Nat}:∀{a:List (Nat×AV)},h6 U a=ab->look O a≠T (.lp U off)
 |[],_=>by simp[look]
 |(c,d)::a,b=>by
  simp only[h6,bG,jt]at b;simp only[look];split
  ·grind[AV.gE]
  ·exact yA b.2
theorem wV.ag{c d:AV}(h:j.hp=K.hp)(g:∀a off,c=.lp a off->look a j.bx=look a K.bx)(b:wV K cA c d):wV j cA c d:=by
 cases b with
 |of _ _ _ b=>exact .of _ _ _ (by grind)
 |lp a off e f i b=>exact .lp a off e f (by grind) (by grind)
theorem n4.ag(f:j.hp=K.hp):∀{a d:List AV},(∀c∈a,∀b off,c=.lp b off->look b j.bx=look b K.bx)->n4 K cA a d->n4 j cA a d
 |_,_,_,.nil=>.nil
 |_,_,e,.cons _ _ _ _ g i=>.cons _ _ _ _ (g.ag f (e _ (by simp))) (n4.ag f (λc h=>e c (by simp[h])) i)
theorem Ly(d:∀a∈ee.operands,ay G j a=ay G K a)(i:j.hp=K.hp):h0 P G j ee=h0 P G K ee:=by
 have f:ee.args.toList.map (ay G j)=ee.args.toList.map (ay G K):=rO λa m=>d a (by
  simp only[Call.operands];split<;>simp[Cm.1 m])
 unfold h0;cases g:ee.callee with
 |value o=>
  grind[Call.operands]
 |invoke e name=>
  have h:=d e (by simp[Call.operands,g]);simp only[f,h];cases p:ay G K e with
  |iface r c=>
   have l:∀b,m8 P j b c.pl=m8 P K b c.pl:=λb=>Lu i (λq off k=>by cases c<;>simp[AV.pl]at k);simp only[l]
  |_=>rfl
 |builtin n=>rfl
theorem LA{a:AV}{off:Nat}:a.pl≠.lp U off:=by cases a<;>simp[AV.pl]
theorem U3{args:List AV}(b:h0 P G K ee=T (U,args)){a:AV}(e:a∈args){off:Nat}(d:a=.lp O off):∃c∈ee.operands,ay G K c=.lp O off:=by
 have j:∀a∈ee.args.toList.map (ay G K),a=.lp O off->∃c∈ee.operands,ay G K c=.lp O off:=by
  intro a e d;obtain⟨c,i,rfl⟩:=du.1 e;refine⟨c,?_,d⟩;simp only[Call.operands];split<;>simp[Cm.1 i]
 have k:∀(g:List AV),a∈g.map AV.pl->False:=by
  intro g h;obtain⟨l,_,f⟩:=du.1 h;rw[d]at f;exact LA f
 unfold h0 at b;split at b
 ·grind
 ·split at b
  case h_2=>simp at b
  grind[Option.some.injEq,Prod.mk.injEq,LA]
 ·simp at b
def dJ(a:Option Tmp)(c:AV)(b:AS):AS:=fD a (c,b)
theorem p0(a:Option Tmp)(c:AV)(b:AS):(dJ a c b).hp=b.hp:=by cases a<;>rfl
theorem p1(a:Option Tmp)(c:AV)(b:AS):(dJ a c b).bx=b.bx:=by cases a<;>rfl
theorem Gk(a:Option Tmp)(c:AV)(b:AS)(hp:List Obj)(bx:List (Nat×List AV)):dJ a c {b with hp:=hp,bx:=bx}={dJ a c b with hp:=hp,bx:=bx}:=by cases a<;>rfl
theorem tU(a:Option Tmp)(c:AV)(b:AS)(d:a≠T U):look U (dJ a c b).env=look U b.env:=by
 cases a with
 |none=>rfl
 |some a=>
  simp only[dJ,fD,fc];grind
theorem CV{a:Option Tmp}(c b:AV)(e:AS)(f:∀d,ez=T d->a≠T d):dJ ez c (dJ a b e)=dJ a b (dJ ez c e):=by
 cases ez with
 |none=>rfl
 |some ez=>
  cases a with
  |none=>rfl
  |some a=>
   have g:ez≠a:=λh=>f ez rfl (by rw[h]);simp only[dJ,fD];rw[yz c b g]
theorem U4{op:BinOp}{d:IntKind}{b:AV}(a:jv op d aU c1=T b)(c:Nat):b.gE c=false:=by
 unfold jv at a;split at a<;>first|(simp at a;subst a;rfl)|(split at a<;>simp at a;subst a;rfl)|simp at a
theorem U5{op:BinOp}{c d:List UInt8}{b:AV}(a:tL op c d=T b)(e:Nat):b.gE e=false:=by
 unfold tL at a;split at a<;>first|(simp at a;subst a;rfl)|simp at a
theorem U6{op:BinOp}{d e c:AV}(a:rR P op t d e=T c)(b:Nat):c.gE b=false:=by
 unfold rR at a;split at a
 ·split at a
  ·split at a<;>simp at a;subst a;rfl
  ·split at a<;>simp at a;subst a;rfl
  grind[U4]
 ·exact U5 a b
 ·split at a<;>simp at a<;>subst a<;>rfl
 ·split at a
  ·split at a
   ·split at a<;>simp at a<;>subst a<;>rfl
   ·simp at a
  ·simp at a
 ·split at a<;>simp at a
  subst a;rfl
 ·simp at a
theorem qU(a:AV)(b:Nat):a.pl.gE b=false:=by cases a<;>rfl
theorem Gl{a b:AV}(c:lz K U a=T b)(d:b.gE O=ab):∃off,a=.lp O off:=by
 cases a<;>simp[lz]at c
 ·grind[AV.gE]
 ·grind[AV.gE]
 grind[AV.gE]
theorem LB{d b:AV}(a:kK P K t d=T b)(c:Nat):b.gE c=false:=by
 unfold kK at a;split at a<;>first|(simp at a;subst a;rfl)|(split at a<;>simp at a;subst a;rfl)|simp at a
theorem U7{f b:AV}{e c:Option AV}(a:ju P K t f e c D=T (b,j))(d:Nat):b.gE d=false:=by
 unfold ju at a;split at a
 ·split at a
  ·split at a<;>simp at a;rw[<-a.1];rfl
  ·simp at a
 ·split at a
  ·split at a<;>simp at a;rw[<-a.1];rfl
  ·simp at a
 ·split at a
  ·split at a<;>simp at a;rw[<-a.1];rfl
  ·simp at a
 ·split at a
  ·split at a
   ·split at a<;>simp at a;rw[<-a.1];rfl
   ·simp at a
  ·grind
  ·simp at a
 ·split at a
  ·split at a
   ·split at a<;>simp at a;rw[<-a.1];rfl
   ·simp at a
  ·grind
  ·simp at a
 ·simp at a
theorem U8{h:AV}(d:az P A cg B=.pure\/az P A cg B=.rd)(a:aT P G A K B.dst B.op=T (h,j))(F:h.gE U=ab):lA r B K U:=by
 have no:h.gE U=aa->lA r B K U:=by grind
 unfold az at d;generalize E:B.op=op at a d;have I:∀b∈op.operands,∀off,ay G K b=.lp U off->lA r B K U:=by grind[lA.of]
 cases op<;>simp only[reduceCtorEq,or_self,or_false,false_or]at d
 case move b=>simp[aT]at a;grind[qU]
 case assign b=>
  simp only[aT]at a;split at a
  ·split at a<;>simp at a<;>exact no (by rw[<-a.1];rfl)
  ·simp at a;exact no (by rw[<-a.1];exact qU _ _)
 case pick m l e=>
  simp only[aT]at a;grind[qU]
 case build c x=>
  simp only[aT]at a;obtain⟨a,_⟩:=j2 a;refine no ?_;unfold wP at a;split at a
  ·split at a
   ·simp only[dg]at a;obtain⟨_,_,rfl⟩:=a;rfl
   ·simp at a
  ·split at a
   ·simp only[dg]at a;obtain⟨_,_,rfl⟩:=a;rfl
   ·simp at a
  ·simp at a
 case buildSlice c w x=>
  refine no ?_;simp only[aT]at a;unfold rS at a;split at a
  ·split at a
   ·split at a
    ·split at a
     ·split at a
      ·split at a
       ·simp at a;rw[<-a.1];rfl
       ·split at a<;>simp at a<;>rw[<-a.1]<;>rfl
      ·simp at a
     ·simp at a
    ·simp at a
   ·simp at a
  ·simp at a
 case load c b=>
  simp only[aT]at a;obtain⟨a,_⟩:=j2 a;simp only[dg]at a;grind[qU]
 case nilCheck b=>
  simp only[aT]at a;split at a
  ·simp at a;exact no (by rw[<-a.1];rfl)
  ·obtain⟨a,_⟩:=j2 a
   grind[Gl,Op.operands]
 case fieldAddr c b i=>
  simp only[aT]at a;obtain⟨a,_⟩:=j2 a;unfold tK at a;grind[Gl,Op.operands]
 case indexAddr c b k=>
  simp only[aT]at a;obtain⟨a,_⟩:=j2 a;unfold pS at a;split at a
  ·grind[Gl,Op.operands]
  ·split at a
   ·split at a
    ·split at a
     ·split at a<;>simp at a;exact no (by rw[<-a];rfl)
     ·simp at a
    ·simp at a
   ·split at a
    ·split at a
     ·split at a<;>simp at a;exact no (by rw[<-a];rfl)
     ·simp at a
    ·simp at a
   ·simp at a
  ·simp at a
 case binOp e c b N L=>
  simp only[aT]at a;grind[j2,U6]
 case unOp y c b=>
  simp only[aT]at a;obtain⟨a,_⟩:=j2 a;refine no ?_;unfold ml at a;split at a<;>simp at a<;>subst a<;>rfl
 case convert l e b=>
  simp only[aT]at a;obtain⟨a,_⟩:=j2 a;refine no ?_;unfold vl at a;split at a
  ·simp at a;subst a;rfl
  ·simp at a;subst a;rfl
  ·split at a
   ·split at a<;>simp at a;subst a;rfl
   ·simp at a
  ·simp at a
 case makeInterface c b=>
  simp only[aT]at a;refine no ?_;split at a<;>simp at a;rw[<-a.1];rfl
 case makeFunc i first cap=>
  simp only[aT]at a;refine no ?_;split at a<;>simp at a;rw[<-a.1];rfl
 case field c b i=>
  simp only[aT]at a;obtain⟨a,_⟩:=j2 a;simp only[dg]at a;grind[qU]
 case index c b k=>
  simp only[aT]at a;obtain⟨a,_⟩:=j2 a;simp only[dg]at a;grind[qU]
 case lookup c J H ok=>
  simp only[aT]at a;obtain⟨a,_⟩:=j2 a;simp only[dg]at a;grind[qU]
 case extract b k=>
  simp only[aT]at a;grind[qU]
 case typeAssert b M c ok=>
  simp only[aT]at a;grind[qU]
 case slice c b v q g=>
  split at d
  ·rename_i s
   cases f:oO v q g with
   |some w=>
    simp only[aT,f]at a;split at a
    ·split at a<;>simp at a;exact no (by rw[<-a.1];rfl)
    ·simp only[eL,dg,eC]at a
     obtain⟨y,a,rfl,-⟩:=a;unfold yn at a;split at a
     ·split at a
      ·split at a<;>simp at a;exact no (by rw[<-a];rfl)
      ·simp at a
     ·simp at a
   |none=>
   have t:g=none:=by cases g with|none=>rfl|some _=>simp[f]at s
   subst t;simp only[aT,f]at a;split at a
   ·split at a<;>simp at a;exact no (by rw[<-a.1];rfl)
   grind[U7]
  grind
 case call m=>
  simp only[aT]at a;split at a
  ·rename_i e o
   unfold jw at a;rw[o]at d;split at a
   ·simp only[dg,eC]at a
    grind[LB]
   ·simp at d
   ·simp at d
   ·simp only[dg,eC]at a
    obtain⟨_,a,rfl,_⟩:=a;obtain⟨_,_,_,_,_,rfl⟩:=K0 a;exact no rfl
   ·simp only[dg,eC]at a
    obtain⟨_,a,rfl,_⟩:=a;obtain⟨_,_,_,_,_,rfl⟩:=K1 a;exact no rfl
   ·simp at a
  ·simp at a
 case alloc=>grind
 case box z b=>
  split at d
  ·simp at d
  ·rename_i u
   simp only[aT]at a;split at a
   ·rename_i n p
    have C:n∉A.lb:=by simpa[p]using u
    split at a
    ·skip
     split at a
     ·grind
     ·injection a with a;injection a with a _;exact no (by rw[<-a];rfl)
    ·simp at a
   ·simp at a
 all_goals simp[aT]at a
theorem LC{d a:AV}(b:aI N cA d a)(c:Nat):a.gE c=false:=by
 cases b<;>rfl
theorem n6(u:dO P G An X cg A r B K j)(k:az P A cg B=.pure\/az P A cg B=.rd):
 ∃g,j=dJ B.dst g K/\(∀a,Ag r B K a->(az P A cg B=.pure\/a.hp=K.hp/\∀b,lA r B K b->look b a.bx=look b K.bx)->dO P G An X cg A r B a (dJ B.dst g a))/\∀b,g.gE b=ab->lA r B K b:=by
 cases u with
 |skip i=>exact⟨.aE [],rfl,λa d _=>.skip (by rw[d.wanted];exact i),λb w=>by cases w⟩
 |op m i f=>
  obtain⟨g,N⟩:=m;have key:∀a,Ag r B K a->(az P A cg B=.pure\/a.hp=K.hp/\∀b,lA r B K b->look b a.bx=look b K.bx)->aT P G A a B.dst B.op=T (g,a):=by
   intro a d c;rcases k with k|k
   ·rw[U0 d.op k,f];rfl
   ·rcases c with c|c
    ·grind
    ·rw[U1 (r:=r) d.op c.1 c.2 k,f];rfl
  have l:=key K (λ_ _=>rfl) (by grind);rw[f]at l;simp at l;subst l;exact⟨g,rfl,λa d c=>.op (g,a) (by rw[d.wanted];exact i) (key a d c),by grind[U8]⟩
 |sJ n p E args t F m z q i f e x v s l y=>
  refine⟨m,rfl,λa d c=>?_,by grind[LC]⟩;have I:B.op.operands=n.operands:=by rw[f];rfl
  have C:az P A cg B≠.pure:=by
   unfold az;rw[f];simp only;split
   ·rename_i h;unfold h0 at e;rw[h]at e;simp at e
   ·rename_i h;unfold h0 at e;rw[h]at e;simp at e
   ·rename_i h;unfold h0 at e;rw[h]at e;simp at e
   ·simp
   ·split<;>simp
  have c:=c.resolve_left C;have H:∀o∈n.operands,ay G a o=ay G K o:=λo M=>d.op o (by grind);refine .sJ n p E args t F m z q (by rw[d.wanted];exact i) f (by grind[Ly]) x (n4.ag c.1 (λg L b off h=>?_) v) s l y;grind[U3,lA.of]
 |sK n p args m J q i f e s=>
  grind[az,h0]
theorem LD{d:AV}(c:az P A cg B=.hO)(a:aT P G A K B.dst B.op=T (d,j)):j.env=K.env:=by
 have:=Lx (P:=P) (G:=G) (A:=A) (cg:=cg) (B:=B) (K:=K) (j:=K) (λ_ _=>rfl) rfl rfl c;rw[a]at this;simp[lB]at this;have b:=congrArg AS.env this;exact b
theorem CW(q:dO P G An X cg A r B K j)(F:az P A cg B≠.box):
 ∃b g k,j=dJ B.dst b {K with hp:=g,bx:=k}/\∀a,Ag r B K a->a.hp=K.hp->a.bx=K.bx->dO P G An X cg A r B a (dJ B.dst b {a with hp:=g,bx:=k}):=by
 have rd:(az P A cg B=.pure\/az P A cg B=.rd)->∃b g k,j=dJ B.dst b {K with hp:=g,bx:=k}/\∀a,Ag r B K a->a.hp=K.hp->a.bx=K.bx->dO P G An X cg A r B a (dJ B.dst b {a with hp:=g,bx:=k}):=by
  intro y;obtain⟨b,u,n,_⟩:=n6 q y;refine⟨b,K.hp,K.bx,u,λa d e f=>?_⟩;have:=n a d (.inr ⟨e,λQ _=>by rw[f]⟩);rw[<-e,<-f];exact this
 cases t:az P A cg B with
 |pure=>grind
 |rd=>grind
 |box=>grind
 |hO=>
  cases q with
  |skip i=>exact⟨.aE [],K.hp,K.bx,rfl,λa d e f=>by rw[<-e,<-f];exact .skip (by rw[d.wanted];exact i)⟩
  |op l i h=>
   obtain⟨b,c⟩:=l;have s:=LD t h;refine⟨b,c.hp,c.bx,?_,λa d e f=>?_⟩
   ·have:c={K with hp:=c.hp,bx:=c.bx}:=by cases c;simp at s;simp[s]
    rw[<-this];rfl
   ·have n:=Lx (G:=G) (A:=A) d.op e f t
    rw[h]at n;have v:aT P G A a B.dst B.op=T (b,{a with hp:=c.hp,bx:=c.bx}):=by rw[n];rfl
    exact .op (b,{a with hp:=c.hp,bx:=c.bx}) (by rw[d.wanted];exact i) v
  |sJ m p R args z S l M e i h w I E x N J=>
   grind[az,h0]
  |sK m p args l g e i h w x=>
   refine⟨l.pl,g,K.bx,rfl,λa d H f=>?_⟩;have L:B.op.operands=m.operands:=by rw[h];rfl
   have C:∀o∈m.operands,ay G a o=ay G K o:=λo O=>d.op o (by grind);have:=dO.sK (P:=P) (G:=G) (An:=An) (X:=X) (A:=A) (ops:=r) (o:=B) (s:=a) m p args l g e (by rw[d.wanted];exact i) h (by grind[Ly]) (by grind);rw[<-f];exact this
theorem w3(q:dO P G An X cg A r B K j)(e:az P A cg B=.box)(z:B.guard=D):
 ∃a g,B.dst=T a/\j={env:=put a (.lp a 0) (m7 a K.env),bx:=put a g K.bx,hp:=K.hp}/\∀b,Ag r B K b->dO P G An X cg A r B b {env:=put a (.lp a 0) (m7 a b.env),bx:=put a g b.bx,hp:=b.hp}:=by
 have l:∀b,fu r b B=T true:=by grind[fu]
 cases q with
 |skip i=>grind
 |op m i c=>
  unfold az at e;generalize F:B.op=op at e c;cases op<;>simp only[reduceCtorEq]at e
  case alloc o=>
   split at e
   ·rename_i h
    simp only[aT]at c;split at c
    ·rename_i g a M d
     have u:a∈A.lb:=by simpa[d]using h
     split at c
     ·rename_i w
      simp at c;subst c;refine⟨a,g,d,by simp[fD,d],λb k=>?_⟩;have:=dO.op (P:=P) (G:=G) (An:=An) (X:=X) (hc:=cg) (A:=A) (ops:=r) (o:=B) (s:=b) (.lp a 0,{env:=m7 a b.env,bx:=put a g b.bx,hp:=b.hp}) (l b) (by simp_all[aT]);grind[fD]
     grind
    grind
   grind
  case box o f=>
   split at e
   ·rename_i h
    simp only[aT]at c;split at c
    ·rename_i a d
     have u:a∈A.lb:=by simpa[d]using h
     split at c
     ·rename_i w
      simp at c;subst c;refine⟨a,(ay G K f).pl.cells,d,by simp[fD,d],λb k=>?_⟩;have L:ay G b f=ay G K f:=k.op f (by grind[Op.operands]);have:=dO.op (P:=P) (G:=G) (An:=An) (X:=X) (hc:=cg) (A:=A) (ops:=r) (o:=B) (s:=b) (.lp a 0,{env:=m7 a b.env,bx:=put a (ay G K f).pl.cells b.bx,hp:=b.hp}) (l b) (by simp_all[aT]);grind[fD]
     grind
    grind
   grind
  case assign=>grind
  case buildSlice=>grind
  case slice=>grind
  grind[yy]
 |sJ n p N args x O m I t i c s C y v J E=>
  grind[az,yy]
 |sK n p args m H t i c s v=>
  grind[az,yy]
def tW(P:Program)(A:bQ)(c:Oper->Bool)(d:Array Oper)(a b:Oper):Bool:=
 Oper.apart d a b&&
 match az P A c a,az P A c b with
 |.pure,.box=>b.guard.isNone
 |.rd,.box=>b.guard.isNone
 |.box,.pure=>a.guard.isNone
 |.box,.rd=>a.guard.isNone
 |.box,.box=>a.guard.isNone&&b.guard.isNone
 |.pure,_=>ab
 |_,.pure=>ab
 |.rd,.rd=>ab
 |_,_=>aa
def w4(P:Program)(A:bQ)(c:Oper->Bool)(b:Oper)(d:AS):Prop:=az P A c b=.box->∀a,b.dst=T a->h6 a d.env=ab
theorem CX{c:Oper}(e:∀a,B.dst=T a->a∉c.looksAt r)(d:AV)(b:AS):Ag r c b (dJ B.dst d b):=λg f=>
 by grind[tU]
theorem Ag.symm(a:Ag r B K j):Ag r B j K:=λc b=>(a c b).symm
theorem swap{b:Oper}(q:dO P G An X cg A r B K j)(o:dO P G An X cg A r b j jX)(z:tW P A cg r B b=ab)(F:w4 P A cg B K)(H:w4 P A cg b K):
 ∃e,dO P G An X cg A r b K e/\dO P G An X cg A r B e jX:=by
 unfold tW at z;rw[bG]at z;obtain⟨Q,au⟩:=z;obtain⟨x,ah,ak⟩:=Oper.apart_spec Q;have plain:az P A cg B≠.box->az P A cg b≠.box->(az P A cg B=.pure\/az P A cg b=.pure\/az P A cg B=.rd/\az P A cg b=.rd)->∃e,dO P G An X cg A r b K e/\dO P G An X cg A r B e jX:=by
  intro ac ad U;rcases U with hp|hp|⟨hp,v⟩
  ·obtain⟨l,rfl,i,_⟩:=n6 q (.inl hp)
   obtain⟨h,M,E,rfl,k⟩:=CW o ad;refine⟨_,k K (CX x l K).symm (by rw[p0]) (by rw[p1]),?_⟩;have:=i (dJ b.dst h {K with hp:=M,bx:=E}) (λc f=>by grind[tU]) (.inl hp);grind[CV,Gk]
  ·obtain⟨l,M,E,rfl,i⟩:=CW q ac
   obtain⟨h,rfl,k,_⟩:=n6 o (.inl hp);refine⟨_,k K (λc f=>by grind[tU]) (.inl hp),?_⟩;have:=i (dJ b.dst h K) (λc f=>by grind[tU]) (by rw[p0]) (by rw[p1]);grind[Gk,CV]
  ·obtain⟨l,rfl,i,_⟩:=n6 q (.inr hp)
   obtain⟨h,rfl,k,_⟩:=n6 o (.inr v);refine⟨_,k K (CX x l K).symm (by grind[p0,p1]),?_⟩;have:=i (dJ b.dst h K) (λc f=>by grind[tU]) (by grind[p0,p1]);grind[CV]
 have aq:az P A cg B=.box->B.guard=D->(az P A cg b=.pure\/az P A cg b=.rd)->∃e,dO P G An X cg A r b K e/\dO P G An X cg A r B e jX:=by
  intro m t v;obtain⟨a,n,s,rfl,i⟩:=w3 q m t;have g:=F m a s;rw[oS g]at o;obtain⟨h,rfl,k,C⟩:=n6 o v;have L:∀c∈b.looksAt r,look c (put a (AV.lp a 0) K.env)=look c K.env:=by grind[fc]
  have u:∀c,lA r b {env:=put a (AV.lp a 0) K.env,bx:=put a n K.bx,hp:=K.hp} c->c≠a:=by
   rintro c ⟨N,J,off,w⟩ rfl;rw[L N J]at w;exact yA g w
  have V:h.gE a=false:=by
   cases y:h.gE a
   ·rfl
   ·exact absurd rfl (u a (C a y))
  refine⟨_,k K (λc f=>(L c f).symm) (.inr ⟨rfl,λc f=>by rw[fc,if_neg (u c f)]⟩),?_⟩;have:=i (dJ b.dst h K) (λc f=>by grind[tU]);have p:h6 a (dJ b.dst h K).env=true:=by
   cases Z:b.dst with
   |none=>exact g
   |some d=>exact vy V g
  rw[oS p,p1,p0]at this;have d:({env:=put a (.lp a 0) (dJ b.dst h K).env,bx:=put a n K.bx,hp:=K.hp}:AS)=dJ b.dst h {env:=put a (.lp a 0) K.env,bx:=put a n K.bx,hp:=K.hp}:=by
   cases Z:b.dst with
   |none=>rfl
   |some d=>
    grind[dJ,fD,yz]
  rw[d]at this;exact this
 have af:az P A cg b=.box->b.guard=D->(az P A cg B=.pure\/az P A cg B=.rd)->∃e,dO P G An X cg A r b K e/\dO P G An X cg A r B e jX:=by
  intro m t v;obtain⟨l,rfl,i,C⟩:=n6 q v;obtain⟨a,n,s,rfl,k⟩:=w3 o m t;have g:=H m a s;have u:∀c,lA r B K c->c≠a:=by
   rintro c ⟨N,J,off,w⟩ rfl;exact yA g w
  have W:l.gE a=false:=by
   cases y:l.gE a
   ·rfl
   ·exact absurd rfl (u a (C a y))
  have p:h6 a (dJ B.dst l K).env=true:=by
   cases Y:B.dst with
   |none=>exact g
   |some d=>exact vy W g
  have O:=k K (CX x l K).symm;refine⟨_,O,?_⟩;rw[oS p,p1,p0];rw[oS g];have:=i {env:=put a (.lp a 0) K.env,bx:=put a n K.bx,hp:=K.hp} (λc f=>by grind[fc]) (.inr ⟨rfl,λc f=>by rw[fc,if_neg (u c f)]⟩);have d:({env:=put a (.lp a 0) (dJ B.dst l K).env,bx:=put a n K.bx,hp:=K.hp}:AS)=dJ B.dst l {env:=put a (.lp a 0) K.env,bx:=put a n K.bx,hp:=K.hp}:=by
   cases Y:B.dst with
   |none=>rfl
   |some d=>
    grind[dJ,fD,yz]
  rw[d];exact this
 have ar:az P A cg B=.box->az P A cg b=.box->B.guard=D->b.guard=D->∃e,dO P G An X cg A r b K e/\dO P G An X cg A r B e jX:=by
  intro m I t S;obtain⟨a,n,s,rfl,i⟩:=w3 q m t;obtain⟨d,ae,R,rfl,k⟩:=w3 o I S;have g:=F m a s;have p:=H I d R;have ax:a≠d:=by grind
  refine⟨_,k K (λc f=>?_),?_⟩
  ·rw[oS g]
   grind[fc]
  ·have:=i {env:=put d (AV.lp d 0) (m7 d K.env),bx:=put d ae K.bx,hp:=K.hp} (λc f=>by
    rw[oS p];grind[fc])
   simp only[oS g,oS p]at this⊢;have aB:h6 a (put d (AV.lp d 0) K.env)=true:=vy (by grind[AV.gE]) g;have aQ:h6 d (put a (AV.lp a 0) K.env)=true:=by grind[vy,AV.gE]
   simp_all[oS,yz,Kb]
 grind[Option.isNone_iff_eq_none]
end
section
variable{P:Program}{G:Nat->Option (List AV)}{An:Nat->bQ}{X:eD}{A:bQ}
theorem LF{c e b:AV}(a:mn P K t c e=T (b,j))(d:Nat):b.gE d=false:=by
 unfold mn at a
 repeat' split at a
 all_goals first|(simp at a;done)|(simp at a;rw[<-a.1];rfl)
theorem U9{k:AV}(c:az P A cg B=.hO)(a:aT P G A K B.dst B.op=T (k,j))(p:Nat):k.gE p=false:=by
 unfold az at c;generalize u:B.op=op at a c;cases op<;>simp only[reduceCtorEq]at c
 case assign d=>
  simp only[aT]at a;split at a
  ·split at a<;>simp at a<;>rw[<-a.1]<;>rfl
  grind[qU]
 case buildSlice b z C=>
  simp only[aT]at a;unfold rS at a
  repeat' split at a
  all_goals first|(simp at a;done)|(simp at a;rw[<-a.1];rfl)
 case slice b d x s y=>
  simp only[aT]at a;split at a
  ·grind
  ·unfold ju yn eL at a
   repeat' split at a
   all_goals first|(simp at a;done)|(simp at a;rw[<-a.1];rfl)
 case alloc m=>
  split at c
  ·simp at c
  ·rename_i g
   simp only[aT]at a;split at a
   ·rename_i H e v f
    have n:e∉A.lb:=by simpa[f]using g
    split at a
    ·simp at a;rw[<-a.1];rfl
    ·simp at a
   ·simp at a
 case box m d=>
  split at c
  ·simp at c
  ·rename_i g
   split at c
   ·rename_i o
    simp only[aT]at a;split at a
    ·rename_i e f
     have n:e∉A.lb:=by simpa[f]using g
     have t:e∈A.own:=by simpa[f]using o
     split at a
     ·simp at a;rw[<-a.1];rfl
     ·simp at a
    ·simp at a
   grind
 case makeMap b E=>
  simp only[aT]at a;split at a<;>simp at a;rw[<-a.1];rfl
 case makeSlice b w l=>
  simp only[aT]at a;unfold wQ at a
  repeat' split at a
  all_goals first|(simp at a;done)|(simp at a;rw[<-a.1];rfl)
 case store b d F=>
  simp only[aT,dg,eC]at a;obtain⟨_,_,rfl,_⟩:=a;rfl
 case mapUpdate b i h d=>
  simp only[aT,dg,eC]at a;obtain⟨_,_,rfl,_⟩:=a;rfl
 case insert b i h d=>
  simp only[aT,dg,eC]at a;obtain⟨_,_,rfl,_⟩:=a;rfl
 case entryStore b i h d=>
  simp only[aT,dg,eC]at a;obtain⟨_,_,rfl,_⟩:=a;rfl
 case mapEntry b i h=>
  simp only[aT]at a;unfold wS at a
  repeat' split at a
  all_goals first|(simp at a;done)|(simp at a;rw[<-a.1];rfl)
 case call l=>
  simp only[aT]at a;split at a
  ·unfold jw at a
   split at a
   ·simp only[dg,eC]at a
    grind[LB]
   ·grind[LF]
   ·simp only[dg,eC]at a
    obtain⟨_,_,rfl,_⟩:=a;rfl
   ·grind
   ·grind
   ·simp at a
  ·simp at a
 case range b d=>
  simp only[aT]at a;split at a
  ·simp only[qQ,dg,eC]at a
   obtain⟨q,a,rfl,_⟩:=a;unfold tM at a;split at a<;>simp at a
   rw[<-a];rfl
  ·simp at a
 case next d r=>
  simp only[aT]at a;split at a
  ·simp only[qQ,dg,eC]at a
   obtain⟨q,a,rfl,_⟩:=a;unfold rU at a;split at a
   ·split at a
    ·split at a<;>simp at a<;>rw[<-a]<;>rfl
    ·simp at a
   ·simp at a
  ·simp at a
 all_goals simp[aT]at a
theorem LG(i:dO P G An X cg A r B K j)(t:az P A cg B=.box->B.guard=D)(J:B.dst≠T U)(d:h6 U K.env=ab):h6 U j.env=true:=by
 have put:∀(a:AV)(b:List (Nat×AV))(hp:List Obj)(bx:List (Nat×List AV)),a.gE U=aa->h6 U b=ab->h6 U (dJ B.dst a {env:=b,bx:=bx,hp:=hp}).env=true:=by
  intro a b hp bx y e;cases R:B.dst with
  |none=>exact e
  |some E=>exact vy y e
 cases c:az P A cg B with
 |pure=>
  obtain⟨a,rfl,_,m⟩:=n6 i (.inl c);refine put a _ _ _ ?_ d;cases l:a.gE U
  ·rfl
  ·obtain⟨C,_,off,v⟩:=m U l
   grind[absurd,yA]
 |rd=>
  obtain⟨a,rfl,_,m⟩:=n6 i (.inr c);refine put a _ _ _ ?_ d;cases l:a.gE U
  ·rfl
  ·obtain⟨C,_,off,v⟩:=m U l
   grind[absurd,yA]
 |box=>
  obtain⟨b,Y,e,rfl,_⟩:=w3 i c (t c);have N:b≠U:=by grind
  have hp:∀f:List (Nat×AV),h6 U f=ab->h6 U (m7 b f)=true:=by
   intro f;induction f with
   |nil=>intro _;rfl
   |cons F f z=>
    obtain⟨E,W⟩:=F;intro k;simp only[h6,bG,jt]at k;simp only[m7,h6,bG,jt];refine⟨?_,z k.2⟩;split
    ·rfl
    ·exact k.1
  grind[vy,AV.gE]
 |hO=>
  cases i with
  |skip n=>exact put _ _ _ _ rfl d
  |op g n h=>
   obtain⟨a,o⟩:=g;have e:=LD c h;have:=put a o.env o.hp o.bx (U9 c h U) (by rw[e];exact d);exact this
  |sJ p q S args H V g Q u n h s L I w x M=>exact put g _ _ _ (LC x U) d
  |sK p q args g O u n h s w=>exact put g.pl _ _ _ (qU _ _) d
variable(P G An X A)in
 inductive oT(hc:Oper->Bool)(ops:Array Oper):List Nat->AS->AS->Prop
 |nil (s:AS):oT hc ops [] s s
 |cons (i:Nat) (o:Oper) (rest:List Nat) (s s1 s':AS) (ho:ops[i]?=T o) (h:dO P G An X hc A ops o s s1) (t:oT hc ops rest s1 s'):oT hc ops (i::rest) s s'
theorem oT.ops:∀{c:List Nat}{a b:AS},oT P G An X A cg r c a b->mr P G An X A r (fO r c) a b
 |_,_,_,.nil a=>.nil _ _ _
 |_,_,_,.cons g h d a j b f e i=>by
  have:fO r (g::d)=h::fO r d:=by simp[fO,f]
  rw[this];exact e.cons (oT.ops i)
structure w5(P:Program)(A:bQ)(hc:Oper->Bool)(ops:Array Oper):Prop where
 guard:∀(i:Nat)(o:Oper),ops[i]?=T o->az P A hc o=.box->o.guard=D
 slot:∀(i j:Nat)(o o':Oper),ops[i]?=T o->ops[j]?=T o'->i≠j->az P A hc o=.box->∀d,o.dst=T d->o'.dst≠T d
def kN(P:Program)(A:bQ)(b:Oper->Bool)(e:Array Oper)(d:List Nat)(f:AS):Prop:=∀c∈d,∀a,e[c]?=T a->w4 P A b a f
def LH(P:Program)(A:bQ)(d:Oper->Bool)(a:Array Oper)(e f:Nat):Prop:=∀b c,a[e]?=T b->a[f]?=T c->tW P A d a b c=ab
theorem kN.step(c:w5 P A cg r)(n:U∉bu)(g:r[U]?=T B)(l:dO P G An X cg A r B K j)(m:kN P A cg r bu K):kN P A cg r bu j:=by
 intro a f i h d b e;have o:a≠U:=λk=>n (k▸f);exact LG l (c.guard U B g) (c.slot a U i B h g o d b e) (m a f i h d b e)
theorem LI(n:w5 P A cg r):∀{b l:List Nat}{c d:AS},U∉b->b.Nodup->(∀a∈b,LH P A cg r U a)->kN P A cg r (U::b) c->oT P G An X A cg r (U::(b++l)) c d->oT P G An X A cg r (b++U::l) c d
 |[],_,_,_,_,_,_,_,f=>f
 |a::b,l,c,d,B,s,p,g,f=>by
  cases f with
  |cons _ i _ _ H _ h u y=>
   cases y with
   |cons _ j _ _ x _ e v z=>
    obtain⟨k,m,o⟩:=swap u v (p a (by simp) i j h e) (g U (by simp) i h) (g a (by simp) j e);have t:=kf.1 s;have C:a≠U:=by grind
    have q:kN P A cg r (U::b) k:=kN.step n (bu:=U::b) (U:=a) (by grind) e m (λw E=>g w (by
     grind))
    exact .cons a j _ c k d e m (LI n (by grind) t.2 (by grind) q (.cons U i _ k x d h o z))
inductive n7(c:Nat->Nat->Prop):List Nat->List Nat->Prop
 |nil:n7 c [] []
 |cons (i:Nat) (L α β:List Nat) (hα:∀a∈α,c i a) (h:n7 c L (α++β)):n7 c (i::L) (α++i::β)
theorem n7.mem{d:Nat->Nat->Prop}:∀{b c:List Nat},n7 d b c->∀a,a∈c<->a∈b
 |_,_,.nil,a=>Iff.rfl
 |_,_,.cons f b g i e h,a=>by
  have:=n7.mem h a;simp only[c5,cf]at this⊢;constructor
  ·rintro(h|h|h)
   ·exact .inr (this.1 (.inl h))
   ·exact .inl h
   ·exact .inr (this.1 (.inr h))
  ·rintro(h|h)
   ·exact .inr (.inl h)
   ·rcases this.2 h with h|h
    ·exact .inl h
    ·exact .inr (.inr h)
theorem n7.run(b:w5 P A cg r):∀{a k:List Nat}{d g:AS},n7 (LH P A cg r) a k->k.Nodup->a.Nodup->kN P A cg r a d->oT P G An X A cg r a d g->oT P G An X A cg r k d g
 |_,_,_,_,.nil,_,_,_,h=>h
 |_,_,d,g,.cons e a q K F n,j,C,i,h=>by
  cases h with
  |cons _ I _ _ p _ m o J=>
   have l:=kf.1 C;have H:(q++K).Nodup:=by
    have:=j;rw[tE]at this⊢;obtain⟨u,v,w⟩:=this;exact⟨u,(kf.1 v).2,λs x t b=>w s x t (by simp[b])⟩
   have z:e∉q:=by
    rw[tE]at j;exactλB=>j.2.2 e B e (by simp) rfl
   have y:kN P A cg r a p:=kN.step b l.1 m o (λf c=>i f (by simp[c]));have E:=n7.run b n H l.2 y J;refine LI b z (by grind) F (λf c=>?_) (.cons e I _ d p g m o E);rcases cf.1 c with rfl|c
   ·exact i _ (by simp)
   ·exact i f (by simp[(n7.mem n f).1 (by simp[c])])
end
section
variable{P:Program}{G:Nat->Option (List AV)}{An:Nat->bQ}{X:eD}{A:bQ}
inductive n8(ops:Array Oper):Nat->Nat->Prop
 |gP (j:Nat) (o:Oper) (e:Edge) (ho:ops[j]?=T o) (he:e∈o.after) (hb:Region.binds .any e=ab):n8 ops e.on j
 |trans (i k j:Nat) (h:n8 ops i k) (h':n8 ops k j):n8 ops i j
def vz(a:Array Nat):List Edge->Nat
 |[]=>0
 |e::b=>if Region.binds .any e then(2^e.on|||a.getD e.on 0)|||vz a b else vz a b
def w6:List Oper->Array Nat->Array Nat
 |[],a=>a
 |o::b,a=>w6 b (a.push (vz a o.after.toList))
theorem LJ{d:Array Nat}(c:r[U]?=T B)(f:∀j a,(d.getD j 0).testBit a=ab->n8 r a j):∀{b:List Edge},(∀e∈b,e∈B.after)->∀a,(vz d b).testBit a=ab->n8 r a U
 |[],_,a,h=>by simp[vz]at h
 |e::b,i,a,h=>by
  simp only[vz]at h;have k:=LJ c f (b:=b) (by grind) a;split at h
  ·rename_i g
   rw[akO,akO]at h;simp only[kg]at h;rcases h with(h|h)|h
   ·rw[Nat.testBit_two_pow]at h
    simp at h;subst h;exact .gP U B e c (i e (by simp)) g
   ·exact .trans a e.on U (f _ _ h) (.gP U B e c (i e (by simp)) g)
   grind
  grind
theorem Gm:∀(d:List Oper)(b:Array Nat),(∀a,d[a]?=r[b.size+a]?)->(∀a c,(b.getD a 0).testBit c=ab->n8 r c a)->∀a c,((w6 d b).getD a 0).testBit c=ab->n8 r c a
 |[],b,_,f=>f
 |o::d,b,g,f=>by
  simp only[w6];have i:r[b.size]?=T o:=by have:=g 0;simpa using this.symm
  refine Gm d _ (λa=>by have:=g (a+1);grind) (λa c h=>?_);rcases Cj a b.size with e|e|e
  ·simp_all[Array.getElem?_push,Nat.ne_of_lt]
  ·subst e
   have:(b.push (vz b o.after.toList)).getD b.size 0=vz b o.after.toList:=by simp
   grind[LJ]
  grind
def CY(P:Program)(A:bQ)(e:Oper->Bool)(a:Array Oper):Bool:=
 let g:=w6 a.toList #[]
 (List.range a.size).all λd=>(List.range a.size).all λc=>
  match a[c]?,a[d]? with
  |some b,T f=>(!S (c<d)||(g.getD d 0).testBit c||tW P A e a b f)&&
   (!S (az P A e b=.box)||(b.guard.isNone&&(S (c=d)||b.dst.isNone||b.dst !=f.dst)))
  |_,_=>ab
theorem Va{done:List Nat}(i:r[U]?=T B)(g:∀a∈B.after,Region.binds .any a=ab->a.on∈done)(f:∀c∈done,∀O,n8 r O c->O∈done)(b:n8 r O y):y=U->O∈done:=by
 induction b with
 |gP y n a j h e=>
  grind
 |trans O m y b d k l=>
  grind
theorem Gn:∀{f done:List Nat},n5 r done f->(∀b∈done,∀a,n8 r a b->a∈done)->∀d b e,f=d++b::e->∀a,n8 r a b->a∈done\/a∈d
 |[],_,_,_,d,b,e,c,_,_=>by simp at c
 |y::o,done,h,k,d,b,e,c,a,g=>by
  obtain⟨_,⟨p,m,l⟩,i⟩:=h;have n:∀a,n8 r a y->a∈done:=by grind[Va]
  cases d with
  |nil=>
   grind
  |cons q j=>
   simp at c;obtain⟨rfl,c⟩:=c;rcases Gn i (by grind) j b e c a g with h1|h1
   ·grind
   grind
theorem Gp:∀{b done:List Nat},n5 r done b->b.Nodup/\(∀a∈b,a∉done)/\∀a,a<r.size->a∈done\/a∈b
 |[],done,c=>⟨.nil,by simp,λa e=>.inl (c a e)⟩
 |y::j,done,c=>by
  obtain⟨i,_,d⟩:=c;obtain⟨f,g,h⟩:=Gp d;grind
theorem LL{l:Nat->Nat->Prop}:∀(a c:List Nat),a.Pairwise (· <·)->c.Nodup->(∀b,b∈c<->b∈a)->(∀i∈a,∀b∈a,i<b->l i b\/n8 r i b)->(∀f e j,c=f++e::j->∀i∈a,n8 r i e->i∈f)->n7 l a c
 |[],c,_,_,g,_,_=>by
  have:c=[]:=by simp_all[Tx]
  subst this;exact .nil
 |i::a,c,x,v,g,o,I=>by
  have q:=zU.1 x;have F:i∉a:=by grind
  obtain⟨k,s,rfl⟩:=Cn ((g i).2 (by simp));have p:=v;rw[tE]at p;obtain⟨K,A,M⟩:=p;have L:=kf.1 A;have G:i∉k:=by grind
  refine .cons i a k s (λd m=>?_) (LL a (k++s) q.2 ?_ (λb=>?_) (λe y C z=>o e (by simp[y]) C (by simp[z])) ?_)
  ·have n:d∈i::a:=(g d).1 (by simp[m])
   have w:d≠i:=by grind
   have u:d∈a:=by
    rcases cf.1 n with h|h
    ·exact absurd h w
    ·exact h
   rcases o i (by simp) d n (q.1 d u)with h|h
   ·exact h
   ·exfalso
    obtain⟨f,j,rfl⟩:=Cn m;grind
  ·grind
  ·grind
  ·intro f e j h J H E
   rcases List.append_eq_append_iff.1 h with⟨N,rfl,t⟩|⟨B,rfl,t⟩
   ·grind
   ·cases B with
    |nil=>
     grind
    |cons P O=>
     grind
theorem Vb(q:CY P A cg r=ab)(B:kN P A cg r (List.range r.size) K)(h:oT P G An X A cg r (List.range r.size) K j):∀i,n5 r [] i->mr P G An X A r (fO r i) K j:=by
 intro i s;have o:∀a b c d,r[a]?=T c->r[b]?=T d->(a<b->((w6 r.toList #[]).getD b 0).testBit a=ab\/tW P A cg r c d=ab)/\(az P A cg c=.box->c.guard=D/\(a≠b->c.dst=D\/c.dst≠d.dst)):=by
  intro a b c d m n;have e:a<r.size:=(oI.1 m).1;have l:b<r.size:=(oI.1 n).1;unfold CY at q;simp only[fi]at q;have:=q b (la.2 l) a (la.2 e);simp only[m,n,bG,kg,jt,decide_eq_false_iff_not,decide_eq_true_eq,Kl,bne_iff_ne,ne_eq]at this;refine⟨λu=>?_,λt=>?_⟩
  ·grind
  ·grind
 obtain⟨x,M,J⟩:=Gp s;have C:∀b,b∈i<->b∈List.range r.size:=λb=>⟨λh=>la.2 (Au s b h),λh=>(J b (la.1 h)).resolve_left (by simp)⟩;have t:w5 P A cg r:={
  guard:=λa g f p=>((o a a g g f f).2 p).1
  slot:=λa b g w f v E p L k=>by
   have:=((o a b g w f v).2 p).2 E;rcases this with h|h
   ·rw[k]at h;cases h
   ·rw[k]at h;exactλy=>h y.symm}
 refine(n7.run t (LL (r:=r) _ i (Km) x C ?_ ?_) x Fz B h).ops
 ·intro a e b l u
  obtain⟨c,m⟩:∃c,r[a]?=T c:=⟨r[a]'(la.1 e),by simp[la.1 e]⟩;obtain⟨d,n⟩:∃d,r[b]?=T d:=⟨r[b]'(la.1 l),by simp[la.1 l]⟩;rcases((o a b _ _ m n).1 u)with h|h
  ·exact .inr (Gm r.toList #[] (λF=>by simp) (λF a h=>by simp at h) b a h)
  ·refine .inl λg w f v=>?_
   grind
 ·intro H c I z a e k
  exact(Gn s (by simp) H c I z a k).resolve_left (by simp)
end
variable{mY:Nat -> Nat -> Bool}
section
variable{P:Program}{G:Nat->Option (List AV)}{An:Nat->bQ}{X:eD}{A:bQ}
def Gq(b:Oper):Bool:=
 match b.op with
 |.call a=>match a.callee with|.builtin .append=>ab|_=>aa
 |_=>aa
theorem LM{b a e:AV}(g:j.hp=K.hp)(c:mn P K t b a=T (e,jX)):jX={K with hp:=jX.hp}/\mn P j t b a=T (e,{j with hp:=jX.hp}):=by
 have f:∀d,mm j d a=mm K d a:=by simp_all[mm]
 unfold mn at c⊢;simp only[f,g]
 repeat' split at c
 all_goals grind
theorem Vc(C:dO P G An X cg A r B K j)(e:Gq B=ab):
 ∃c p,j=dJ B.dst c {K with hp:=p}/\(∀q,c.gE q=aa)/\∀b,Ag r B K b->b.hp=K.hp->dO P G An X cg A r B b (dJ B.dst c {b with hp:=p}):=by
 unfold Gq at e;split at e
 case h_2=>cases e
 case h_1 d S=>
 split at e
 case h_2=>cases e
 case h_1 O=>
 cases C with
 |skip i=>exact⟨.aE [],K.hp,rfl,λ_=>rfl,λb l h=>by rw[<-h];exact .skip (by rw[l.wanted];exact i)⟩
 |op s i a=>
  obtain⟨c,f⟩:=s;have t:∀b:AS,aT P G A b B.dst B.op=jw P b .append d.argTypes.toList (d.args.toList.map (ay G b)):=by simp_all[aT]
  have key:∃m n g k,d.argTypes.toList=[m,n]/\d.args.toList.map (ay G K)=[g,k]/\pT P n=ab/\mn P K m g k=T (c,f):=by
   rw[t K]at a;generalize d.argTypes.toList=L at a⊢;generalize d.args.toList.map (ay G K)=u at a⊢
   match L,u,a with
   |[m,n],[g,k],a=>
    grind[jw]
   |[],_,a=>simp[jw]at a
   |[_],_,a=>simp[jw]at a
   |_::_::_::_,_,a=>simp[jw]at a
   |[_,_],[],a=>simp[jw]at a
   |[_,_],[_],a=>simp[jw]at a
   |[_,_],_::_::_::_,a=>simp[jw]at a
  obtain⟨m,n,g,k,w,x,y,o⟩:=key;refine⟨c,f.hp,?_,λq=>LF o q,λb l h=>?_⟩
  ·have:=(LM (j:=K) rfl o).1
   show fD B.dst (c,f)=fD B.dst (c,{K with hp:=f.hp});grind
  ·have E:=(LM h o).2
   have H:d.args.toList.map (ay G b)=[g,k]:=by
    rw[<-x];exact rO λM W=>l.op M (by grind[Op.operands,Call.operands])
   have F:aT P G A b B.dst B.op=T (c,{b with hp:=f.hp}):=by
    rw[t b,w,H];simp only[jw,y,if_true];exact E
   exact .op (c,{b with hp:=f.hp}) (by rw[l.wanted];exact i) F
 |sJ v z Y args N Z s U h i J I Q e a V R=>
  grind[h0]
 |sK v z args s p h i J I a=>
  grind[h0]
abbrev Tr:=List (Nat×List Obj×List (Nat×List AV))
variable(P G An X A)in
 inductive oU(hc:Oper->Bool)(ops:Array Oper):List Nat->Tr->AS->AS->Prop
 |nil (s:AS):oU hc ops [] [] s s
 |still (i:Nat) (o:Oper) (rest:List Nat) (tr:Tr) (s s1 s':AS) (ho:ops[i]?=T o) (h:dO P G An X hc A ops o s s1) (hq:az P A hc o≠.hO) (t:oU hc ops rest tr s1 s'):oU hc ops (i::rest) tr s s'
 |w7 (i:Nat) (o:Oper) (rest:List Nat) (tr:Tr) (s s1 s':AS) (ho:ops[i]?=T o) (h:dO P G An X hc A ops o s s1) (hq:az P A hc o=.hO) (t:oU hc ops rest tr s1 s'):oU hc ops (i::rest) ((i,s1.hp,s1.bx)::tr) s s'
variable(P G An X A)in
 inductive tX(hc:Oper->Bool)(ops:Array Oper)(dyn:Nat->Nat->Bool):List Nat->Tr->AS->AS->Prop
 |nil (s:AS):tX hc ops dyn [] [] s s
 |still (i:Nat) (o:Oper) (rest:List Nat) (tr:Tr) (s s1 s':AS) (ho:ops[i]?=T o) (h:dO P G An X hc A ops o s s1) (hq:az P A hc o≠.hO) (t:tX hc ops dyn rest tr s1 s')
  (hst:∀e∈tr,dyn i e.1=ab->∃v,s1=dJ o.dst v s/\dO P G An X hc A ops o {s with hp:=e.2.1,bx:=e.2.2} (dJ o.dst v {s with hp:=e.2.1,bx:=e.2.2})):tX hc ops dyn (i::rest) tr s s'
 |w7 (i:Nat) (o:Oper) (rest:List Nat) (tr:Tr) (s s1 s':AS) (ho:ops[i]?=T o) (h:dO P G An X hc A ops o s s1) (hq:az P A hc o=.hO) (t:tX hc ops dyn rest tr s1 s'):tX hc ops dyn (i::rest) ((i,s1.hp,s1.bx)::tr) s s'
theorem oU.ops:∀{j:List Nat}{i:Tr}{b c:AS},oU P G An X A cg r j i b c->mr P G An X A r (fO r j) b c
 |_,_,_,_,.nil b=>.nil _ _ _
 |_,_,_,_,.still f g a i b l c e d k h=>by
  have:fO r (f::a)=g::fO r a:=by simp[fO,e]
  rw[this];exact d.cons (oU.ops h)
 |_,_,_,_,.w7 f g a i b l c e d k h=>by
  have:fO r (f::a)=g::fO r a:=by simp[fO,e]
  rw[this];exact d.cons (oU.ops h)
def lW(bk:Nat->Prop)(d e:Tr):Prop:=∀b∈e,∃a∈d,a.1=b.1/\a.2.1=b.2.1/\∀c,¬bk c->look c a.2.2=look c b.2.2
theorem lW.refl(bk:Nat->Prop)(a:Tr):lW bk a a:=λb c=>by grind
variable{m0:Tr}
theorem lW.trans{bk:Nat->Prop}{a b:Tr}(g:lW bk m0 a)(h:lW bk a b):lW bk m0 b:=λc e=>by
 obtain⟨d,f,i,j,k⟩:=h c e;obtain⟨l,p,m,n,o⟩:=g d f;grind
theorem lW.mono{bk b:Nat->Prop}{a:Tr}(k:∀c,bk c->b c)(f:lW bk m0 a):lW b m0 a:=λd e=>by
 obtain⟨g,l,h,i,j⟩:=f d e;grind
theorem lW.cons{bk:Nat->Prop}{a:Tr}(b:Nat×List Obj×List (Nat×List AV))(d:lW bk m0 a):lW bk (b::m0) (b::a):=λc hf=>by
 rcases cf.1 hf with rfl|hf
 ·grind
 ·obtain⟨e,g,f⟩:=d c hf
  grind
def CZ(P:Program)(A:bQ)(c:Oper->Bool)(f:Array Oper)(e:List Nat)(b:Nat):Prop:=∃d∈e,∃a,f[d]?=T a/\az P A c a=.box/\a.dst=T b
def Av(P:Program)(A:bQ)(b:Oper->Bool)(d:Array Oper)(e:Nat->Nat->Bool)(f g:Nat)(a c:Oper):Bool:=
 tW P A b d a c||(Oper.apart d a c&&S (az P A b c=.hO)&&(((S (az P A b a=.pure)||S (az P A b a=.rd))&&e f g)||(S (az P A b a=.box)&&a.guard.isNone&&Gq c)))
def LN(P:Program)(A:bQ)(g:Oper->Bool)(a:Array Oper)(f:Nat->Nat->Bool)(b c:Nat):Prop:=∀d e,a[b]?=T d->a[c]?=T e->Av P A g a f b c d e=ab
def vA(P:Program)(G:Nat->Option (List AV))(An:Nat->bQ)(X:eD)(A:bQ)(d:Oper->Bool)(f:Array Oper)(i:Nat->Nat->Bool)(j:Nat)(a:Oper)(g k:AS)(l:Tr):Prop:=
 (az P A d a=.pure\/az P A d a=.rd)->∃h,k=dJ a.dst h g/\∀c∈l,i j c.1=ab->∀b,Ag f a g b->b.hp=c.2.1->(∀e,lA f a g e->look e b.bx=look e c.2.2)->dO P G An X d A f a b (dJ a.dst h b)
theorem Ag.trans(c:Ag r B K j)(d:Ag r B j jX):Ag r B K jX:=λb a=>(d b a).trans (c b a)
theorem LO(a:dO P G An X cg A r B K j)(b:az P A cg B=.pure\/az P A cg B=.rd):j.hp=K.hp/\j.bx=K.bx:=by
 obtain⟨c,rfl,_⟩:=n6 a b;grind[p0,p1]
theorem Vd{a:Oper}(g:Av P A cg r mY U O B a=ab)(v:dO P G An X cg A r B K j)(k:dO P G An X cg A r a j jX)(s:w4 P A cg B K)(z:w4 P A cg a K)
 (f:vA P G An X A cg r mY U B K j m0)(Y:az P A cg a=.hO->(O,jX.hp,jX.bx)∈m0):
 ∃h,dO P G An X cg A r a K h/\dO P G An X cg A r B h jX/\
  (az P A cg a=.hO->h.hp=jX.hp/\∀c,¬(az P A cg B=.box/\B.dst=T c)->look c h.bx=look c jX.bx)/\(az P A cg B=.hO->jX.hp=j.hp/\jX.bx=j.bx):=by
 unfold Av at g;rw[kg]at g;rcases g with d|g
 ·obtain⟨h,C,l⟩:=swap v k d s z
  refine⟨h,C,l,λo=>?_,λo=>?_⟩
  ·have hp:az P A cg B=.pure:=by
    unfold tW at d;rw[bG]at d;have:=d.2;rw[o]at this;cases H:az P A cg B<;>simp[H]at this⊢
   grind[LO]
  ·have hp:az P A cg a=.pure:=by
    unfold tW at d;rw[bG]at d;have:=d.2;rw[o]at this;cases I:az P A cg a<;>simp[I]at this⊢
   grind[LO]
 ·simp only[bG,kg,decide_eq_true_eq]at g
  obtain⟨⟨E,J⟩,V⟩:=g;obtain⟨x,ad,ae⟩:=Oper.apart_spec E;rcases V with⟨W,n⟩|⟨⟨t,L⟩,F⟩
  ·obtain⟨ac,rfl,N⟩:=f W
   obtain⟨i,e,y,rfl,m⟩:=CW k (by grind);have u:=Y J;rw[p0,p1]at u;refine⟨_,m K (CX x ac K).symm (by rw[p0]) (by rw[p1]),?_,by grind[p0,p1],by grind⟩;have:=N _ u n (dJ a.dst i {K with hp:=e,bx:=y}) (λc f=>by grind[tU]) (by rw[p0]) (by grind[p1]);grind[CV,Gk]
  ·have M:B.guard=none:=by simpa using L
   obtain⟨b,w,n,rfl,l⟩:=w3 v t M;have p:=s t b n;rw[oS p]at k;obtain⟨i,e,rfl,R,m⟩:=Vc k F;have Q:∀c∈a.looksAt r,look c (put b (AV.lp b 0) K.env)=look c K.env:=by grind[fc]
   refine⟨_,m K (λc f=>(Q c f).symm) rfl,?_,λ_=>⟨by simp[p0],λc f=>?_⟩,by grind⟩
   ·have:=l (dJ a.dst i {K with hp:=e}) (λc f=>by grind[tU])
    have S:h6 b (dJ a.dst i {K with hp:=e}).env=true:=by
     cases Z:a.dst with
     |none=>exact p
     |some q=>exact vy (R b) p
    rw[oS S,p1,p0]at this;have q:({env:=put b (.lp b 0) (dJ a.dst i {K with hp:=e}).env,bx:=put b w K.bx,hp:=e}:AS)=dJ a.dst i {env:=put b (.lp b 0) K.env,bx:=put b w K.bx,hp:=e}:=by
     cases Z:a.dst with
     |none=>rfl
     |some q=>
      grind[dJ,fD,yz]
    grind
   ·simp only[p1]
    grind[fc]
end
variable{m0:Tr}
section
variable{P:Program}{G:Nat->Option (List AV)}{An:Nat->bQ}{X:eD}{A:bQ}
theorem Ve{d c:AV}(e:dJ ez d K=dJ ez c K)(b:AS):dJ ez d b=dJ ez c b:=by
 cases ez with
 |none=>rfl
 |some ez=>
  have a:=congrArg (λK:AS=>look ez K.env) e;simp only[dJ,fD,fc,if_true,eK]at a;rw[a]
theorem LP(b:dO P G An X cg A r B K j)(f:az P A cg B=.box->B.guard=D)(e:w4 P A cg B K)(h:B.dst≠T U):look U j.env=look U K.env:=by
 by_cases a:az P A cg B=.box
 ·obtain⟨c,l,d,rfl,_⟩:=w3 b a (f a)
  rw[oS (e a c d)];grind[fc]
 ·obtain⟨k,i,g,rfl,_⟩:=CW b a
  grind[tU]
theorem Gs(y:w5 P A cg r)(v:r[U]?=T B):∀{l s:List Nat}{k:Tr}{m d p:AS},U∉l->l.Nodup->(∀a∈l,LN P A cg r mY U a)->kN P A cg r (U::l) m->dO P G An X cg A r B m d->vA P G An X A cg r mY U B m d k->
 oU P G An X A cg r (l++s) k d p->∃n,oU P G An X A cg r (l++U::s) n m p/\lW (λj=>az P A cg B=.box/\B.dst=T j) (if az P A cg B=.hO then(U,d.hp,d.bx)::k else k) n
 |[],s,k,m,d,p,_,_,_,_,C,_,i=>by
  by_cases z:az P A cg B=.hO
  ·exact⟨_,.w7 U B s k m d p v C z i,by simp_all[lW.refl]⟩
  ·exact⟨_,.still U B s k m d p v C z i,by simp_all[lW.refl]⟩
 |a::l,s,k,m,d,p,W,be,V,M,C,Y,i=>by
  have bf:=kf.1 be;have ds:a≠U:=λc=>W (by simp[c]);have core:∀(b:Oper)(f:AS)(q:Tr),r[a]?=T b->dO P G An X cg A r b d f->(∀c∈q,c∈k)->(az P A cg b=.hO->(a,f.hp,f.bx)∈k)->oU P G An X A cg r (l++s) q f p->
   ∃e n,dO P G An X cg A r b m e/\oU P G An X A cg r (l++U::s) n e p/\lW (λj=>az P A cg B=.box/\B.dst=T j) (if az P A cg B=.hO then(U,d.hp,d.bx)::q else q) n/\
    (az P A cg b=.hO->e.hp=f.hp/\∀j,¬(az P A cg B=.box/\B.dst=T j)->look j e.bx=look j f.bx):=by
   intro b f q g w bi bv i;have ak:=M U (by simp) B v;have K:=M a (by simp) b g;have H:=V a (by simp) B b v g;obtain⟨e,t,u,x,R⟩:=Vd H C w ak K Y bv;have aq:Oper.apart r B b=true:=by
    unfold Av tW at H;simp only[kg,bG]at H;rcases H with h|h
    ·exact h.1
    ·exact h.1.1
   obtain⟨co,ac,ad⟩:=Oper.apart_spec aq;have S:Ag r B m e:=λj a9=>LP t (y.guard a b g) K (λc=>ad j c a9);have aB:kN P A cg r (U::l) e:=kN.step y (bu:=U::l) (U:=a) (by grind) g t (λI N=>M I (by
    grind))
   have a3:vA P G An X A cg r mY U B e f q:=by
    intro o;obtain⟨Z,af,ah⟩:=Y o;obtain⟨v2,Q,_⟩:=n6 u o;have aQ:w4 P A cg b d:=λau J F=>by
     refine LG C (y.guard U B v) ?_ (K au J F);grind
    have bw:∀E,dJ B.dst v2 E=dJ B.dst Z E:=by
     intro E;cases F:B.dst with
     |none=>rfl
     |some J=>
      have O:=LP w (y.guard a b g) aQ (λc=>ac J F c);rw[Q,af,F]at O;simp only[dJ,fD,fc,if_true,eK]at O;rw[O]
    refine⟨Z,by rw[Q,bw],λc z ax E br a0 ar=>?_⟩;refine ah c (bi c z) ax E (S.trans br) a0 λj a4=>ar j ?_;obtain⟨I,N,off,bb⟩:=a4;exact⟨I,N,off,by rw[S I N];exact bb⟩
   obtain⟨n,ce,d3⟩:=Gs y v (λc=>W (by simp[c])) bf.2 (λci b4=>V ci (by simp[b4])) aB u a3 i;refine⟨e,n,t,ce,?_,x⟩;by_cases z:az P A cg B=.hO
   ·grind
   ·grind
  rw[fm]at i;cases i with
  |still _ b _ _ _ f _ g w o i=>
   obtain⟨e,n,t,u,x,_⟩:=core b f k g w (λ_ h=>h) (λc=>absurd c o) i;exact⟨n,.still a b _ _ _ e _ g t o u,x⟩
  |w7 _ b _ q _ f _ g w o i=>
   obtain⟨e,n,t,u,x,R⟩:=core b f q g w (λc h=>by simp[h]) (λ_=>by simp) i;refine⟨_,.w7 a b _ _ _ e _ g t o u,?_⟩;obtain⟨d1,d2⟩:=R o;intro ae L;rcases cf.1 L with rfl|L
   ·grind
   ·obtain⟨c,cs,dl⟩:=x ae L
    grind
theorem Gt(g:w5 P A cg r):∀{c H:List Nat}{p:Tr}{i B:AS},n7 (LN P A cg r mY) c H->H.Nodup->c.Nodup->kN P A cg r c i->tX P G An X A cg r mY c p i B->
 ∃l,oU P G An X A cg r H l i B/\lW (CZ P A cg r c) p l
 |_,_,_,_,_,.nil,_,_,_,j=>by
  cases j
  exact⟨[],.nil _,lW.refl _ _⟩
 |_,_,p,i,B,.cons e c F be L x,u,ax,m,j=>by
  have q:=kf.1 ax;have M:(F++be).Nodup:=by
   have:=u;rw[tE]at this⊢;obtain⟨W,Y,Z⟩:=this;exact⟨W,(kf.1 Y).2,λO ac Q g=>Z O ac Q (by simp[g])⟩
  have J:e∉F:=by
   rw[tE]at u;exactλau=>u.2.2 e au e (by simp) rfl
  have I:kN P A cg r (e::F) i:=λf d=>by
   rcases cf.1 d with rfl|d
   ·exact m _ (by simp)
   ·exact m f (by simp[(n7.mem x f).1 (by simp[d])])
  have sub:∀a,CZ P A cg r c a->CZ P A cg r (e::c) a:=by
   rintro a ⟨f,d,j⟩;exact⟨f,by simp[d],j⟩
  have N:∀(b:Oper),r[e]?=T b->∀a,(az P A cg b=.box/\b.dst=T a)->CZ P A cg r (e::c) a:=λb h a j=>⟨e,by simp,b,h,j⟩;cases j with
  |still _ b _ p _ o _ k h w C a0=>
   have t:kN P A cg r c o:=kN.step g q.1 k h (λf d=>m f (by simp[d]));obtain⟨E,y,s⟩:=Gt g x M q.2 t C;have n:vA P G An X A cg r mY e b i o E:=by
    intro v;obtain⟨v0,e0,_⟩:=n6 h v;refine⟨v0,e0,λS ak br bb a3 bv ad=>?_⟩;obtain⟨R,ah,b4,ce,a9⟩:=s S ak;obtain⟨ci,bf,U⟩:=a0 R ah (by grind);obtain⟨v2,bi,V,_⟩:=n6 U v;have:=V bb (λa n=>a3 a n) (.inr ⟨by grind,λa aq=>?_⟩)
    ·grind[Ve]
    ·have K:lA r b i a:=aq
     rw[ad a K,<-a9 a];rintro⟨f,d,a4,aQ,ae,af⟩;have aB:=m f (by simp[d]) a4 aQ ae a af;obtain⟨bw,_,off,ar⟩:=K;exact yA aB ar
   obtain⟨l,z,r4⟩:=Gs g k J (by grind) L I h n y;rw[if_neg w]at r4;exact⟨l,z,(s.mono sub).trans (r4.mono (N b k))⟩
  |w7 _ b _ p _ o _ k h w C=>
   have t:kN P A cg r c o:=kN.step g q.1 k h (λf d=>m f (by simp[d]));obtain⟨E,y,s⟩:=Gt g x M q.2 t C;have n:vA P G An X A cg r mY e b i o E:=λv=>by grind
   obtain⟨l,z,r4⟩:=Gs g k J (by grind) L I h n y;rw[if_pos w]at r4;exact⟨l,z,((s.mono sub).cons _).trans (r4.mono (N b k))⟩
theorem LQ{q:Nat->Nat->Prop}:∀(c d:List Nat),c.Nodup->d.Nodup->(∀a,a∈d<->a∈c)->c.Pairwise (λi a=>q i a\/List.Sublist [i,a] d)->n7 q c d
 |[],d,_,_,j,_=>by
  have:d=[]:=Tx.2 λa p=>by simpa using(j a).1 p
  subst this;exact .nil
 |i::c,d,u,F,j,C=>by
  have x:i∈d:=(j i).2 (by simp);obtain⟨f,k,rfl⟩:=Cn x;have n:=kf.1 u;have t:=zU.1 C;have g:=tE.1 F;have y:=kf.1 g.2.1;have J:i∉f:=λh=>g.2.2 i h i (by simp) rfl;have E:(f++k).Nodup:=by
   rw[tE];exact⟨g.1,y.2,λe o b w=>g.2.2 e o b (by simp[w])⟩
  have s:∀a,a∈f++k<->a∈c:=by
   intro a;have:=j a;simp only[c5,cf]at this⊢;constructor
   ·grind
   ·grind
  refine .cons i c f k (λe o=>?_) (LQ c (f++k) n.2 E s ?_)
  ·have v:e∈c:=(s e).1 (by simp[o])
   rcases t.1 e v with h|h
   ·exact h
   ·exfalso
    obtain⟨H,L,l,r,m⟩:=List.sublist_append_iff.1 h
    match H,l,r with
    |[],l,_=>
     grind
    |b::K,l,r=>
     grind
  ·refine t.2.imp_of_mem ?_
   intro a G p A h;rcases h with h|h
   ·exact .inl h
   ·have z:a≠i:=by rintro rfl;exact n.1 p
    have B:G≠i:=by rintro rfl;exact n.1 A
    have m:=h.filter (λI=>I≠i);simp only[Co,List.filter_nil,ne_eq,z,B,not_false_eq_true,decide_true,if_true,Ty,decide_false,not_true,cZ,if_false]at m;exact .inr (m.trans (anv FA FA))
def C0(a:Nat->Nat->Bool):List Nat->Bool
 |[]=>ab
 |i::b=>b.all (a i)&&C0 a b
theorem LR:∀{b:List Nat},C0 mY b=ab->b.Pairwise (λi c=>mY i c=ab)
 |[],_=>.nil
 |i::b,a=>by
  simp only[C0,bG,fi]at a;exact zU.2 ⟨a.1,LR a.2⟩
def yB(P:Program)(A:bQ)(b:Oper->Bool)(a:Array Oper)(c d:Nat):Bool:=
 match a[c]?,a[d]? with
 |some e,T f=>S (az P A b e=.rd)&&S (az P A b f=.hO)&& !((w6 a.toList #[]).getD d 0).testBit c
 |_,_=>aa
def LS(a d:Oper)(b c:Nat):Bool:=a.guard.isNone&&(S (b=c)||a.dst.isNone||a.dst !=d.dst)
def Aw(P:Program)(A:bQ)(f:Oper->Bool)(a:Array Oper)(d:List Nat):Bool:=
 decide d.Nodup&&d.all (· <a.size)&&(List.range a.size).all (· ∈d)&&
 C0 (λb c=>match a[b]?,a[c]? with|some e,T g=>((w6 a.toList #[]).getD c 0).testBit b||Av P A f a (yB P A f a) b c e g|_,_=>ab) d&&
 (List.range a.size).all λc=>(List.range a.size).all λb=>
  match a[b]?,a[c]? with
  |some e,T g=> !S (az P A f e=.box)||LS e g b c
  |_,_=>ab
theorem Vf(p:Aw P A cg r bu=ab)(H:kN P A cg r bu K)(h:tX P G An X A cg r (yB P A cg r) bu m0 K j):∀l,n5 r [] l->mr P G An X A r (fO r l) K j:=by
 intro l q;unfold Aw at p;simp only[bG,decide_eq_true_eq]at p;obtain⟨⟨⟨⟨s,d⟩,t⟩,J⟩,u⟩:=p;simp only[fi,la,decide_eq_true_eq]at d t;obtain⟨B,S,O⟩:=Gp q;have w:∀a,a∈l<->a∈bu:=λa=>⟨λh=>t a (Au q a h),λh=>(O a (d a h)).resolve_left (by simp)⟩;have E:w5 P A cg r:=by
  have key:∀(b a:Nat)(c e:Oper),r[b]?=T c->r[a]?=T e->az P A cg c=.box->c.guard=D/\(b≠a->c.dst=D\/c.dst≠e.dst):=by
   intro b a c e n o f;have m:b<r.size:=(oI.1 n).1;have g:a<r.size:=(oI.1 o).1;simp only[fi]at u;have:=u a (la.2 g) b (la.2 m);simp only[n,o,f,LS,decide_true,kI,kh,bG,kg,decide_eq_true_eq,Kl,bne_iff_ne,ne_eq]at this;refine⟨this.1,λx=>?_⟩;rcases this.2 with(h|h)|h
   ·omega
   ·exact .inl h
   ·exact .inr h
  exact{
   guard:=λb k i f=>(key b b k k i i f).1
   slot:=λb a k z i y x f Q v=>by
    rcases(key b a k z i y f).2 x with h|h
    ·rw[v]at h;cases h
    ·rw[v]at h;exactλC=>h C.symm}
 refine(Gt E (LQ bu l s B w ?_) B s H h).elim λU h=>h.1.ops;refine(LR J).imp_of_mem ?_;intro b a m g hp;obtain⟨c,n⟩:∃c,r[b]?=T c:=⟨r[b]'(d b m),by simp[d b m]⟩;obtain⟨e,o⟩:∃e,r[a]?=T e:=⟨r[a]'(d a g),by simp[d a g]⟩;simp only[n,o,kg]at hp;rcases hp with hp|hp
 ·right
  have F:=Gm (r:=r) r.toList #[] (λL=>by simp) (λL b h=>by simp at h) a b hp;have I:=(w a).2 g;obtain⟨M,N,rfl⟩:=Cn I;have R:=(Gn q (by simp) M a N rfl b F).resolve_left (by simp);grind
 ·left
  intro k z i y;grind
end
abbrev I(a:Int):AV:=.int .i64 a
abbrev tt:AV:=.bool ab
abbrev ff:AV:=.bool aa
def qV(b:List Nat)(a:Oper):Bool:=match a.op with|.call _=>a.dst.any (· ∈b)|_=>aa
inductive EV where
 |av(v:AV)
 |lp(k off:Nat)
 |sk
def EV.val:EV->AV
 |.av b=>b.pl
 |.lp a off=>.lp a off
 |.sk=>.aE []
def EV.v:EV->AV
 |.av a=>a
 |.lp _ _=>.undef
 |.sk=>.aE []
structure WS where
 env:List (Nat×EV)
 bx:List (Nat×List AV)
 hp:List Obj
def fP(b:List (Nat×EV)):List (Nat×AV):=b.map λa=>(a.1,a.2.val)
def WS.as(a:WS):AS:={env:=fP a.env,bx:=a.bx,hp:=a.hp}
def bd(c:Option z)(a:z->Prop):Prop:=match c with|some b=>a b|none=>False
def cc(c:Option (z×cn))(b:z->cn->Prop):Prop:=match c with|some a=>b a.1 a.2|none=>False
def dY(c:AV)(a b:Prop):Prop:=match c.pl with|.bool ab=>a|.bool aa=>b|_=>False
def ob(a b:AV):Prop:=a=b
def jn(a:(List AV->List Obj->Prop)->Prop)(b:List AV->List Obj->Prop):Prop:=a b
def iC(c:List AV->List Obj->(List AV->List Obj->Prop)->Prop)(b:List AV)(a:List Obj):Prop:=
 ∀I:List AV->List Obj->Prop,(∀b a,c b a I->I b a)->I b a
def g(a:List AV)(b:Nat):AV:=a.getD b .undef
def rX(a:List AV):Nat->Nat->List AV
 |0,_=>[]
 |n+1,b=>g a b::rX a n (b+1)
def dh(b:Nat)(a:AV):Option (List AV):=if Z a.pl.cells=b/\a.pl.cells.all AV.bP=ab then T a.pl.cells else D
def lX(a:AV):Option AV:=if a.pl.bP=ab then T a.pl else D
def eA(b:Nat)(a:List Obj):Option (AV×List Obj):=T (.q (Z a) 0 0 0,a++[.arr 0 b []])
def km(b:Nat)(c:List AV)(a:List Obj):Option (AV×List Obj):=T (.ptr (Z a) 0 0 0,a++[.arr 0 b [c]])
def iD(b:Nat)(c:AV):Option AV:=(dh b c).map λa=>.aK aa a 0
def mw(b:Nat)(d:AV)(a:List Obj):Option (AV×List Obj):=(dh b d).map λc=>(.ptr (Z a) 0 0 0,a++[.arr 0 b [c]])
def LU(c a b:AV):Option AV:=match c.pl with|.bool d=>T (if d then a else b)|_=>D
def ko(cells:List AV):List (Nat×Nat×AV)->Option (List AV)
 |[]=>T cells
 |(off,size,a)::b=>if Z a.pl.cells=size/\off+size<=Z cells/\a.pl.cells.all AV.bP=ab then ko (eV cells off a.pl.cells) b else D
def fw(c:Nat)(d:List AV)(b:Nat)(parts:List (Nat×AV)):Option AV:=(kj c (List.replicate b d) parts).map λa=>.sl aa a
def Gu(c:Nat)(e:List AV)(b:Nat)(parts:List (Nat×AV))(a:List Obj):Option (AV×List Obj):=(kj c (List.replicate b e) parts).map λd=>(.q (Z a) 0 0 b,a++[.arr 0 c d])
def tY(b:List Obj):AV->Option (List AV×Nat)
 |.aK _ a off=>T (a,off)
 |.ptr id g e off=>
  match b[id]? with
  |some (.arr d _ c)=>if d=g then(c[e]?).map λa=>(a,off)else D
  |_=>D
 |_=>D
def aR(b:Nat)(d:Bool)(e:AV)(c:List Obj):Option AV:=
 match tY c e with
 |some (a,off)=>if off+b<=Z a then T (nY d ((a.drop off).take b))else D
 |none=>D
def df(a:Nat)(h i:AV)(b:List Obj):Option (List Obj):=
 let new:=i.pl.cells
 if Z new=a/\new.all AV.bP=ab then
  match h with
  |.ptr id g f off=>
   match b[id]? with
   |some (.arr e a d)=>
    if e=g then
     match d[f]? with
     |some c=>if off+Z new<=Z c then T (b.set id (.arr e a (d.set f (eV c off new))))else D
     |none=>D
    else D
   |_=>D
  |_=>D
 else D
def dw(a:Nat)(h:AV)(b:List Obj):Option AV:=
 match h with
 |.aK c d off=>T (.aK c d (off+a))
 |.ptr id g f off=>
  match b[id]? with
  |some (.arr e _ _)=>if e=g then T (.ptr id g f (off+a))else D
  |_=>D
 |_=>D
def hP(v:AV)(a:List Obj):Option AV:=match v with|.fn d b c=>T (.fn d b c)|v=>dw 0 v a
def oV(len d:Nat)(e c:AV)(b:List Obj):Option AV:=
 match c.pl with
 |.int _ a=>if 0<=a/\a<len then dw (a.toNat*d) e b else D
 |_=>D
def bY(c:Nat)(k i:AV)(d:List Obj):Option AV:=
 match i.pl with
 |.int _ a=>
  match k with
  |.sl e f=>
   if 0<=a then
    match f[a.toNat]? with
    |some b=>if Z b=c then T (.aK e b 0)else D
    |none=>D
   else D
  |.q id g off len=>
   if 0<=a/\a<len then
    match d[id]? with
    |some (.arr h j _)=>if h=g/\j=c then T (.ptr id g (off+a.toNat) 0)else D
    |_=>D
   else D
  |_=>D
 |_=>D
def Gv(off b:Nat)(c:Bool)(d:AV):Option AV:=
 match d with
 |.agg a=>if off+b<=Z a then T (nY c ((a.drop off).take b))else D
 |_=>D
def Gw(len b:Nat)(d:Bool)(f e:AV):Option AV:=
 match f,e.pl with
 |.agg c,.int _ a=>if 0<=a/\a<len/\a.toNat*b+b<=Z c then T (nY d ((c.drop (a.toNat*b)).take b))else D
 |_,_=>D
def gQ(e c:AV):Option AV:=
 match e,c.pl with
 |.str d,.int _ a=>if 0<=a then(d[a.toNat]?).map λb=>.int .u8 b.toNat else D
 |_,_=>D
inductive BK where
 |s
 |b
 |n
 |a(n:Nat)(ks:List Nat)
def aS(bk:BK)(op:BinOp)(x l:AV):Option AV:=
 match x,l with
 |.int e d,.int j c=>
  match op with
  |.shl=>if c<0 then D else T (.int e (e.wrap (d*2^(min c.toNat e.bits))))
  |.shr=>if c<0 then D else T (.int e (d.fdiv (2^(min c.toNat e.bits))))
  |_=>if e=j then jv op e d c else D
 |.str d,.str c=>tL op d c
 |.bool d,.bool c=>
  match bk,op with
  |.b,.eql=>T (.bool (d==c))
  |.b,.neq=>T (.bool (!(d==c)))
  |_,_=>D
 |.agg g,.agg h=>
  match bk with
  |.a i k=>
   if Z g=i/\Z h=i then
    match op,ft k g h with
    |.eql,T f=>T (.bool f)
    |.neq,T f=>T (.bool (!f))
    |_,_=>D
   else D
  |_=>D
 |x,.ai=>
  match bk,op,x.z1 with
  |.n,.eql,T c=>T (.bool c)
  |_,_,_=>D
 |_,_=>D
inductive CK where
 |int(k:IntKind)
 |str
 |bytes
 |no
def jM(d:CK)(f:AV):Option AV:=
 match d,f with
 |.int b,.int _ e=>T (.int b (b.wrap e))
 |.str,.str a=>T (.str a)
 |.bytes,.str a=>T (.sl aa (a.map λc=>[.int .u8 c.toNat]))
 |_,_=>D
def tZ(f:Nat)(g:List AV)(bytes:Nat)(d c:AV)(b:List Obj):Option (AV×List Obj):=
 match d,c with
 |.int _ a,.int _ e=>if a=e/\0<=a/\a*bytes<=2^47/\a<2^47 then T (.q (Z b) 0 0 a.toNat,b++[.arr 0 f (List.replicate a.toNat g)])else D
 |_,_=>D
inductive SK where
 |str
 |sl(sz:Nat)
 |arr(n:Nat)
def dV(o:SK)(r:AV)(d b:Option AV)(j:List Obj):Option AV:=
 match o,r with
 |.arr n,.aK e f 0=>if d.isNone&&b.isNone&&S (Z f=n)then T (.sl e (f.map λl=>[l]))else D
 |.sl _,.ai=>match cQ 0 0 b,cQ 0 0 d with|some _,T _=>T .ai|_,_=>D
 |.sl _,.dI=>match cQ 0 0 b,cQ 0 0 d with|some _,T _=>T .dI|_,_=>D
 |.str,.str e=>
  match cQ (Z e) (Z e) b with
  |some a=>
   match cQ a 0 d with
   |some c=>T (.str ((e.take a).drop c))
   |none=>D
  |none=>D
 |.sl i,.sl k h=>
  match cQ (Z h) (Z h) b with
  |some a=>
   match cQ a 0 d with
   |some c=>if h.all (λf=>Z f==i)then T (.sl k ((h.take a).drop c))else D
   |none=>D
  |none=>D
 |.sl i,.q id g off len=>
  match cQ len len b with
  |some a=>
   match cQ a 0 d,j[id]? with
   |some c,T (.arr m p _)=>if m=g/\p=i then T (.q id g (off+c) (a -c))else D
   |_,_=>D
  |none=>D
 |_,_=>D
def Gx(j:Nat)(l:AV)(d c e:Option AV)(a:List Obj):Option (AV×List Obj):=
 match l with
 |.ai=>match cQ 0 0 c,cQ 0 0 d,cQ 0 0 e with|some _,T _,T _=>T (.ai,a)|_,_,_=>D
 |.dI=>match cQ 0 0 c,cQ 0 0 d,cQ 0 0 e with|some _,T _,T _=>T (.dI,a)|_,_,_=>D
 |.sl _ f=>
  match cQ (Z f) (Z f) c,cQ (Z f) 0 e with
  |some b,T i=>match cQ b 0 d with|some h=>if h=b/\b=i then T (.q (Z a) 0 0 0,a++[.arr 0 j []])else D|none=>D
  |_,_=>D
 |.q id g _ len=>
  match cQ len len c,cQ len 0 e with
  |some b,T i=>
   match cQ b 0 d,a[id]? with
   |some h,T (.arr k _ _)=>if h=b/\b=i/\k=g then T (.q (Z a) 0 0 0,a++[.arr 0 j []])else D
   |_,_=>D
  |_,_=>D
 |_=>D
def C1(d c:Nat)(e:AV):Option AV:=
 match e with
 |.sl _ a=>if c=Z a/\a.all (λb=>Z b==d)then T (.qN a)else D
 |_=>D
structure KD where
 ag:Bool
 n:Nat
 ks:List Nat
def KD.eq(a:KD):AV->AV->Option Bool
 |.int d b,.int e c=>if d=e/\a.ks=[0]/\a.ag=aa/\a.n=1 then T (b==c)else D
 |.str b,.str c=>if a.ks=[1]/\a.ag=aa/\a.n=1 then T (b==c)else D
 |.agg b,.agg c=>if a.ag=ab/\Z b=a.n/\Z c=a.n then ft a.ks b c else D
 |_,_=>D
def KD.find(a:KD)(c:AV):List AV->Nat->Option (Option Nat)
 |[],_=>T D
 |x::d,b=>
  match a.eq c x with
  |some ab=>T (T b)
  |some aa=>KD.find a c d (b+1)
  |none=>D
def kO(b:List Obj):AV->Option (List AV×List AV)
 |.iu a vs=>T (a,vs)
 |.b5 id=>match b[id]? with|some (.mp _ a vs)=>T (a,vs)|_=>D
 |_=>D
def hC(b:KD)(d:AV)(ok:Bool)(h a:AV)(e:List Obj):Option AV:=
 match kO e h with
 |some (g,vs)=>
  if(b.eq a a).isSome then
   match b.find a g 0 with
   |some (T f)=>match vs[f]? with|some c=>T (if ok then .aE [c,.bool ab]else c)|none=>D
   |some D=>T (if ok then .aE [d,.bool aa]else d)
   |none=>D
  else D
 |none=>D
def jg(d:KD)(h a f:AV)(b:List Obj):Option (List Obj):=
 match h with
 |.b5 id=>
  match b[id]? with
  |some (.mp e c vs)=>
   if(d.eq a.pl a.pl).isSome then
    match d.find a.pl c 0 with
    |some (T g)=>T (b.set id (.mp e c (vs.set g f.pl)))
    |some D=>T (b.set id (.mp e (c++[a.pl]) (vs++[f.pl])))
    |none=>D
   else D
  |_=>D
 |_=>D
def yC(d:KD)(f:AV)(g a:AV)(b:List Obj):Option (AV×List Obj):=
 match g with
 |.b5 id=>
  match b[id]? with
  |some (.mp ab c vs)=>
   if(d.eq a.pl a.pl).isSome then
    match d.find a.pl c 0 with
    |some (T e)=>match vs[e]? with|some h=>T (.aE [h,.int .i64 e],b)|none=>D
    |some D=>T (.aE [f,.int .i64 (Z c)],b.set id (.mp ab (c++[a.pl]) (vs++[f])))
    |none=>D
   else D
  |_=>D
 |_=>D
def yD(d e f:AV)(a:List Obj):Option (List Obj):=
 match d,e with
 |.b5 id,.int _ (.ofNat c)=>
  match a[id]? with
  |some (.mp ab b vs)=>if c<Z b then T (a.set id (.mp ab b (vs.set c f.pl)))else D
  |_=>D
 |_,_=>D
def yE(c:KD)(f b:AV)(a:List Obj):Option (List Obj):=
 match f with
 |.b5 id=>
  match a[id]? with
  |some (.mp g e vs)=>
   if(c.eq b.pl b.pl).isSome then
    match c.find b.pl e 0 with
    |some (T d)=>T (a.set id (.mp aa (e.eraseIdx d) (vs.eraseIdx d)))
    |some D=>T a
    |none=>D
   else D
  |_=>D
 |_=>D
inductive LK where
 |str|sl|map
 |arr(n:Nat)
def fX(e:LK)(g:AV)(b:List Obj):Option AV:=
 match e,g with
 |.str,.str c=>T (.int .i64 (Z c))
 |.sl,.ai=>T (.int .i64 0)
 |.sl,.dI=>T (.int .i64 0)
 |.sl,.sl _ d=>T (.int .i64 (Z d))
 |.sl,.q _ _ _ len=>T (.int .i64 len)
 |.arr f,_=>T (.int .i64 f)
 |.map,.b5 id=>match b[id]? with|some (.mp _ a _)=>T (.int .i64 (Z a))|_=>D
 |.map,.iu a _=>T (.int .i64 (Z a))
 |_,_=>D
def hQ(c:List Obj)(b:Nat):AV->Option (List (List AV))
 |.ai=>T []
 |.dI=>T []
 |.sl _ a=>if a.all (λf=>Z f==b)then T a else D
 |.q id g off len=>
  match c[id]? with
  |some (.arr h i a)=>if h=g/\i=b/\off+len<=Z a then T ((a.drop off).take len)else D
  |_=>D
 |.str d=>if b=1 then T (d.map λe=>[.int .u8 e.toNat])else D
 |_=>D
def cx(d bytes:Nat)(e j:AV)(c:List Obj):Option (AV×List Obj):=
 match hQ c d j with
 |some a=>
  if e.isNil=ab then if Z a*bytes<=2^47 then T (.q (Z c) 0 0 (Z a),c++[.arr 0 d a])else D else
  match e with
  |.q id g 0 len=>
   match c[id]? with
   |some (.arr h i b)=>
    if h=g/\len<=Z b/\i=d/\(len+Z a)*bytes<=2^47 then
     T (.q id (g+1) 0 (len+Z a),c.set id (.arr (g+1) d (b.take len++a)))
    else D
   |_=>D
  |.qN b=>
   if 0<Z a/\b.all (λf=>Z f==d)/\0<Z b/\(Z b+Z a)*bytes<=2^47 then
    T (.q (Z c) 0 0 (Z b+Z a),c++[.arr 0 d (b++a)])
   else D
  |_=>D
 |none=>D
def ef(a:Nat)(b:AV):Option AV:=match b with|.aE vs=>vs[a]?|_=>D
def yF(a:Nat)(d:AV):Option AV:=match d with|.iface b c=>if b=a then T c else D|_=>D
def PR(C:eD)(c:Nat)(args:List AV)(d:AV):Prop:=∃b a,C c args [] b a/\aI a .res b d
def cp(C:eD)(f:Nat)(args:List AV)(d:List Obj)(e:AV->Prop):Prop:=
 ∃a c b,a≠Md.res/\bR d a (args.map AV.pl) c/\PR C f c b/\(a=.cm->NB b)/\e b
def cb(C:eD)(e:Nat)(args:List AV)(c:List Obj)(d:AV->Prop):Prop:=
 ∃b a,bR c .cm (args.map AV.pl) b/\PR C e b a/\NB a/\d a
def ch(C:eD)(e:Nat)(args:List AV)(c:List Obj)(d:AV->List Obj->Prop):Prop:=
 ∃b a,C e (args.map AV.pl) c b a/\d b a
def lC(b:AV)(args:List AV):Option (Nat×List AV):=match b with|.fn a first cap=>T (a,first.map AV.pl++args++cap.map AV.pl)|_=>D
def rY(g:List (Nat×Nat×Option (Nat×Bool)))(i:AV)(args:List AV)(c:List Obj):Option (Nat×List AV):=
 match i with
 |.iface f b=>
  match look f g with
  |some (a,D)=>T (a,b.pl::args)
  |some (a,T (e,d))=>(aR e d b c).map λh=>(a,h.pl::args)
  |none=>D
 |_=>D
end AM
end Go
