/- The law DeriveRoundsUptoCardSaid: part 1 of 14 of the proof. No condition. -/
import Derived.Calls
import Derived.Laws.AppendOwn
import Derived.Laws.IdiomCopy
import Derived.Deep.MidRow
import Derived.Deep.AppendSrc
import Derived.Laws.StructEq
import Derived.Laws.Cover3
import Derived.Great.BuildSlice
import Derived.Laws.MakeOwn
import Derived.Laws.Tables
import Derived.Laws.RangeAny
import Derived.MapKept
import Derived.Lib.AppendZerosOnto
import Derived.Lib.ConvBytes
import Derived.Orders
import Derived.Scope
import Derived.Maps.RangeRun
set_option maxRecDepth 100000
open List renaming length->Z,range->ay,replicate->dh,drop_append->aaI,drop_succ_cons->arB,getElem?_range->arH,getElem?_set->ary,headD_cons->arF,length_replicate->arE,map_eq_singleton_iff->aaP,mem_replicate->arI,mem_toArray->I7,reverse_nil->arJ,size_toArray->arC,take_append->arx,take_left->aaO,toList_toArray->ON
open Option renaming some->aa,none->ae,bind_none->arG,bind_some->CG,map_map->tP
open Bool renaming true->ad,false->ab
open Decidable renaming decide->y
open Int renaming ofNat->b4
open Array renaming getElem?_setIfInBounds->arK,size_append->aaN,toArray_toList->arA,toList_append->I3,toList_inj->oH
open Nat renaming add_mul->sM,le_antisymm->arw,le_mul_of_pos_right->aaM,mul_one->I4,not_lt_zero->OF,testBit_or->arL,zero_mul->OL
open Ne renaming symm->CC
open Std.Legacy.Range renaming forIn_eq_forIn_range'->arz
namespace Go
abbrev AO:=@List.all_nil
abbrev AP:=@Nat.le_succ
abbrev AQ:=@Bool.true_or
abbrev AR:=@List.pairwise_cons
abbrev CD:=@List.getElem_range
abbrev CF:=@List.cons.injEq
abbrev CI:=@Bool.and_false
abbrev E6:=@List.take_append_of_le_length
abbrev E7:=@List.nodup_range
abbrev E8:=@Array.mem_toList_iff
abbrev E9:=@List.append_of_mem
abbrev Fa:=@List.filter_cons
abbrev Fb:=@Function.comp_def
abbrev Fc:=@Int.lt_or_le
abbrev Fe:=@List.findIdx?_cons
abbrev Ff:=@Bool.not_not
abbrev Fh:=@List.find?_eq_none
abbrev Fj:=@List.getElem_take
abbrev Fk:=@List.contains_eq_mem
abbrev I2:=@Nat.lt_trichotomy
abbrev I5:=@Option.isNone_iff_eq_none
abbrev I6:=@List.set_set
abbrev I8:=@List.filter_sublist
abbrev I9:=@List.getElem?_set_self
abbrev Ja:=@List.map_drop
abbrev Jb:=@Bool.or_eq_false_iff
abbrev Jc:=@List.filter_filter
abbrev Jd:=@List.any_eq_true
abbrev Je:=@List.length_eq_zero_iff
abbrev Jg:=@List.perm_append_comm
abbrev Jh:=@List.find?_some
abbrev Ji:=@Bool.and_eq_false_iff
abbrev Jk:=@List.filter_eq_nil_iff
abbrev OG:=@List.take_one
abbrev OH:=@List.set_cons_succ
abbrev OI:=@List.set_append_right
abbrev OJ:=@Nat.min_eq_left
abbrev OK:=@Nat.sub_self
abbrev OM:=@List.take_succ_cons
abbrev OO:=@List.take_take
abbrev OP:=@List.drop_take
abbrev OQ:=@List.singleton_append
abbrev OR:=@List.mem_append_left
abbrev OS:=@List.filterMap_cons
abbrev OT:=@Bool.or_false
abbrev OU:=@Bool.not_eq_false'
abbrev OV:=@List.map_take
abbrev OW:=@List.getElem_drop
abbrev OX:=@List.mem_or_eq_of_mem_set
abbrev OY:=@List.getElem?_append_right
abbrev OZ:=@List.perm_ext_iff_of_nodup
abbrev a:=@Int.ofNat_lt
abbrev aa1:=@Int.not_lt
abbrev aa2:=@List.findIdx?_append
abbrev aa3:=@List.flatMap_cons
abbrev aa4:=@List.nodup_iff_pairwise_ne
abbrev aa5:=@List.mem_flatMap
abbrev aa7:=@List.foldl_map
abbrev aa8:=@List.set_eq_take_append_cons_drop
abbrev aa9:=@List.pairwise_map
abbrev aaJ:=@List.length_set
abbrev aaK:=@List.range_eq_range'
abbrev aaL:=@List.take_zero
abbrev aaQ:=@Nat.lt_or_ge
abbrev aaR:=@List.eq_nil_iff_forall_not_mem
abbrev aaS:=@List.pairwise_lt_range
abbrev aaT:=@List.getElem_append_left
abbrev aaU:=@Bool.and_assoc
abbrev aaV:=@Nat.lt_succ_self
abbrev aaW:=@List.any_cons
abbrev aaX:=@List.any_nil
abbrev ar0:=@Int.tdiv_eq_ediv_of_nonneg
abbrev ar1:=@List.pairwise_iff_getElem
abbrev ar2:=@List.pairwise_append
abbrev ar4:=@List.set_append_left
abbrev ar5:=@List.idxOf_lt_length_of_mem
abbrev ar7:=@List.mem_of_find?_eq_some
abbrev arD:=@List.replicate_succ'
abbrev asa:=@Nat.lt_or_eq_of_le
abbrev asc:=@List.drop_of_length_le
abbrev b6:=@List.mem_cons
abbrev ba:=@Bool.and_eq_true
abbrev bn:=@List.getElem_mem
abbrev bq:=@List.getElem?_eq_getElem
abbrev c3:=@Bool.true_and
abbrev c7:=@Nat.le_refl
abbrev cn:=@Nat.lt_irrefl
abbrev cy:=@List.mem_map
abbrev dR:=@List.nil_append
abbrev dY:=@List.take_length
abbrev dj:=@List.getElem?_cons_zero
abbrev dq:=@Option.map_eq_some_iff
abbrev dt:=@List.mem_append
abbrev e:=@Nat.zero_add
abbrev e2:=@List.length_nil
abbrev e6:=@Bool.false_eq_true
abbrev e7:=@Option.some.injEq
abbrev eG:=@Prod.mk.injEq
abbrev eH:=@List.getElem?_cons_succ
abbrev eQ:=@List.all_eq_true
abbrev eR:=@Int.toNat_natCast
abbrev ej:=@List.map_cons
abbrev fH:=@List.getElem?_eq_some_iff
abbrev fY:=@Nat.add_zero
abbrev gC:=@List.length_append
abbrev gT:=@List.take_of_length_le
abbrev h0:=@List.length_take
abbrev h5:=@Bool.or_eq_true
abbrev hG:=@List.cons_append
abbrev hJ:=@List.map_append
abbrev ht:=@List.append_assoc
abbrev hv:=@Bool.not_eq_true'
abbrev iA:=@Bool.eq_iff_iff
abbrev ix:=@Nat.le_trans
abbrev iy:=@List.take_succ_eq_append_getElem
abbrev iz:=@List.mem_range
abbrev jM:=@Nat.lt_of_lt_of_le
abbrev jN:=@List.not_mem_nil
abbrev jX:=@List.length_map
abbrev jY:=@List.length_singleton
abbrev k0:=@List.nodup_cons
abbrev kI:=@List.length_cons
abbrev kZ:=@Array.getElem?_eq_some_iff
abbrev kf:=@Option.map_some
abbrev kg:=@List.mem_iff_getElem
abbrev l4:=@Bool.false_or
abbrev l5:=@List.mem_filter
abbrev l6:=@List.mem_singleton
abbrev lq:=@List.drop_zero
abbrev mB:=@Nat.mul_le_mul_right
abbrev nX:=@List.length_filter_le
abbrev np:=@List.foldl_cons
abbrev nr:=@Option.getD_some
abbrev ns:=@List.map_nil
abbrev oF:=@List.all_cons
abbrev oG:=@List.getElem?_append_left
abbrev oI:=@List.drop_eq_getElem_cons
abbrev oJ:=@Option.isSome_some
abbrev oK:=@List.getD_eq_getElem?_getD
abbrev qp:=@List.mem_of_getElem?
abbrev qq:=@List.drop_length
abbrev qs:=@List.ext_getElem
abbrev qt:=@List.findIdx?_eq_some_iff_getElem
abbrev qu:=@List.perm_append_comm_assoc
abbrev re:=@Nat.succ_mul
abbrev rf:=@Bool.not_true
abbrev rh:=@List.length_drop
abbrev ri:=@Bool.not_false
abbrev sK:=@Option.isSome_iff_exists
abbrev sL:=@List.mem_of_mem_take
abbrev sN:=@List.getElem?_map
abbrev sO:=@List.getElem_of_mem
abbrev sP:=@List.map_congr_left
abbrev sQ:=@List.append_nil
abbrev tN:=@Nat.zero_le
abbrev tO:=@List.eq_nil_of_length_eq_zero
abbrev tQ:=@List.nodup_append
abbrev uP:=@List.drop_eq_nil_of_le
abbrev uQ:=@List.mem_flatten
abbrev uR:=@List.range_succ
abbrev uS:=@List.getElem?_set_ne
abbrev vU:=@List.drop_drop
abbrev vV:=@List.take_append_drop
abbrev vW:=@List.map_map
abbrev vY:=@Bool.not_eq_true
abbrev xB:=@List.flatten_cons
abbrev xC:=@List.flatten_append
abbrev xD:=@List.getElem_map
abbrev xE:=@List.mem_filterMap
abbrev xF:=@List.nodup_nil
abbrev xG:=@Classical.byContradiction
abbrev y4:=@Bool.and_true
abbrev y5:=@Array.length_toList
abbrev y6:=@List.ext_getElem?
abbrev y7:=@List.filter_append
abbrev y8:=@List.findIdx?_eq_none_iff
abbrev y9:=@List.set_cons_zero
abbrev za:=@List.find?_range_eq_some
abbrev zb:=@List.set_getElem_self
abbrev zd:=@List.foldl_append
namespace AM
inductive AV where
 |int(k:IntKind)(n:Int)
 |bool(b:Bool)
 |str(s:List UInt8)
 |agg(cs:List AV)
 |aB(vs:List AV)
 |aq
 |dL
 |oW
 |sl(cd:Bool)(es:List (List AV))
 |q(id g off len:Nat)
 |il(ks vs:List AV)
 |b8(id:Nat)
 |pI(id:Nat)
 |ptr(id g idx off:Nat)
 |aH(cd:Bool)(cs:List AV)(off:Nat)
 |lp(k off:Nat)
 |gH
 |fn(f:Nat)(first cap:List AV)
 |fP
 |iface(t:Nat)(v:AV)
 |jZ
 |undef
 deriving Inhabited
inductive Obj where
 |arr(g sz:Nat)(es:List (List AV))
 |mp(fl:Bool)(ks vs:List AV)
 |iH(s:List UInt8)(pos:Nat)
 |fm(l:List (Int×Int))
def Obj.CL:Obj->Bool
 |.mp _ _ _|.fm _=>ad
 |_=>ab
def gi(a:Int):List (Int×Int)->Option Int
 |[]=>ae
 |(b,d)::c=>if b=a then aa d else gi a c
def oX(a b:Int):List (Int×Int)->List (Int×Int)
 |[]=>[(a,b)]
 |(c,e)::d=>if c=a then(a,b)::d else(c,e)::oX a b d
def nums:List AV->List AV->Option (List (Int×Int))
 |[],[]=>aa []
 |.int .i64 a::b,.int .i64 c::vs=>(nums b vs).map ((a,c)::·)
 |_,_=>ae
def Obj.nums:Obj->Option (List (Int×Int))
 |.mp _ a vs=>AM.nums a vs
 |.fm b=>aa b
 |_=>ae
def xH(h j:AV)(b:List Obj):Option (List Obj):=
 match h,j with
 |.b8 e,.b8 c=>
  match b[e]?,b[c]? with
  |aa (.mp ad g vs),aa i=>
   match AM.nums g vs,i.nums with
   |aa d,aa a=>if e≠c/\(d.map (·.1)).Nodup then aa (b.set c (.fm (d.foldl (λa f=>oX f.1 f.2 a) a)))else ae
   |_,_=>ae
  |_,_=>ae
 |_,_=>ae
structure AS where
 env:List (Nat×AV)
 bx:List (Nat×List AV)
 hp:List Obj
structure bS where
 mL:List Nat
 cs:List Nat
 lb:List Nat
 acc:List (Nat×Nat)
 own:List Nat
 ord:List (Nat×List Nat)
variable{K:Type}
def look(a:Nat):List (Nat×K)->Option K
 |[]=>ae
 |(b,d)::c=>if b=a then aa d else look a c
def lA(a:Nat):List (Nat×K)->List (Nat×K)
 |[]=>[]
 |(b,d)::c=>if b=a then lA a c else(b,d)::lA a c
def put(a:Nat)(c:K):List (Nat×K)->List (Nat×K)
 |[]=>[(a,c)]
 |(b,e)::d=>if a<b then(a,c)::(b,e)::d else if a=b then(a,c)::d else(b,e)::put a c d
def k1(a:List Nat):List (Nat×K)->List (Nat×K)
 |[]=>[]
 |(b,d)::c=>if b∈a then(b,d)::k1 a c else k1 a c
def AV.gI(b:Nat):AV->Bool
 |.lp a _=>a==b
 |_=>ab
def oY(a:Nat):List (Nat×AV)->List (Nat×AV)
 |[]=>[]
 |(c,b)::d=>(c,if b.gI a then .undef else b)::oY a d
def AV.pl:AV->AV
 |.lp _ _=>.undef
 |v=>v
def AV.isNil:AV->Bool
 |.aq=>ad
 |.dL=>ad
 |_=>ab
def AV.CM:AV->Option Bool
 |.aq=>aa ad
 |.dL=>aa ab
 |.sl _ (_::_)=>aa ab
 |_=>ae
def AV.bU:AV->Bool
 |.agg _|.aB _|.lp _ _|.undef=>ab
 |_=>ad
def AV.cells:AV->List AV
 |.agg a=>a
 |v=>[v]
def qv(agg:Bool)(a:List AV):AV:=if agg then .agg a else a.headD .undef
def ze:TypeDesc->Bool
 |.struct _|.array _ _=>ad
 |_=>ab
section
variable(P:Program)
def bj(a:TypeId):Nat:=((P.info? a).map (·.size)).getD 0
def uT(a:TypeId):Nat:=((P.info? a).map (·.bytes)).getD 0
def ft(b:TypeId):Bool:=
 match P.underlying b with
 |aa a=>ze a
 |ae=>ab
def ofValue:Value->Option AV
 |.bool a=>aa (.bool a)
 |.int b c=>aa (.int b c)
 |.string d=>aa (.str d.data.toList)
 |.pointer ae=>aa .gH
 |.slice ae 0 0=>aa .aq
 |.nilFunc=>aa .fP
 |.nilIface=>aa .jZ
 |.map ae=>aa .oW
 |_=>ae
def xI:List Value->Option (List AV)
 |[]=>aa []
 |v::vs=>
  match ofValue v,xI vs with
  |aa a,aa b=>aa (a::b)
  |_,_=>ae
def qw(a:TypeId):Option (List AV):=
 match(P.info? a).bind (·.zero)with
 |aa b=>xI b.cells.toList
 |ae=>ae
def rM:Value->Option AV
 |.agg a=>(xI a.toList).map .agg
 |v=>ofValue v
def sR(a:TypeId):Option AV:=((P.info? a).bind (·.zero)).bind rM
variable(G:Nat->Option (List AV))
def l(c:AS):Operand->AV
 |.tmp d=>(look d c.env).getD .undef
 |.const e=>(rM e).getD .undef
 |.global g=>match G g with|aa a=>.aH ab a 0|ae=>.undef
 |.func b=>.fn b [] []
def pJ(b:AS):AV->Option (List AV×Nat)
 |.lp f off=>(look f b.bx).map λa=>(a,off)
 |.aH _ a off=>aa (a,off)
 |.ptr id g e off=>
  match b.hp[id]? with
  |aa (.arr d _ c)=>if d=g then(c[e]?).map λa=>(a,off)else ae
  |_=>ae
 |_=>ae
def oZ(d:AS)(a:TypeId)(c:AV):Option AV:=
 match pJ d c with
 |aa (b,off)=>if off+bj P a<=Z b/\(ft P a=ab->bj P a=1)/\(P.underlying a).isSome=ad then aa (qv (ft P a) ((b.drop off).take (bj P a)))else ae
 |ae=>ae
def e3(a:List AV)(off:Nat)(new:List AV):List AV:=a.take off++new++a.drop (off+Z new)
def vZ(a:AS)(h:TypeId)(i k:AV):Option AS:=
 let new:=k.pl.cells
 if Z new=bj P h/\new.all AV.bU=ad/\(P.info? h).isSome=ad then
  match i with
  |.lp f off=>
   match look f a.bx with
   |aa b=>if off+Z new<=Z b then aa {a with bx:=put f (e3 b off new) a.bx}else ae
   |ae=>ae
  |.ptr id g e off=>
   match a.hp[id]? with
   |aa (.arr d j c)=>
    if d=g then
     match c[e]? with
     |aa b=>if off+Z new<=Z b then aa {a with hp:=a.hp.set id (.arr d j (c.set e (e3 b off new)))}else ae
     |ae=>ae
    else ae
   |_=>ae
  |_=>ae
 else ae
def mM(h:AS)(a:Nat):AV->Option AV
 |.lp f off=>aa (.lp f (off+a))
 |.aH b c off=>aa (.aH b c (off+a))
 |.ptr id g e off=>
  match h.hp[id]? with
  |aa (.arr d _ _)=>if d=g then aa (.ptr id g e (off+a))else ae
  |_=>ae
 |_=>ae
def v7(e:AS)(f:TypeId)(b:AV)(c:Nat):Option AV:=
 match P.underlying f with
 |aa (.struct d)=>match d[c]? with|aa a=>if 0<bj P a.type then mM e a.offset b else ae|ae=>ae
 |_=>ae
def rN(d:AS)(l:TypeId)(e j:AV):Option AV:=
 match P.underlying l,j with
 |aa (.array len b),.int _ a=>if 0<=a/\a<len/\0<bj P b then mM d (a.toNat*bj P b) e else ae
 |aa (.slice b),.int _ a=>
  match e with
  |.sl f h=>
   if 0<=a then
    match h[a.toNat]? with
    |aa c=>if Z c=bj P b/\0<bj P b then aa (.aH f c 0)else ae
    |ae=>ae
   else ae
  |.q id g off len=>
   if 0<=a/\a<len then
    match d.hp[id]? with
    |aa (.arr i k _)=>if i=g/\k=bj P b/\0<bj P b then aa (.ptr id g (off+a.toNat) 0)else ae
    |_=>ae
   else ae
  |_=>ae
 |_,_=>ae
def Fl(a:TypeId)(b:List AV)(off:Nat):Option AV:=
 if off+bj P a<=Z b/\(ft P a=ab->bj P a=1)/\(P.underlying a).isSome=ad then aa (qv (ft P a) ((b.drop off).take (bj P a)))else ae
def CN(e:TypeId)(f:AV)(c:Nat):Option AV:=
 match P.underlying e,f with
 |aa (.struct d),.agg b=>match d[c]? with|aa a=>Fl P a.type b a.offset|ae=>ae
 |_,_=>ae
def CO(e:TypeId)(f c:AV):Option AV:=
 match P.underlying e,f,c with
 |aa .string,.str d,.int _ a=>if 0<=a then(d[a.toNat]?).map λb=>.int .u8 b.toNat else ae
 |_,_,_=>ae
def eT(c:Nat)(b:Nat):Option AV->Option Nat
 |ae=>aa b
 |aa (.int _ a)=>if 0<=a/\a<=c then aa a.toNat else ae
 |_=>ae
def nt(c:AS)(f:TypeId)(o:AV)(e d:Option AV):Option (AV×AS):=
 match o with
 |.dL=>
  match P.underlying f,eT 0 0 d,eT 0 0 e with
  |aa (.slice a),aa _,aa _=>if 0<bj P a then aa (.dL,c)else ae
  |_,_,_=>ae
 |.aq=>
  match P.underlying f,eT 0 0 d,eT 0 0 e with
  |aa (.slice a),aa _,aa _=>if 0<bj P a then aa (.aq,c)else ae
  |_,_,_=>ae
 |.str j=>
  match P.underlying f,eT (Z j) (Z j) d with
  |aa .string,aa h=>match eT h 0 e with|aa b=>aa (.str ((j.take h).drop b),c)|ae=>ae
  |_,_=>ae
 |.sl k i=>
  match P.underlying f,eT (Z i) (Z i) d with
  |aa (.slice a),aa h=>
   match eT h 0 e with
   |aa b=>if i.all (λl=>Z l==bj P a)/\0<bj P a then aa (.sl k ((i.take h).drop b),c)else ae
   |ae=>ae
  |_,_=>ae
 |.q id g off len=>
  match P.underlying f,eT len len d with
  |aa (.slice a),aa h=>
   match eT h 0 e,c.hp[id]? with
   |aa b,aa (.arr m n _)=>if m=g/\n=bj P a/\0<bj P a then aa (.q id g (off+b) (h -b),c)else ae
   |_,_=>ae
  |_,_=>ae
 |_=>ae
def gb:List Nat->List AV->List AV->Option Bool
 |[],[],[]=>aa ad
 |0::d,.int e a::b,.int f c::bs=>if e=f then(gb d b bs).map ((a==c)&&·)else ae
 |1::d,.str a::b,.str c::bs=>(gb d b bs).map ((a==c)&&·)
 |2::d,.bool a::b,.bool c::bs=>(gb d b bs).map ((a==c)&&·)
 |_,_,_=>ae
def tR(eq:TypeId->Option (List Nat))(stop:Nat):Nat->List (TypeId×Nat)->Option (List Nat)
 |off,[]=>if off=stop then aa []else ae
 |off,(a,d)::r=>
  if d=off then
   match eq a,tR eq stop (off+bj P a) r with
   |aa b,aa c=>if Z b=bj P a then aa (b++c)else ae
   |_,_=>ae
  else ae
def nu:Nat->TypeId->Option (List Nat)
 |0,_=>ae
 |d+1,a=>
  match P.underlying a with
  |aa (.int _)=>if bj P a=1 then aa [0]else ae
  |aa .string=>if bj P a=1 then aa [1]else ae
  |aa .bool=>if bj P a=1 then aa [2]else ae
  |aa (.struct e)=>if P.stoodInHeld a=ab/\e.toList.all (λb=>b.name != "_")then tR P (nu d) (bj P a) 0 (e.toList.map λb=>(b.type,b.offset))else ae
  |aa (.array g c)=>if(P.info? c).isSome then tR P (nu d) (bj P a) 0 ((ay g).map λf=>(c,f*bj P c))else ae
  |_=>ae
def kp(op:BinOp)(a:IntKind)(c b:Int):Option AV:=
 match op with
 |.add=>aa (.int a (a.wrap (c+b)))
 |.sub=>aa (.int a (a.wrap (c -b)))
 |.mul=>aa (.int a (a.wrap (c*b)))
 |.quo=>if b=0 then ae else aa (.int a (a.wrap (c.tdiv b)))
 |.rem=>if b=0 then ae else aa (.int a (c.tmod b))
 |.and=>aa (.int a (a.wrap (BitVec.ofInt a.bits c&&&BitVec.ofInt a.bits b).toNat))
 |.or=>aa (.int a (a.wrap (BitVec.ofInt a.bits c|||BitVec.ofInt a.bits b).toNat))
 |.xor=>aa (.int a (a.wrap (BitVec.ofInt a.bits c^^^BitVec.ofInt a.bits b).toNat))
 |.andNot=>aa (.int a (a.wrap (BitVec.ofInt a.bits c&&&~~~BitVec.ofInt a.bits b).toNat))
 |.eql=>aa (.bool (c==b))
 |.neq=>aa (.bool (c !=b))
 |.lss=>aa (.bool (c<b))
 |.leq=>aa (.bool (c<=b))
 |.gtr=>aa (.bool (c>b))
 |.geq=>aa (.bool (c>=b))
 |_=>ae
def v8(op:BinOp)(a b:List UInt8):Option AV:=
 match op with
 |.eql=>aa (.bool (a==b))
 |.neq=>aa (.bool (!(a==b)))
 |.lss=>aa (.bool (Op.bytesLess a b))
 |.leq=>aa (.bool (Op.bytesLess a b||a==b))
 |.gtr=>aa (.bool (!(Op.bytesLess a b||a==b)))
 |.geq=>aa (.bool (!Op.bytesLess a b))
 |_=>ae
def tS(op:BinOp)(d:TypeId)(x h:AV):Option AV:=
 match x,h with
 |.int c b,.int f a=>
  match op with
  |.shl=>if a<0 then ae else aa (.int c (c.wrap (b*2^(min a.toNat c.bits))))
  |.shr=>if a<0 then ae else aa (.int c (b.fdiv (2^(min a.toNat c.bits))))
  |_=>if c=f then kp op c b a else ae
 |.str b,.str a=>v8 op b a
 |.bool b,.bool a=>
  match P.underlying d,op with
  |aa .bool,.eql=>aa (.bool (b==a))
  |aa .bool,.neq=>aa (.bool (!(b==a)))
  |_,_=>ae
 |.agg e,.agg bs=>
  if Z e=bj P d/\Z bs=bj P d/\P.eqGuardType P.depth d=ab/\ft P d=ad then
   match nu P 100 d with
   |aa g=>
    match op,gb g e bs with
    |.eql,aa r=>aa (.bool r)
    |.neq,aa r=>aa (.bool (!r))
    |_,_=>ae
   |ae=>ae
  else ae
 |x,.aq=>
  match P.underlying d,op,x.CM with
  |aa (.slice _),.eql,aa a=>aa (.bool a)
  |_,_,_=>ae
 |_,_=>ae
def nw(op:UnOp)(d:AV):Option AV:=
 match op,d with
 |.not,.bool b=>aa (.bool (!b))
 |.neg,.int a c=>aa (.int a (a.wrap (0 -c)))
 |_,_=>ae
def xJ(g e:TypeId)(h:AV):Option AV:=
 match P.underlying g,P.underlying e,h with
 |aa (.int _),aa (.int c),.int _ f=>aa (.int c (c.wrap f))
 |aa .string,aa .string,.str a=>aa (.str a)
 |aa .string,aa (.slice b),.str a=>
  match P.underlying b with
  |aa (.int .u8)=>if bj P b=1 then aa (.sl ab (a.map λd=>[.int .u8 d.toNat]))else ae
  |_=>ae
 |_,_,_=>ae
def xK(place:Nat->Option (Nat×Nat))(cells:List AV):List (Nat×AV)->Option (List AV)
 |[]=>aa cells
 |(b,a)::c=>
  match place b with
  |ae=>ae
  |aa (off,size)=>if Z a.pl.cells=size/\off+size<=Z cells/\a.pl.cells.all AV.bU=ad then xK place (e3 cells off a.pl.cells) c else ae
def zf(f:TypeId)(parts:List (Nat×AV)):Option AV:=
 match P.underlying f,qw P f with
 |aa (.struct e),aa d=>if e.all λa=>(P.info? a.type).isSome then(xK (λc=>(e[c]?).map λa=>(a.offset,bj P a.type)) d parts).map .agg else ae
 |aa (.array _ b),aa d=>if 0<bj P b then(xK (λc=>aa (c*bj P b,bj P b)) d parts).map .agg else ae
 |_,_=>ae
def lI(d:Nat)(a:List (List AV)):List (Nat×AV)->Option (List (List AV))
 |[]=>aa a
 |(c,b)::e=>if Z b.pl.cells=d/\c<Z a/\b.pl.cells.all AV.bU=ad then lI d (a.set c b.pl.cells) e else ae
def tT(own:Bool)(b:AS)(e:TypeId)(len:Nat)(parts:List (Nat×AV)):Option (AV×AS):=
 match P.underlying e with
 |aa (.slice a)=>
  if len*bj P a<=2^24/\0<bj P a then
   match qw P a with
   |aa d=>
    if Z d=bj P a then
     match lI (bj P a) (dh len d) parts with
     |aa c=>
      if c.isEmpty then aa (.dL,b)else if own then aa (.q (Z b.hp) 0 0 len,{b with hp:=b.hp++[.arr 0 (bj P a) c]})else aa (.sl ab c,b)
     |ae=>ae
    else ae
   |ae=>ae
  else ae
 |_=>ae
def o0(h:AS)(b:Nat):AV->Option (List (List AV))
 |.aq=>aa []
 |.dL=>aa []
 |.sl _ a=>if a.all (λe=>Z e==b)then aa a else ae
 |.q id g off len=>
  match h.hp[id]? with
  |aa (.arr f i a)=>if f=g/\i=b/\off+len<=Z a then aa ((a.drop off).take len)else ae
  |_=>ae
 |.str c=>if b=1 then aa (c.map λd=>[.int .u8 d.toNat])else ae
 |_=>ae
def o1(b:AS)(i:TypeId)(d j:AV):Option (AV×AS):=
 match P.underlying i with
 |aa (.slice a)=>
  match qw P a,o0 b (bj P a) j with
  |aa k,aa c=>
   if Z k=bj P a/\0<bj P a/\0<uT P a then
    if d.isNil=ad then if Z c*uT P a<=2^47 then aa (.q (Z b.hp) 0 0 (Z c),{b with hp:=b.hp++[.arr 0 (bj P a) c]})else ae else
    match d with
    |.q id g 0 len=>
     match b.hp[id]? with
     |aa (.arr h f e)=>
      if h=g/\len<=Z e/\f=bj P a/\(len+Z c)*uT P a<=2^47 then
       aa (.q id (g+1) 0 (len+Z c),{b with hp:=b.hp.set id (.arr (g+1) f (e.take len++c))})
      else ae
     |_=>ae
    |_=>ae
   else ae
  |_,_=>ae
 |_=>ae
def qx(a:TypeId):Bool:=
 match P.underlying a with
 |aa (.slice _)|aa .string=>ad
 |_=>ab
def zg(c:AS)(h:TypeId)(f e:AV):Option (AV×AS):=
 match P.underlying h,f,e with
 |aa (.slice b),.int _ a,.int _ g=>
  match qw P b with
  |aa d=>
   if Z d=bj P b/\0<bj P b/\a=g/\0<=a/\a*uT P b<=2^47/\a<2^47 then
    aa (.q (Z c.hp) 0 0 a.toNat,{c with hp:=c.hp++[.arr 0 (bj P b) (dh a.toNat d)]})
   else ae
  |ae=>ae
 |_,_,_=>ae
def nY(a:TypeId):Option (List Nat):=
 match P.underlying a with
 |aa (.int _)|aa .string=>nu P 100 a
 |aa (.array e c)=>match P.underlying c with|aa (.int _)=>if bj P c=1/\e<=bj P a then nu P 100 a else ae|_=>ae
 |aa (.struct d)=>if d.toList.all (λb=>(match P.underlying b.type with|aa (.int _)=>ad|_=>ab)&&(y (bj P b.type=1)&&y (b.offset<bj P a)))then nu P 100 a else ae
 |_=>ae
def sS(a:TypeId)(d:List Nat):AV->AV->Option Bool
 |.int e b,.int f c=>if e=f/\d=[0]/\ft P a=ab/\bj P a=1 then aa (b==c)else ae
 |.str b,.str c=>if d=[1]/\ft P a=ab/\bj P a=1 then aa (b==c)else ae
 |.agg b,.agg c=>if ft P a=ad/\Z b=bj P a/\Z c=bj P a then gb d b c else ae
 |_,_=>ae
def findKey(d:TypeId)(c:List Nat)(b:AV):List AV->Nat->Option (Option Nat)
 |[],_=>aa ae
 |x::e,a=>
  match sS P d c b x with
  |aa ad=>aa (aa a)
  |aa ab=>findKey d c b e (a+1)
  |ae=>ae
def nZ(c:TypeId)(b:List Nat)(a:AV):Bool:=(sS P c b a a).isSome
def wa(b:AS):AV->Option (List AV×List AV)
 |.il a vs=>aa (a,vs)
 |.b8 id=>match b.hp[id]? with|aa (.mp _ a vs)=>aa (a,vs)|_=>ae
 |_=>ae
def zh(a:List Obj):AV->Option (List (Int×Int))
 |.b8 id=>match a[id]? with|aa (.fm b)=>aa b|_=>ae
 |_=>ae
def CP(c:List (Int×Int))(b:AV)(ok:Bool):Option AV:=
 match b with
 |.int .i64 d=>aa (match gi d c with|aa a=>if ok then .aB [.int .i64 a,.bool ad]else .int .i64 a|ae=>if ok then .aB [.int .i64 0,.bool ab]else .int .i64 0)
 |_=>ae
def xL(c:TypeId):Bool:=
 match P.underlying c with
 |aa (.map a b)=>
  match nY P a,ft P a,sR P b with
  |aa [0],ab,aa (.int .i64 0)=>ad
  |_,_,_=>ab
 |_=>ab
def uU(e:AS)(f:TypeId)(d a:AV)(ok:Bool):Option AV:=
 match zh e.hp d with
 |aa l=>if xL P f=ad then CP l a ok else ae
 |ae=>
 match P.underlying f,wa e d with
 |aa (.map b i),aa (k,vs)=>
  match nY P b with
  |aa c=>
   if nZ P b c a then
    match findKey P b c a k 0 with
    |aa (aa j)=>match vs[j]? with|aa g=>aa (if ok then .aB [g,.bool ad]else g)|ae=>ae
    |aa ae=>
     match sR P i with
     |aa h=>aa (if ok then .aB [h,.bool ab]else h)
     |ae=>ae
    |ae=>ae
   else ae
  |ae=>ae
 |_,_=>ae
def xM(a:AS)(j:TypeId)(i b g:AV):Option AS:=
 match P.underlying j,i with
 |aa (.map d _),.b8 id=>
  match a.hp[id]?,nY P d with
  |aa (.mp e c vs),aa f=>
   if nZ P d f b then
    match findKey P d f b c 0 with
    |aa (aa h)=>aa {a with hp:=a.hp.set id (.mp e c (vs.set h g.pl))}
    |aa ae=>aa {a with hp:=a.hp.set id (.mp e (c++[b]) (vs++[g.pl]))}
    |ae=>ae
   else ae
  |_,_=>ae
 |_,_=>ae
def zi(a:AS)(j:TypeId)(i b:AV):Option (AV×AS):=
 match P.underlying j,i with
 |aa (.map d h),.b8 id=>
  match a.hp[id]?,nY P d with
  |aa (.mp ad c vs),aa f=>
   if nZ P d f b then
    match findKey P d f b c 0 with
    |aa (aa e)=>match vs[e]? with|aa k=>aa (.aB [k,.int .i64 e],a)|ae=>ae
    |aa ae=>
     match sR P h with
     |aa g=>aa (.aB [g,.int .i64 (Z c)],{a with hp:=a.hp.set id (.mp ad (c++[b]) (vs++[g]))})
     |ae=>ae
    |ae=>ae
   else ae
  |_,_=>ae
 |_,_=>ae
def AU(a:AS)(d e f:AV):Option AS:=
 match d,e with
 |.b8 id,.int _ (.ofNat c)=>
  match a.hp[id]? with
  |aa (.mp ad b vs)=>if c<Z b then aa {a with hp:=a.hp.set id (.mp ad b (vs.set c f.pl))}else ae
  |_=>ae
 |_,_=>ae
def AW(a:AS)(h:TypeId)(g d:AV):Option AS:=
 match P.underlying h,g with
 |aa (.map b _),.b8 id=>
  match a.hp[id]?,nY P b with
  |aa (.mp i f vs),aa e=>
   if nZ P b e d then
    match findKey P b e d f 0 with
    |aa (aa c)=>aa {a with hp:=a.hp.set id (.mp ab (f.eraseIdx c) (vs.eraseIdx c))}
    |aa ae=>aa a
    |ae=>ae
   else ae
  |_,_=>ae
 |_,_=>ae
def l8(e:AS)(f:TypeId)(g:AV):Option AV:=
 match P.underlying f,g with
 |aa .string,.str b=>aa (.int .i64 (Z b))
 |aa (.slice _),.aq=>aa (.int .i64 0)
 |aa (.slice _),.dL=>aa (.int .i64 0)
 |aa (.slice _),.sl _ c=>aa (.int .i64 (Z c))
 |aa (.slice _),.q _ _ _ len=>aa (.int .i64 len)
 |aa (.array d _),_=>aa (.int .i64 d)
 |aa (.map _ _),.b8 id=>match e.hp[id]? with|aa (.mp _ a _)=>aa (.int .i64 (Z a))|_=>ae
 |aa (.map _ _),.il a _=>aa (.int .i64 (Z a))
 |_,_=>ae
def tU(c:AS)(f g:TypeId)(e h:AV):Option (AV×AS):=
 match P.underlying f,P.underlying g,e,h with
 |aa (.slice a),aa (.int .i64),.aq,.int .i64 b=>
  match qw P a with
  |aa d=>if Z d=bj P a/\0<bj P a/\0<uT P a/\0<b/\b*uT P a<=2^47 then aa (.q (Z c.hp) 0 0 b.toNat,{c with hp:=c.hp++[.arr 0 (bj P a) (dh b.toNat d)]})else ae
  |ae=>ae
 |_,_,_,_=>ae
def AX(b:AS)(h:TypeId)(i:AV):Option AS:=
 match P.underlying h,i with
 |aa (.slice c),.q id g off len=>
  match qw P c,b.hp[id]? with
  |aa e,aa (.arr f a d)=>
   if f=g/\Z e=a/\a=bj P c/\0<a then aa {b with hp:=b.hp.set id (.arr g a (d.take off++(dh len e++d.drop (off+len))))}else ae
  |_,_=>ae
 |_,_=>ae
def tW:List AV->Option AV
 |[.int c a,.int _ b]=>aa (.int c (if b<a then b else a))
 |_=>ae
def sT:List AV->Option AV
 |[.int c a,.int _ b]=>aa (.int c (if b>a then b else a))
 |_=>ae
def kq(b:AS)(h:Builtin)(g:List TypeId)(args:List AV):Option (AV×AS):=
 match h,g,args with
 |.len,[a],[c]=>(l8 P b a c).map (·,b)
 |.append,[a,f],[e,c]=>if qx P f then o1 P b a e c else tU P b a f e c
 |.cap,[a],[.aq]=>match P.underlying a with|aa (.slice _)=>aa (.int .i64 0,b)|_=>ae
 |.clear,[a],[c]=>(AX P b a c).map (.aB [],·)
 |.delete,[a,_],[j,i]=>(AW P b a j i).map (.aB [],·)
 |.min,_,d=>(tW d).map (·,b)
 |.max,_,d=>(sT d).map (·,b)
 |_,_,_=>ae
variable(A:bS)
def qy(a:List UInt8)(pos:Nat):Nat×Nat:=Utf8.decode ⟨a.toArray⟩ pos
def wb(c:AV)(a:List Obj):Option (AV×List Obj):=
 match c with
 |.str b=>aa (.pI (Z a),a++[.iH b 0])
 |_=>ae
def tX(c:AV)(b:List Obj):Option (AV×List Obj):=
 match c with
 |.pI id=>
  match b[id]? with
  |aa (.iH a pos)=>if pos<Z a then aa (.aB [.bool ad,.int .i64 pos,.int .i32 (qy a pos).1],b.set id (.iH a (pos+(qy a pos).2)))else aa (.aB [.bool ab],b)
  |_=>ae
 |_=>ae
def sU(a:AS)(r:Option (AV×List Obj)):Option (AV×AS):=r.map λr=>(r.1,{a with hp:=r.2})
def fT(a:AS)(b:Option AV):Option (AV×AS):=b.map (·,a)
def AY(a:Oper):Op×Option Tmp:=(a.op,a.dst)
def Fm(c:Operand)(b:List Nat):Bool:=
 match c with
 |.tmp a=>y (a∉b)
 |_=>ad
def CQ:Code->Option (Operand×Operand×List Nat)
 |.seq (.region _ n ab) (.block h (.loop (.seq (.region _ o ab) (.seq (.cond (.tmp f) .skip (.exit y)) (.block D (.seq (.region _ p ab) (.region _ r3 ab)))))))=>
  match n.toList.map AY,o.toList.map AY,p.toList.map AY,r3.toList.map AY with
  |[(.move j,aa l),(.range H (.tmp F),aa c)],[(.next (.tmp z) ab,aa k),(.extract (.tmp C) 0,aa v)],[(.entry (.tmp A),aa b),(.extract (.tmp w) 0,aa r),(.extract (.tmp x) 1,aa s),(.assign (.tmp K),aa i),(.assign (.tmp L),aa q)],[(.move g,aa m),(.move (.tmp B),aa d),(.move (.tmp J),aa e),(.mapUpdate I (.tmp G) (.tmp t) (.tmp u),ae)]=>
   let a:=[l,c,k,f,b,r,s,i,q,m,d,e]
   if(h=y/\D≠h/\F=l/\z=c/\A=c/\C=k/\v=f/\w=b/\x=b/\K=r/\L=s/\B=i/\J=q/\G=m/\t=d/\u=e)/\a.Nodup/\Fm j a=ad/\Fm g a=ad/\xL P H=ad/\xL P I=ad/\(n.toList++(o.toList++(p.toList++r3.toList))).all (λE=>E.guard.isNone)=ad then aa (j,g,a)else ae
  |_,_,_,_=>ae
 |_=>ae
def lJ(b:List Nat)(a:List (Nat×K)):List (Nat×K):=b.foldr lA a
def zj(a:AS)(b:TypeId)(r:Option Operand):Bool:=
 match r with
 |ae=>ad
 |aa c=>match l G a c,P.underlying b with|.int .i64 _,aa (.map _ _)=>ad|_,_=>ab
def aW(a:AS)(p:Option Tmp)(op:Op):Option (AV×AS):=
 match op with
 |.move c=>aa ((l G a c).pl,a)
 |.assign c=>
  match c,p with
  |.const (.slice ae 0 0),aa d=>
   match look d A.acc with
   |aa D=>aa (.q (Z a.hp) 0 0 0,{a with hp:=a.hp++[.arr 0 D []]})
   |ae=>aa (.aq,a)
  |_,_=>aa ((l G a c).pl,a)
 |.pick g f e=>match l G a g with|.bool b=>aa ((if b then(l G a f).pl else(l G a e).pl),a)|_=>ae
 |.alloc h=>
  match qw P h,p with
  |aa j,aa d=>
   if Z j=bj P h then
    if d∈A.lb then aa (.lp d 0,{a with env:=oY d a.env,bx:=put d j a.bx})
    else aa (.ptr (Z a.hp) 0 0 0,{a with hp:=a.hp++[.arr 0 (bj P h) [j]]})
   else ae
  |_,_=>ae
 |.box h c=>
  match p with
  |aa d=>
   let j:=(l G a c).pl.cells
   if Z j=bj P h/\j.all AV.bU=ad then
    if d∈A.lb then aa (.lp d 0,{a with env:=oY d a.env,bx:=put d j a.bx})
    else if d∈A.own then aa (.ptr (Z a.hp) 0 0 0,{a with hp:=a.hp++[.arr 0 (bj P h) [j]]})
    else aa (.aH ab j 0,a)
   else ae
  |ae=>ae
 |.build b t=>fT a (zf P b (t.toList.map λo=>(o.1,l G a o.2)))
 |.buildSlice b s t=>tT P (p.any (· ∈A.own)) a b s (t.toList.map λo=>(o.1,l G a o.2))
 |.load b f=>fT a ((oZ P a b (l G a f)).map .pl)
 |.store b f v=>(vZ P a b (l G a f) (l G a v)).map (.undef,·)
 |.nilCheck c=>
  match l G a c with
  |.fn i f e=>aa (.fn i f e,a)
  |v=>fT a (mM a 0 v)
 |.binOp op b c F _=>fT a (tS P op b (l G a c) (l G a F))
 |.unOp op _ c=>fT a (nw op (l G a c))
 |.convert f e c=>fT a (xJ P f e (l G a c))
 |.makeInterface b c=>match P.underlying b with|aa (.interface _)=>ae|aa _=>aa (.iface b (l G a c).pl,a)|ae=>ae
 |.makeFunc i first cap=>match i with|.func i=>aa (.fn i (first.toList.map λc=>(l G a c).pl) (cap.toList.map λc=>(l G a c).pl),a)|_=>ae
 |.makeMap b r=>if zj P G a b r=ad then aa (.b8 (Z a.hp),{a with hp:=a.hp++[.mp ad [] []]})else ae
 |.makeSlice b B g=>zg P a b (l G a B) (l G a g)
 |.range b c=>match P.underlying b with|aa .string=>sU a (wb (l G a c) a.hp)|_=>ae
 |.next c e=>if e then sU a (tX (l G a c) a.hp)else ae
 |.slice b c x w z=>
  match P.underlying b,l G a c with
  |aa (.array s h),.aH e u 0=>
   if x.isNone&&w.isNone&&z.isNone&&y (Z u=s*bj P h)&&y (bj P h=1)then aa (.sl e (u.map λg=>[g]),a)else ae
  |_,v=>
   match z with
   |ae=>nt P a b v (x.map (l G a)) (w.map (l G a))
   |aa _=>ae
 |.fieldAddr b c i=>fT a (v7 P a b (l G a c) i)
 |.field b c i=>fT a ((CN P b (l G a c) i).map .pl)
 |.indexAddr b c n=>fT a (rN P a b (l G a c) (l G a n))
 |.index b c n=>fT a ((CO P b (l G a c) (l G a n)).map .pl)
 |.lookup b k m ok=>fT a ((uU P a b (l G a k) (l G a m) ok).map .pl)
 |.mapEntry b k m=>zi P a b (l G a k) (l G a m)
 |.entryStore _ k C v=>(AU a (l G a k) (l G a C) (l G a v)).map (.undef,·)
 |.mapUpdate b k m v|.insert b k m v=>(xM P a b (l G a k) (l G a m) (l G a v)).map (.undef,·)
 |.extract c n=>match l G a c with|.aB vs=>(vs[n]?).map (·.pl,a)|_=>ae
 |.typeAssert c _ b ok=>
  match P.underlying b,l G a c with
  |aa (.interface _),_=>ae
  |aa _,.iface E v=>if E=b/\ok=ab then aa (v.pl,a)else ae
  |_,_=>ae
 |.call g=>
  match g.callee with
  |.builtin e=>kq P a e g.argTypes.toList (g.args.toList.map (l G a))
  |_=>ae
 |_=>ae
def gn(b:Option Tmp)(r:AV×AS):AS:=
 match b with
 |aa a=>{r.2 with env:=put a r.1 r.2.env}
 |ae=>r.2
end
inductive Md where
 |dm|cd|res
 deriving DecidableEq
mutual
inductive aM(a:List Obj):Md->AV->AV->Prop
 |int (b:Md) (w:IntKind) (x:Int):aM a b (.int w x) (.int w x)
 |bool (b:Md) (c:Bool):aM a b (.bool c) (.bool c)
 |str (b:Md) (y:List UInt8):aM a b (.str y) (.str y)
 |gH (b:Md):aM a b .gH .gH
 |fP (b:Md):aM a b .fP .fP
 |jZ (b:Md):aM a b .jZ .jZ
 |undef (b:Md) (k:AV):aM a b k .undef
 |aq (b:Md) (c:Bool):aM a b .aq (.sl c [])
 |dL (b:Md) (c:Bool):aM a b .dL (.sl c [])
 |agg (b:Md) (d e:List AV) (h:b7 a b d e):aM a b (.agg d) (.agg e)
 |aB (b:Md) (d e:List AV) (h:b7 a b d e):aM a b (.aB d) (.aB e)
 |xN (b:Md) (C:b≠.res) (c:Bool) (f i:List (List AV)) (h:fJ a .dm f i):aM a b (.sl c f) (.sl c i)
 |CR (c:Bool) (f i:List (List AV)) (h:fJ a .dm f i):aM a .dm (.sl c f) (.sl ad i)
 |CS (c:Bool) (f i:List (List AV)) (h:fJ a .res f i):aM a .res (.sl c f) (.sl c i)
 |AZ (c:Bool) (f i:List (List AV)) (h:fJ a .cd f i):aM a .cd (.sl c f) (.sl ad i)
 |wc (id g off len o:Nat) (f i:List (List AV)) (r:a[id]?=aa (.arr g o f)) (B:off+len<=Z f) (h:fJ a .cd ((f.drop off).take len) i):aM a .cd (.q id g off len) (.sl ad i)
 |pK (id g off len o:Nat) (f i:List (List AV)) (r:a[id]?=aa (.arr g o f)) (B:off+len<=Z f) (h:fJ a .res ((f.drop off).take len) i):aM a .res (.q id g off len) (.sl ab i)
 |uV (b:Md) (C:b≠.res) (c:Bool) (d e:List AV) (off:Nat) (h:b7 a .dm d e):aM a b (.aH c d off) (.aH c e off)
 |Jl (c:Bool) (d e:List AV) (off:Nat) (h:b7 a .dm d e):aM a .dm (.aH c d off) (.aH ad e off)
 |CT (c:Bool) (d e:List AV) (off:Nat) (h:b7 a .res d e):aM a .res (.aH c d off) (.aH c e off)
 |A0 (c:Bool) (d e:List AV) (off:Nat) (h:b7 a .cd d e):aM a .cd (.aH c d off) (.aH ad e off)
 |o2 (id g p off o:Nat) (f:List (List AV)) (d e:List AV) (r:a[id]?=aa (.arr g o f)) (A:f[p]?=aa d) (h:b7 a .cd d e):aM a .cd (.ptr id g p off) (.aH ad e off)
 |Fo (id g p off o:Nat) (f:List (List AV)) (d e:List AV) (r:a[id]?=aa (.arr g o f)) (A:f[p]?=aa d) (h:b7 a .res d e):aM a .res (.ptr id g p off) (.aH ab e off)
 |zk (l vs m j:List AV) (h:b7 a .dm l m) (t:b7 a .dm vs j):aM a .dm (.il l vs) (.il m j)
 |xO (l vs m j:List AV) (h:b7 a .cd l m) (t:b7 a .cd vs j):aM a .cd (.il l vs) (.il m j)
 |xP (id:Nat) (z:Bool) (l vs m j:List AV) (r:a[id]?=aa (.mp z l vs)) (h:b7 a .cd l m) (t:b7 a .cd vs j):aM a .cd (.b8 id) (.il m j)
 |fn (b:Md) (v:Nat) (u bs d e:List AV) (h:b7 a b u bs) (t:b7 a b d e):aM a b (.fn v u d) (.fn v bs e)
 |iface (b:Md) (s:Nat) (k n:AV) (h:aM a b k n):aM a b (.iface s k) (.iface s n)
inductive b7 (a:List Obj):Md->List AV->List AV->Prop
 |nil (b:Md):b7 a b [] []
 |cons (b:Md) (k n:AV) (vs j:List AV) (h:aM a b k n) (s:b7 a b vs j):b7 a b (k::vs) (n::j)
inductive fJ (a:List Obj):Md->List (List AV)->List (List AV)->Prop
 |nil (b:Md):fJ a b [] []
 |cons (b:Md) (k n:List AV) (vs j:List (List AV)) (h:b7 a b k n) (s:fJ a b vs j):fJ a b (k::vs) (n::j)
end
variable{M:List Obj}{dd:Md}{E dG:AV}{bF:List AV}
theorem b7.ck{vs:List AV}(h:aM M dd E dG)(a:b7 M dd vs bF):b7 M dd (E::vs) (dG::bF):=.cons _ _ _ _ _ h a
variable{b1:List (List AV)}
theorem fJ.ck{a:List AV}{vs:List (List AV)}(h:b7 M dd bF a)(b:fJ M dd vs b1):fJ M dd (bF::vs) (a::b1):=.cons _ _ _ _ _ h b
mutual
inductive NB:AV->Prop
 |int (e:IntKind) (f:Int):NB (.int e f)
 |bool (c:Bool):NB (.bool c)
 |str (g:List UInt8):NB (.str g)
 |gH:NB .gH
 |fP:NB .fP
 |jZ:NB .jZ
 |undef:NB .undef
 |agg (a:List AV) (h:sV a):NB (.agg a)
 |aB (a:List AV) (h:sV a):NB (.aB a)
 |Jm (c:Bool):NB (.sl c [])
 |sl (d:List (List AV)) (h:we d):NB (.sl ab d)
 |aH (a:List AV) (off:Nat) (h:sV a):NB (.aH ab a off)
inductive sV:List AV->Prop
 |nil:sV []
 |cons (b:AV) (vs:List AV) (h:NB b) (i:sV vs):sV (b::vs)
inductive we:List (List AV)->Prop
 |nil:we []
 |cons (b:List AV) (vs:List (List AV)) (h:sV b) (i:we vs):we (b::vs)
end
inductive A1(s:AS):Md->AV->AV->Prop
 |of (m:Md) (v u:AV) (h:aM s.hp m v u):A1 s m v u
 |lp (k off:Nat) (cs ds:List AV) (hb:look k s.bx=aa cs) (h:b7 s.hp .cd cs ds):A1 s .cd (.lp k off) (.aH ad ds off)
inductive qz(s:AS)(m:Md):List AV->List AV->Prop
 |nil:qz s m [] []
 |cons (v u:AV) (vs us:List AV) (h:A1 s m v u) (t:qz s m vs us):qz s m (v::vs) (u::us)
inductive fg where
 |norm
 |exit(id:Nat)
 |ret
 deriving DecidableEq
abbrev fu:=Nat->List AV->List Obj->AV->List Obj->Prop
section
variable(P:Program)(G:Nat->Option (List AV))(An:Nat->bS)(X:fu)
def gh(d:Array Oper)(e:AS)(c:Oper):Option Bool:=
 match c.guard with
 |ae=>aa ad
 |aa (b,g)=>
  match(d[b]?).bind (·.dst)with
  |aa f=>
   match look f e.env with
   |aa (.bool a)=>aa (a==g)
   |aa (.aB [])=>aa ab
   |_=>ae
  |ae=>ae
def jc(b:AS)(c:Call):Option (Nat×List AV):=
 match c.callee with
 |.value a=>
  match l G b a with
  |.fn a first cap=>aa (a,first.map AV.pl++c.args.toList.map (l G b)++cap.map AV.pl)
  |_=>ae
 |.invoke r name=>
  match l G b r with
  |.iface e f=>
   match((P.info? e).bind λh=>h.methods.find? (·.name==name))with
   |some d=>
    match d.path.toList,d.func,P.underlying e with
    |[],aa (a,ad),aa (.pointer _)=>aa (a,f.pl::c.args.toList.map (l G b))
    |[],aa (a,ab),aa (.pointer g)=>
     match oZ P b g f.pl with
     |aa i=>aa (a,i.pl::c.args.toList.map (l G b))
     |ae=>ae
    |_,_,_=>ae
   |none=>ae
  |_=>ae
 |.builtin _=>ae
def sW(b:bS)(a:AS):AS:={env:=k1 b.mL a.env,bx:=k1 b.mL a.bx,hp:=a.hp}
def qA(c:bS)(d:Operand)(a:AS):AS:=
 match d with
 |.tmp b=>if b∈c.cs then{a with env:=lA b a.env}else a
 |_=>a
def Fp(b a:AS):AS:={env:=k1 (b.env.map (·.1)) a.env,bx:=k1 (b.bx.map (·.1)) a.bx,hp:=a.hp}
def gJ(b:Array Oper)(a:List Nat):List Oper:=a.filterMap (b[·]?)
def pL(a:Array Oper)(done:List Nat):List Nat->Prop
 |[]=>∀i,i<a.size->i∈done
 |i::d=>i∉done/\(∃c,a[i]?=aa c/\∀b∈c.after,Region.binds .any b=ad->b.on∈done)/\pL a (i::done) d
def uW(c:Nat)(e:Array Oper):Bool:=
 e.toList.zipIdx.all λ(b,d)=>b.dst.all (· <c)&&b.after.all λa=> !Region.binds .any a||a.on<d
def gK(b:Nat):Code->Bool
 |.region _ d _=>uW b d
 |.seq a c=>gK b a&&gK b c
 |.cond _ a c=>gK b a&&gK b c
 |.block _ a=>gK b a
 |.loop a=>gK b a
 |.scope a=>gK b a
 |_=>ad
def n0:Nat->List AV->List (Nat×AV)
 |_,[]=>[]
 |k,a::vs=>(k,a)::n0 (k+1) vs
def xQ(a:AS):ResultVar->Option AV
 |.tmp b=>aa ((look b a.env).getD .undef).pl
 |.cell c b=>(oZ P a b ((look c a.env).getD .undef)).map .pl
def wg(a:AS):List ResultVar->Option (List AV)
 |[]=>aa []
 |r::rs=>
  match xQ P a r,wg a rs with
  |aa b,aa vs=>aa (b::vs)
  |_,_=>ae
def xR(fn:Func)(a:AS):Option AV:=
 match wg P a fn.results.toList with
 |aa [b]=>aa b
 |aa vs=>aa (.aB vs)
 |ae=>ae
mutual
inductive n4:bS->Array Oper->List Oper->AS->AS->Prop
 |nil (b:bS) (f:Array Oper) (a:AS):n4 b f [] a a
 |skip (b:bS) (f:Array Oper) (c:Oper) (k:List Oper) (a d:AS) (y:gh f a c=aa ab) (h:n4 b f k (gn c.dst (.aB [],a)) d):n4 b f (c::k) a d
 |op (b:bS) (f:Array Oper) (c:Oper) (k:List Oper) (a d:AS) (r:AV×AS) (y:gh f a c=aa ad) (o:aW P G b a c.dst c.op=aa r) (h:n4 b f k (gn c.dst r) d):n4 b f (c::k) a d
 |uX (b:bS) (f:Array Oper) (c:Oper) (k:List Oper) (a d:AS) (i:Call) (j:Nat) (q:Md) (args z:List AV) (D r:AV) (B:List Obj) (y:gh f a c=aa ad) (o:c.op=.call i) (x:jc P G a i=aa (j,args))
  (N:q≠.res) (J:qz a q args z) (C:k5 j z [] D B) (R:aM B .res D r) (I:q=.cd->NB r) (h:n4 b f k (gn c.dst (r,a)) d):n4 b f (c::k) a d
 |uY (b:bS) (f:Array Oper) (c:Oper) (k:List Oper) (a d:AS) (i:Call) (j:Nat) (args:List AV) (r:AV) (A:List Obj) (y:gh f a c=aa ad) (o:c.op=.call i) (x:jc P G a i=aa (j,args))
  (C:k5 j (args.map AV.pl) a.hp r A) (h:n4 b f k (gn c.dst (r.pl,{a with hp:=A})) d):n4 b f (c::k) a d
inductive iI:bS->Code->AS->fg->AS->Prop
 |skip (b:bS) (a:AS):iI b .skip a .norm a
 |label (b:bS) (p:Nat) (a:AS):iI b (.label p) a .norm a
 |region (b:bS) (id:Nat) (f:Array Oper) (a d:AS) (h:n4 b f f.toList a d):iI b (.region id f ab) a .norm (sW b d)
 |Fq (b:bS) (id:Nat) (f:Array Oper) (a d:AS) (h:∀p,pL f [] p->n4 b f (gJ f p) a d):iI b (.region id f ad) a .norm (sW b d)
 |seq (b:bS) (e n:Code) (a m d:AS) (c:fg) (h:iI b e a .norm m) (F:iI b n m c d):iI b (.seq e n) a c d
 |Jn (b:bS) (e n:Code) (a d:AS) (c:fg) (h:iI b e a c d) (o:c≠.norm):iI b (.seq e n) a c d
 |cond (b:bS) (i:Operand) (e n:Code) (a d:AS) (c:fg) (E:Bool) (x:l G a i=.bool E) (h:iI b (if E then e else n) (qA b i a) c d):iI b (.cond i e n) a c d
 |block (b:bS) (id:Nat) (e:Code) (a d:AS) (c:fg) (h:iI b e a c d) (o:c≠.exit id):iI b (.block id e) a c d
 |abc (b:bS) (id:Nat) (e:Code) (a d:AS) (h:iI b e a (.exit id) d):iI b (.block id e) a .norm d
 |loop (b:bS) (e:Code) (a m d:AS) (c:fg) (h:iI b e a .norm m) (F:iI b (.loop e) (Fp a m) c d):iI b (.loop e) a c d
 |abd (b:bS) (e:Code) (a d:AS) (c:fg) (h:iI b e a c d) (o:c≠.norm):iI b (.loop e) a c d
 |exit (b:bS) (id:Nat) (a:AS):iI b (.exit id) a (.exit id) a
 |ret (b:bS) (a:AS):iI b .ret a .ret a
 |scope (b:bS) (e:Code) (a d:AS) (c:fg) (h:iI b e a c d):iI b (.scope e) a c d
 |sub (b:bS) (e:Code) (a m d:AS) (c:fg) (K:∀u v,look u m.env=aa v->look u a.env=aa v) (H:∀u v,look u m.bx=aa v->look u a.bx=aa v) (M:m.hp=a.hp) (h:iI b e m c d):iI b e a c d
 |abe (b:bS) (i:Code) (a:AS) (q g:Operand) (p:List Nat) (t:List Obj) (x:CQ P i=aa (q,g,p)) (o:xH (l G a q) (l G a g) a.hp=aa t):iI b i a .norm {env:=lJ p a.env,bx:=a.bx,hp:=t}
inductive k5:Nat->List AV->List Obj->AV->List Obj->Prop
 |run (j:Nat) (fn:Func) (w:Code) (args:List AV) (s:List Obj) (c:fg) (d:AS) (r:AV) (L:P.funcs[j]?=aa fn) (H:fn.body=aa w) (O:(fn.name== "runtime.NumGoroutine")=ab) (I:Z args<=fn.ntmps) (Q:gK fn.ntmps w=ad)
  (h:iI (An j) w {env:=n0 0 args,bx:=[],hp:=s} c d) (o:c=.norm\/c=.ret) (C:xR P fn d=aa r):k5 j args s r d.hp
 |uZ (j:Nat) (args:List AV) (s t:List Obj) (r:AV) (h:X j args s r t):k5 j args s r t
end
end
structure ar where
 w:World
 S:Bool->Nat->Prop
 h:Nat->Option (Nat×Nat)
 bx:Nat->Option Nat
 H:List Obj
mutual
inductive R(E:ar):AV->Value->Prop
 |int (l:IntKind) (D:Int):R E (.int l D) (.int l D)
 |bool (a:Bool):R E (.bool a) (.bool a)
 |str (a:ByteArray):R E (.str a.data.toList) (.string a)
 |agg (d:List AV) (vs:Array Value) (h:RL E d vs.toList) (y:∀f∈vs.toList,f.oneCell'=ad):R E (.agg d) (.agg vs)
 |aB (d:List AV) (vs:Array Value) (h:RL E d vs.toList):R E (.aB d) (.tuple vs)
 |aq:R E .aq (.slice ae 0 0)
 |dL (j:Addr):R E .dL (.slice (aa j) 0 0)
 |oW:R E .oW (.map ae)
 |jO (a:Bool) (j:Option Addr) (cap:Nat):R E (.sl a []) (.slice j 0 cap)
 |sl (m:Bool) (c:List (List AV)) (a e l cap:Nat) (d:Array Value) (p:TypeId) (r:Nat×Nat) (z:E.S m a) (A:E.w.heap[a]?=aa (.cells d p r)) (I:∀F∈c,Z F=l)
  (M:Z c<=cap) (J:e+Z c*l<=d.size) (h:RL E c.flatten ((d.toList.drop e).take (Z c*l))) (y:∀f∈(d.toList.drop e).take (Z c*l),f.oneCell'=ad):R E (.sl m c) (.slice (aa ⟨a,e,ae⟩) (Z c) cap)
 |q (id g off len:Nat) (b:Value) (t:id<Z E.H) (s:∃j cap,b=.slice j len cap) (G:∀n i c,E.H[id]?=aa (.arr n i c)->g<=n)
  (h:∀i c,E.H[id]?=aa (.arr g i c)->∃j cap,b=.slice j len cap/\len<=cap/\off+len<=Z c/\(cap=0\/∃a k,E.h id=aa (a,k)/\j=aa ⟨a,off*i,ae⟩/\(off+cap)*i<=k)):R E (.q id g off len) b
 |il (C vs:List AV) (a clock:Nat) (c:Array MapEntry) (z:E.S ad a) (A:E.w.heap[a]?=aa (.map c clock)) (I:RL E C (c.toList.map (·.key))) (N:RL E vs (c.toList.map (·.val))):R E (.il C vs) (.map (aa a))
 |b8 (id:Nat) (b:Value) (t:id<Z E.H) (s:b.oneCell'=ad) (h:∀e,E.H[id]?=aa e->e.CL=ad->∃a k,E.h id=aa (a,k)/\b=.map (aa a)):R E (.b8 id) b
 |pI (id:Nat) (b:Value) (t:id<Z E.H) (s:b.oneCell'=ad) (h:∀K pos,E.H[id]?=aa (.iH K pos)->∃a k,E.h id=aa (a,k)/\b=.pointer (aa ⟨a,0,ae⟩)):R E (.pI id) b
 |ptr (id g B off:Nat) (b:Value) (t:id<Z E.H) (s:b.oneCell'=ad) (G:∀n i c,E.H[id]?=aa (.arr n i c)->g<=n) (h:∀i c,E.H[id]?=aa (.arr g i c)->∃a k,E.h id=aa (a,k)/\b=.pointer (aa ⟨a,B*i+off,ae⟩)):R E (.ptr id g B off) b
 |aH (m:Bool) (d:List AV) (off a e:Nat) (vs:Array Value) (p:TypeId) (r:Nat×Nat) (z:E.S m a) (A:E.w.heap[a]?=aa (.cells vs p r)) (J:e+Z d<=vs.size)
  (h:RL E d ((vs.toList.drop e).take (Z d))) (y:∀f∈(vs.toList.drop e).take (Z d),f.oneCell'=ad):R E (.aH m d off) (.pointer (aa ⟨a,e+off,ae⟩))
 |gH:R E .gH (.pointer ae)
 |fn (x:Nat) (v d:List AV) (o vs:Array Value) (h:RL E v o.toList) (L:RL E d vs.toList):R E (.fn x v d) (.func (.func x) o vs)
 |fP:R E .fP .nilFunc
 |iface (u:Nat) (b:AV) (f:Value) (h:R E b f):R E (.iface u b) (.iface u f)
 |jZ:R E .jZ .nilIface
 |undef (b:Value):R E .undef b
inductive RL (E:ar):List AV->List Value->Prop
 |nil:RL E [] []
 |cons (b:AV) (f:Value) (vs:List AV) (o:List Value) (h:R E b f) (u:RL E vs o):RL E (b::vs) (f::o)
end
def o3(b:ar)(id:Nat):Obj->Prop
 |.arr _ e a=>(∀l∈a,Z l=e)/\
  ((a=[]/\b.h id=ae)\/∃c d m,b.h id=aa (c,d.size)/\b.w.heap[c]?=aa (.cells d m (0,0))/\Z a*e<=d.size/\RL b a.flatten (d.toList.take (Z a*e))/\∀q∈d.toList.take (Z a*e),q.oneCell'=ad)
 |.mp n g vs=>∃(c:Nat)(a:Array MapEntry)(clock:Nat),b.h id=aa (c,0)/\b.w.heap[c]?=aa (.map a clock)/\RL b g (a.toList.map (·.key))/\RL b vs (a.toList.map (·.val))/\(n=ad->clock=Z g/\a.toList.map (·.born)=ay (Z g))
 |.fm o=>∃(c:Nat)(a:Array MapEntry)(clock:Nat)(f:List (Int×Int)),b.h id=aa (c,0)/\b.w.heap[c]?=aa (.map a clock)/\a.toList.map (·.key)=f.map (λi=>Value.int .i64 i.1)/\a.toList.map (·.val)=f.map (λi=>Value.int .i64 i.2)/\∀k,gi k f=gi k o
 |.iH p pos=>∃(c:Nat)(j:ByteArray),b.h id=aa (c,0)/\b.w.heap[c]?=aa (.stringIter j pos)/\j.data.toList=p
structure Good(E:ar):Prop where
 iJ:∀br b,E.S br b->E.S ad b
 iK:∀b,E.S ad b->b<E.w.heap.size
 dJ:∀id b z,E.h id=aa (b,z)->b<E.w.heap.size/\¬E.S ad b/\id<Z E.H
 j0:∀i j b z z',E.h i=aa (b,z)->E.h j=aa (b,z')->i=j
 blt:∀k b,E.bx k=aa b->b<E.w.heap.size/\¬E.S ad b/\∀id z,E.h id≠aa (b,z)
 mN:∀i j b,E.bx i=aa b->E.bx j=aa b->i=j
 gL:∀id o,E.H[id]?=aa o->o3 E id o
def hP:Obj->Obj->Option (Nat×Nat)->Option (Nat×Nat)->Prop
 |.arr g e c,.arr b f d,h,a=>g<=b/\(g=b->e=f/\Z c=Z d/\a=h)
 |.mp _ _ _,.mp _ _ _,h,a=>a=h
 |.mp _ _ _,.fm _,h,a=>a=h
 |.fm _,.fm _,h,a=>a=h
 |.iH _ _,.iH _ _,h,a=>a=h
 |_,_,_,_=>False
theorem hP.refl(a:Obj)(h:Option (Nat×Nat)):hP a a h h:=by
 cases a<;>simp[hP]
variable{gF:Obj}
theorem hP.trans{a b:Obj}{h g i:Option (Nat×Nat)}(e:hP gF a h g)(f:hP a b g i):hP gF b h i:=by
 cases gF<;>cases a<;>simp only[hP]at e<;>cases b<;>simp only[hP]at f<;>simp only[hP]
 let⟨j,k⟩:=e;let⟨l,m⟩:=f;refine⟨ix j l,λn=>?_⟩;have c:=k (by omega);have d:=m (by omega);exact⟨c.1.trans d.1,c.2.1.trans d.2.1,d.2.2.trans c.2.2⟩
 all_goals exact f.trans e
structure Fr(E E':ar):Prop where
 os:E'.w.os=E.w.os
 output:E'.w.output=E.w.output
 tape:E'.w.tape=E.w.tape/\E.w.drawn<=E'.w.drawn
 size:E.w.heap.size<=E'.w.heap.size
 pM:∀br b,E.S br b->E'.S br b
 pN:∀br b,E'.S br b->E.S br b\/E.w.heap.size<=b
 heap:∀b,b<E.w.heap.size->(∀id z,E.h id≠aa (b,z))->(∀k,E.bx k≠aa b)->E'.w.heap[b]?=E.w.heap[b]?
 la:Z E.H<=Z E'.H
 kJ:∀id o',id<Z E.H->E'.H[id]?=aa o'->∃o,E.H[id]?=aa o/\hP o o' (E.h id) (E'.h id)
 o4:∀id b z,E'.h id=aa (b,z)->(∃i z',E.h i=aa (b,z'))\/E.w.heap.size<=b
 rO:∀k b,E'.bx k=aa b->(∃k',E.bx k'=aa b)\/E.w.heap.size<=b
theorem Fr.refl(E:ar):Fr E E where
 os:=rfl
 output:=rfl
 tape:=⟨rfl,c7 _⟩
 size:=c7 _
 pM:=λ_ _ h=>h
 pN:=λ_ _ h=>.inl h
 heap:=λ_ _ _ _=>rfl
 la:=c7 _
 kJ:=λ_ a _ h=>⟨a,h,hP.refl _ _⟩
 o4:=by grind
 rO:=by grind
theorem Fr.trans{A B C:ar}(x:Fr A B)(y:Fr B C):Fr A C where
 os:=y.os.trans x.os
 output:=y.output.trans x.output
 tape:=⟨y.tape.1.trans x.tape.1,ix x.tape.2 y.tape.2⟩
 size:=ix x.size y.size
 pM:=λc b h=>y.pM c b (x.pM c b h)
 pN:=λc b h=>by
  rcases y.pN c b h with h|h;exact x.pN c b h;exact .inr (ix x.size h)
 heap:=λb hb l n=>by
  rw[y.heap b (jM hb x.size) ?_ ?_,x.heap b hb l n];intro id z e;rcases x.o4 id b z e with⟨i,f,j⟩|h;grind;omega;intro k e;rcases x.rO k b e with⟨r,j⟩|h;grind;omega
 la:=ix x.la y.la
 kJ:=λid q d h=>by
  let⟨o,m,a⟩:=y.kJ id q (jM d x.la) h;let⟨p,hp,g⟩:=x.kJ id o d m;exact⟨p,hp,g.trans a⟩
 o4:=λid b z h=>by
  rcases y.o4 id b z h with⟨i,f,e⟩|h;exact x.o4 i b f e;exact .inr (ix x.size h)
 rO:=λk b h=>by
  rcases y.rO k b h with⟨i,e⟩|h;exact x.rO i b e;exact .inr (ix x.size h)
variable{Y gE:ar}{T:Bool}{U:Nat}
theorem Fr.O2(b:Fr Y gE)(g:Good Y)(c:Y.S T U):gE.w.heap[U]?=Y.w.heap[U]?:=
 have h:=g.iJ T U c
 b.heap U (g.iK U h) (λid e a=>(g.dJ id U e a).2.1 h) (λd a=>(g.blt d U a).2.1 h)
structure Rm(E E':ar):Prop where
 S:∀br b,E.S br b->E'.S br b
 heap:∀br b,E.S br b->E'.w.heap[b]?=E.w.heap[b]?
 la:Z E.H<=Z E'.H
 kJ:∀id o',id<Z E.H->E'.H[id]?=aa o'->∃o,E.H[id]?=aa o/\hP o o' (E.h id) (E'.h id)
theorem Fr.rm(a:Fr Y gE)(g:Good Y):Rm Y gE:=⟨a.pM,λ_ _ h=>a.O2 g h,a.la,a.kJ⟩
mutual
theorem R.gV{o p:ar}(b:Rm o p):∀{c:AV}{k:Value},R o c k->R p c k
 |_,_,.int D X=>.int D X
 |_,_,.bool e=>.bool e
 |_,_,.str e=>.str e
 |_,_,.agg j vs h t=>.agg j vs (RL.gV b h) t
 |_,_,.aB j vs h=>.aB j vs (RL.gV b h)
 |_,_,.aq=>.aq
 |_,_,.dL a=>.dL a
 |_,_,.oW=>.oW
 |_,_,.jO e a cap=>.jO e a cap
 |_,_,.sl w m e d D cap j z A l u B P C h t=>.sl w m e d D cap j z A (b.S _ e l) ((b.heap _ _ l).trans u) B P C (RL.gV b h) t
 |_,_,.q id s off len c f n v h=>by
  refine .q id s off len c (jM f b.la) n (λN E m g=>?_) λE m g=>?_
  let⟨d,i,a⟩:=b.kJ id _ f g
  cases d with
  |arr r F y=>exact ix (v _ _ _ i) a.1
  |mp _ _ _=>cases a
  |fm _=>cases a
  |iH _ _=>cases a
  let⟨d,i,a⟩:=b.kJ id _ f g
  cases d with
  |arr r F y=>
   have x:r=s:=arw a.1 (v _ _ _ i)
   let⟨L,T,Q⟩:=a.2 x
   grind
  |mp _ _ _=>cases a
  |fm _=>cases a
  |iH _ _=>cases a
 |_,_,.il W vs e clock m l u B U=>.il W vs e clock m (b.S _ e l) ((b.heap _ _ l).trans u) (RL.gV b B) (RL.gV b U)
 |_,_,.b8 id c f n h=>.b8 id c (jM f b.la) n λY g J=>by
  let⟨d,i,a⟩:=b.kJ id _ f g
  have I:=h d i
  cases d<;>cases Y<;>simp only[hP,Obj.CL]at a J I<;>first|cases a;done|cases J;done|(rw[a];exact I trivial)
 |_,_,.pI id c f n h=>.pI id c (jM f b.la) n λac pos g=>by
  let⟨d,i,a⟩:=b.kJ id _ f g
  cases d with
  |arr _ _ _=>cases a
  |mp _ _ _=>cases a
  |fm _=>cases a
  |iH af Z=>rw[show p.h id=o.h id from a];grind
 |_,_,.ptr id s V off c f n v h=>by
  refine .ptr id s V off c (jM f b.la) n (λN E m g=>?_) λE m g=>?_
  let⟨d,i,a⟩:=b.kJ id _ f g
  cases d with
  |arr r F y=>exact ix (v _ _ _ i) a.1
  |mp _ _ _=>cases a
  |fm _=>cases a
  |iH _ _=>cases a
  let⟨d,i,a⟩:=b.kJ id _ f g
  cases d with
  |arr r F y=>
   have x:r=s:=arw a.1 (v _ _ _ i)
   let⟨L,T,Q⟩:=a.2 x
   grind
  |mp _ _ _=>cases a
  |fm _=>cases a
  |iH _ _=>cases a
 |_,_,.aH w j off e d vs z A l u C h t=>.aH w j off e d vs z A (b.S _ e l) ((b.heap _ _ l).trans u) C (RL.gV b h) t
 |_,_,.gH=>.gH
 |_,_,.fn M K j H vs h O=>.fn M K j H vs (RL.gV b h) (RL.gV b O)
 |_,_,.fP=>.fP
 |_,_,.iface G c k h=>.iface G c k (R.gV b h)
 |_,_,.jZ=>.jZ
 |_,_,.undef c=>.undef c
theorem RL.gV {o p:ar} (b:Rm o p):∀{c:List AV}{k:List Value},RL o c k->RL p c k
 |_,_,.nil=>.nil
 |_,_,.cons c k vs H h G=>.cons c k vs H (R.gV b h) (RL.gV b G)
end
variable{bA:Value}
theorem R.mono(a:Fr Y gE)(g:Good Y)(h:R Y E bA):R gE E bA:=R.gV (a.rm g) h
variable{hN:List Value}
theorem RL.mono(a:Fr Y gE)(g:Good Y)(h:RL Y bF hN):RL gE bF hN:=RL.gV (a.rm g) h
theorem RL.length:∀{a:List AV}{vs:List Value},RL Y a vs->Z vs=Z a
 |_,_,.nil=>rfl
 |_,_,.cons _ _ _ _ _ b=>by simp[RL.length b]
theorem RL.append:∀{b c:List AV}{vs d:List Value},RL Y b vs->RL Y c d->RL Y (b++c) (vs++d)
 |_,_,_,_,.nil,a=>a
 |_,_,_,_,.cons _ _ _ _ h e,a=>.cons _ _ _ _ h (RL.append e a)
theorem RL.drop:∀(n:Nat){a:List AV}{vs:List Value},RL Y a vs->RL Y (a.drop n) (vs.drop n)
 |0,_,_,h=>by simpa using h
 |_+1,_,_,.nil=>.nil
 |n+1,_,_,.cons _ _ _ _ _ b=>by simpa using RL.drop n b
theorem RL.take:∀(n:Nat){a:List AV}{vs:List Value},RL Y a vs->RL Y (a.take n) (vs.take n)
 |0,_,_,_=>by simpa using RL.nil
 |_+1,_,_,.nil=>.nil
 |n+1,_,_,.cons _ _ _ _ h b=>by simpa using RL.cons _ _ _ _ h (RL.take n b)
theorem RL.get{d:ar}:∀{e:List AV}{vs:List Value},RL d e vs->∀{c:Nat}{f:AV},e[c]?=aa f->∃b,vs[c]?=aa b/\R d f b
 |_,_,.nil,_,_,h=>by simp at h
 |_,_,.cons _ b _ _ h _,0,_,a=>by simp at a;subst a;exact⟨b,by simp,h⟩
 |_,_,.cons _ _ _ _ _ g,c+1,_,a=>by simp at a;simpa using RL.get g a
theorem RL.replicate{vs:List Value}(h:RL Y bF vs):∀n:Nat,RL Y (dh n bF).flatten (dh n vs).flatten
 |0=>.nil
 |n+1=>by simpa[List.replicate_succ]using RL.append h (RL.replicate h n)
theorem RL.one(h:R Y E bA):RL Y [E] [bA]:=.cons _ _ _ _ h .nil
theorem R.CU(h:R Y E bA)(e:E.bU=ad):bA.oneCell'=true:=by
 cases h with
 |q id g off len E b a c h=>obtain⟨d,cap,rfl⟩:=a;rfl
 |b8 id E b a h=>exact a
 |pI id E b a h=>exact a
 |ptr id g f off E b a c h=>exact a
 |_=>first|rfl|grind[AV.bU]
def RT(a:ar)(e:AV)(d:Value):Prop:=R a e d\/∃c off b,e=.lp c off/\a.bx c=aa b/\d=.pointer (aa ⟨b,off,ae⟩)
theorem R.pl(h:RT Y E bA):R Y E.pl bA:=by
 rcases h with h|⟨b,off,a,rfl,_,_⟩;cases E<;>first|exact h|exact .undef _
 exact .undef _
structure St(E:ar)(s:AS)(tmps:Array Value):Prop where
 bM:Good E
 hp:s.hp=E.H
 env:∀k v,look k s.env=aa v->RT E v (tmps.getD k undef)
 bx:∀k cs,look k s.bx=aa cs->∃b vs Fs,E.bx k=aa b/\E.w.heap[b]?=aa (.cells vs Fs (0,0))/\RL E cs vs.toList/\∀u∈vs.toList,u.oneCell'=ad
def ar.base(a:ar):ar:={w:=a.w,S:=λ_=>a.S ab,h:=λ_=>ae,bx:=λ_=>ae,H:=[]}
theorem ar.abf{E:ar}(g:Good E):Rm E.base E where
 S:=λa b h=>by cases a;exact h;exact g.iJ ab b h
 heap:=λ_ _ _=>rfl
 la:=tN _
 kJ:=λid c h=>absurd h (OF _)
theorem Fr.base{E:ar}(f:Fr E Y)(g:Good E):Rm E.base Y.base where
 S:=λ_ b h=>f.pM ab b h
 heap:=λ_ _ h=>f.O2 g (T:=false) h
 la:=c7 _
 kJ:=λid c h=>absurd h (OF _)
def dz(c:Nat->Option (List AV))(b:ar):Prop:=∀g a,c g=aa a->R b.base (.aH ab a 0) (.pointer (aa ⟨g,0,ae⟩))
theorem dz.mono{a:Nat->Option (List AV)}(h:dz a Y)(d:Fr Y gE)(g:Good Y):dz a gE:=λe b c=>R.gV (d.base g) (h e b c)
theorem dz.Jo{a:Nat->Option (List AV)}(h:dz a Y)(c:gE.base=Y.base):dz a gE:=λe b d=>by rw[c];exact h e b d
variable{u:TypeId}{oL:TypeInfo}{lu:TypeDesc}{L:AS}{s:Act}{B:Oper}{eJ:Array Value}{mJ:Nat × Nat}{cu:TypeId}{m:Operand}
section
variable{P:Program}{G:Nat->Option (List AV)}{A:bS}
theorem jy(h:P.info? u=aa oL):bj P u=oL.size:=by simp[bj,h]
theorem Jp(h:P.info? u=aa oL):uT P u=oL.bytes:=by simp[uT,h]
theorem info_of_underlying(h:P.underlying u=aa lu):∃a,P.info? u=aa a:=by
 grind[Program.underlying]
theorem A2(h:P.underlying u=aa lu):ft P u=ze lu:=by
 simp[ft,h]
theorem O3{a:AV}(h:ofValue bA=aa a):R Y a bA/\a.bU=true:=by
 unfold ofValue at h;split at h<;>simp at h<;>subst h
 exact⟨.bool _,rfl⟩;exact⟨.int _ _,rfl⟩;exact⟨.str _,rfl⟩;exact⟨.gH,rfl⟩;exact⟨.aq,rfl⟩;exact⟨.fP,rfl⟩;exact⟨.jZ,rfl⟩;exact⟨.oW,rfl⟩
theorem Jq{b:ar}:∀{vs:List Value}{c:List AV},xI vs=aa c->RL b c vs/\∀i∈vs,i.oneCell'=ad
 |[],c,h=>by simp[xI]at h;subst h;exact⟨.nil,by simp⟩
 |v::vs,c,h=>by
  simp only[xI]at h;rcases f:ofValue v with _|a;grind;rcases g:xI vs with _|bs;grind;simp[f,g]at h;subst h;let⟨d,j⟩:=O3 (Y:=b) f;let⟨k,l⟩:=Jq (b:=b) g;refine⟨.cons _ _ _ _ d k,λi e=>?_⟩;rcases b6.1 e with rfl|e;exact d.CU j;grind
theorem O4:R Y ((rM bA).getD .undef) bA:=by
 cases bA with
 |agg b=>
  simp only[rM];rcases h:xI b.toList with _|as;exact .undef _;let⟨c,d⟩:=Jq (b:=Y) h;exact .agg _ _ c d
 |_=>
  simp only[rM];generalize e:ofValue _=r;rcases r with _|a;exact .undef _;exact(O3 e).1
theorem dM(b:St Y L s.tmps)(e:dz G Y)(a:Operand):RT Y (l G L a) (s.eval a):=by
 cases a with
 |tmp c=>
  simp only[l,Act.eval];rcases h:look c L.env with _|v;exact .inl (.undef _);exact b.env c v h
 |const v=>exact .inl O4
 |global g=>
  simp only[l,Act.eval];rcases h:G g with _|cs;exact .inl (.undef _);exact .inl (R.gV (ar.abf b.bM) (e g cs h))
 |func d=>exact .inl (.fn d [] [] #[] #[] .nil .nil)
theorem R.cells{a:AV}(h:R Y a bA)(c:a.cells.all AV.bU=ad):RL Y a.cells bA.cells.toList/\∀e∈bA.cells.toList,e.oneCell'=true:=by
 cases a with
 |agg f=>cases h with|agg _ vs h b=>exact⟨h,b⟩
 |_=>
  simp only[AV.cells,oF,AO,y4]at c;have b:=h.CU c;have d:bA.cells=#[bA]:=by cases bA<;>first|rfl|simp[Value.oneCell']at b
  rw[d];exact⟨RL.one h,by grind⟩
def cx(P:Program)(f:Oper)(e:Act)(d:ar)(h:AV)(g:AS):Prop:=
 ∃b c a,(execOp e.eval f).run P d.w=.ok b a.w/\(b=.value c\/b=.skip/\c=undef)/\RT a h c/\St a g e.tmps/\Fr d a
theorem cx.still{a:AV}(d:St Y L s.tmps)(b:(execOp s.eval B).run P Y.w=.ok (.value bA) Y.w)(c:RT Y a bA):cx P B s Y a L:=
 ⟨_,bA,Y,b,.inl rfl,c,d,Fr.refl Y⟩
theorem Jr{w:World}(e:w.heap[U]?=aa (.cells eJ u mJ))(d:Nat)(b:List Value)(g:(eJ.toList.drop d).take (Z b)=b):
 ∀a c,b[a]?=aa c->w.cell? ((⟨U,d,ae⟩:Addr).add a)=aa c:=by
 intro a c f;rw[Addr.add_mid,cell_of_row w U _ eJ u mJ e];grind
theorem abg{w:World}(d:w.heap[U]?=aa (.cells eJ u mJ))(a b:Nat)(h:a+b<=eJ.size):
 (loadCells ⟨U,a,ae⟩ b).run P w=.ok ((eJ.toList.drop a).take b).toArray w:=by
 have c:Z ((eJ.toList.drop a).take b)=b:=by simp;omega
 have:=run_loadCells_list (P:=P) w ⟨U,a,ae⟩ ((eJ.toList.drop a).take b) (Jr d a _ (by rw[c]));rw[c]at this;exact this
theorem Js{w:World}(b:w.heap[U]?=aa (.cells eJ cu mJ))(a:Nat)(i:P.info? u=aa oL)(c:P.underlying u=aa lu)
 (h:a+oL.size<=eJ.size)(e:ft P u=ab->oL.size=1):
 (loadVar u ⟨U,a,ae⟩).run P w=.ok (if ft P u then .agg ((eJ.toList.drop a).take oL.size).toArray else((eJ.toList.drop a).take oL.size).headD undef) w:=by
 have l:=A2 c;have j:(isAgg u).run P w=.ok (ft P u) w:=by
  simp only[isAgg,Sem.run_bind,run_underlying c,Result.andThen_ok];rw[l];cases lu<;>rfl
 simp only[loadVar,Sem.run_bind,j,Result.andThen_ok];cases g:ft P u
 have k:=e g;rw[k]at h⊢;have d:a<eJ.size:=by omega
 have f:w.cell? ⟨U,a,ae⟩=aa eJ[a]:=by rw[cell_of_row w U a eJ cu mJ b];simp[d]
 simp[f,List.headD,OG,d];simp[sizeOf,typeInfo,i,abg (P:=P) b a oL.size h]
theorem Ft{b:Nat}:∀{a:List (List K)},(∀e∈a,Z e=b)->Z a.flatten=Z a*b
 |[],_=>by simp
 |e::a,h=>by
  have c:=h e (by simp);have d:=Ft (b:=b) (a:=a) (by grind);grind
theorem A3{d:Nat}:∀{b:List (List K)}{c:Nat}{a:List K},(∀e∈b,Z e=d)->b[c]?=aa a->(b.flatten.drop (c*d)).take d=a
 |[],c,a,_,h=>by simp at h
 |e::b,0,a,h,f=>by
  grind
 |e::b,c+1,a,h,f=>by
  have g:=h e (by simp);have i:=A3 (d:=d) (b:=b) (c:=c) (a:=a) (by grind) (by grind);simp_all[xB,aaI,uP,re]
theorem lf(d:List K)(c b a:Nat)(h:b+a<=c):((d.take c).drop b).take a=(d.drop b).take a:=by
 grind[List.drop_take,Nat.min_eq_left]
theorem fQ(c:Nat)(d:K)(a:List (Nat×K))(b:Nat):look b (put c d a)=if b=c then aa d else look b a:=by
 induction a with
 |nil=>
  grind[put,look]
 |cons f a e=>
  grind[put,look]
theorem abh(a c new:List AV)(b:Nat):e3 (a++c) (Z a+b) new=a++e3 c b new:=by
 unfold e3;rw[arx,aaI,gT (by omega),uP (by omega),show Z a+b -(Z a)=b by omega,show Z a+b+Z new -(Z a)=b+Z new by omega];simp
theorem Jt{d:Nat}:∀{b:List (List AV)}{a:Nat}{c new:List AV}{off:Nat},(∀e∈b,Z e=d)->b[a]?=aa c->off+Z new<=d->(b.set a (e3 c off new)).flatten=e3 b.flatten (a*d+off) new
 |[],a,c,_,_,_,h,_=>by simp at h
 |e::b,0,c,new,off,h,i,f=>by
  grind[e3]
 |e::b,a+1,c,new,off,h,i,f=>by
  have j:=h e (by simp);have g:=Jt (d:=d) (b:=b) (a:=a) (c:=c) (new:=new) (off:=off) (by grind) (by grind) f;simp only[OH,xB,g];rw[show(a+1)*d+off=Z e+(a*d+off)by rw[re];omega,abh]
theorem Fu(vs b:List K)(a c:Nat)(h:a+Z b<=c):(vs.take c).take a++b++(vs.take c).drop (a+Z b)=(vs.take a++b++vs.drop (a+Z b)).take c:=by
 by_cases d:a<=Z vs;grind[List.append_assoc,List.take_append,Nat.min_eq_left,List.length_take,List.take_of_length_le,List.drop_take];grind[Nat.min_eq_left,List.take_of_length_le,List.drop_eq_nil_of_le]
theorem Ju(r:St Y L s.tmps){t:AV}(h:RT Y t bA){i:List AV}{off:Nat}(a:pJ L t=aa (i,off)):
 ∃d o vs e u,bA=.pointer (aa ⟨d,o+off,ae⟩)/\Y.w.heap[d]?=aa (.cells vs e u)/\o+Z i<=vs.size/\RL Y i ((vs.toList.drop o).take (Z i))/\∀F∈(vs.toList.drop o).take (Z i),F.oneCell'=true:=by
 rcases h with h|⟨D,E,d,rfl,N,rfl⟩;cases t with
 |aH Q R E=>
  simp[pJ]at a;let⟨rfl,rfl⟩:=a;cases h with
  |aH _ _ _ d o vs e u V a af h v=>grind
 |ptr id g f E=>
  simp only[pJ]at a;rw[r.hp]at a;rcases q:Y.H[id]? with _|o;grind;cases o with
  |arr T b j=>
   simp only[q]at a;split at a;rename_i J;subst J;rcases k:j[f]? with _|c;grind;simp[k]at a;let⟨rfl,rfl⟩:=a;cases h with
   |ptr _ _ _ _ _ X U W h=>
    obtain⟨d,ah,K,rfl⟩:=h b j q;let⟨C,O⟩:=r.bM.gL id _ q;rcases O with⟨rfl,_⟩|⟨G,vs,e,y,p,ac,n,v⟩;simp at k;rw[K]at y;injection y with m;injection m with I S;subst I;have l:Z c=b:=C c (qp k);have M:f<Z j:=(fH.1 k).1;have B:f*b+b<=Z j*b:=by
     have:=mB b (show f+1<=Z j from M);rw[re]at this;exact this
    refine⟨d,f*b,vs,e,(0,0),rfl,p,by omega,?_,?_⟩;have x:=RL.take b (RL.drop (f*b) n);rw[A3 C k,lf _ _ _ _ B]at x;rw[l];exact x;intro F P;rw[l,<-lf _ _ _ _ B]at P;grind
   grind
  |mp _ _ _=>grind
  |fm _=>grind
  |iH _ _=>grind
 |_=>first|(simp[pJ]at a;done)|(cases h)
 simp only[pJ]at a;rcases A:look D L.bx with _|c;grind;simp[A]at a;let⟨rfl,rfl⟩:=a;let⟨G,vs,e,z,p,n,v⟩:=r.bx D _ A;rw[N]at z;injection z with m;subst m;have l:=n.length;simp only[y5]at l;refine⟨d,0,vs,e,(0,0),by simp,p,by omega,?_,?_⟩;grind[List.take_of_length_le];grind
theorem abi{a:List AV}{vs:List Value}(h:RL Y a vs)(b:Z a=1):R Y (a.headD .undef) (vs.headD undef):=by
 rcases h with _|⟨_,_,_,_,h,_⟩;simp at b;exact h
theorem Fv{g:Bool}{a:List AV}{vs:List Value}(h:RL Y a vs)(d:∀c∈vs,c.oneCell'=ad)(b:g=ab->Z a=1):
 R Y (qv g a) (if g then .agg vs.toArray else vs.headD undef):=by
 cases g
 simpa[qv]using abi h (b rfl);simpa[qv]using R.agg a vs.toArray (by omega) (by omega)
theorem abj{j:AV}(e:St Y L s.tmps)(n:dz G Y)(q:B.op=.load u m)(h:oZ P L u (l G L m)=aa j):cx P B s Y j L:=by
 unfold oZ at h;rcases g:pJ L (l G L m)with _|r;grind;let⟨f,off⟩:=r;simp only[g]at h;split at h;rename_i b;simp at h;subst h;let⟨x,d,vs,z,A,v,p,E,o,k⟩:=Ju e (dM e n m) g;let⟨y,i⟩:=sK.1 b.2.2;let⟨a,c⟩:=info_of_underlying i;rw[jy c]at b;have D:Z ((f.drop off).take a.size)=a.size:=by simp;omega
 have t:=Js (P:=P) p (d+off) c i (by omega) b.2.1;refine cx.still e (bA:=if ft P u then .agg ((vs.toList.drop (d+off)).take a.size).toArray else((vs.toList.drop (d+off)).take a.size).headD undef) ?_ (.inl ?_);unfold execOp;simp only[q,Instr.loadAt,v,Instr.sureAddr,Sem.run_bind,Sem.run_pure,Result.andThen_ok,t];rw[jy c];refine Fv ?_ ?_ (by grind);have C:=RL.take a.size (RL.drop off o)
 grind[lf,List.drop_drop];intro m w;apply k;rw[<-vU,<-lf _ (Z f) _ _ (by omega)]at w;grind;simp at h
end
structure cX(w w':World)(may:Nat->Prop):Prop where
 os:w'.os=w.os
 output:w'.output=w.output
 tape:w'.tape=w.tape/\w.drawn<=w'.drawn
 size:w.heap.size<=w'.heap.size
 block:∀b,b<w.heap.size->¬may b->w'.heap[b]?=w.heap[b]?
theorem cX.refl(w:World)(a:Nat->Prop):cX w w a:=⟨rfl,rfl,⟨rfl,c7 _⟩,c7 _,λ_ _ _=>rfl⟩
theorem cX.alloc(w:World)(a:Go.Obj)(c:Nat->Prop):cX w (w.alloc a) c:=
 ⟨rfl,rfl,⟨rfl,c7 _⟩,by simp,λb d _=>by show(w.heap.push a)[b]?=_;grind⟩
theorem cX.drew(w:World)(a:Nat->Prop):cX w w.drew a:=⟨rfl,rfl,⟨rfl,AP _⟩,c7 _,λ_ _ _=>rfl⟩
theorem cX.setRow(w:World)(g:Nat)(b:Array Value)(a:Nat->Prop)(h:a g):cX w (w.setRow g b) a:=
 ⟨rfl,rfl,⟨rfl,c7 _⟩,by simp,by grind[setRow_other]⟩
variable{eI:World}
theorem cX.trans{d e:World}{c:Nat->Prop}(a:cX eI d c)(b:cX d e c):cX eI e c:=
 ⟨b.os.trans a.os,b.output.trans a.output,⟨b.tape.1.trans a.tape.1,ix a.tape.2 b.tape.2⟩,ix a.size b.size,λh f g=>(b.block h (jM f a.size) g).trans (a.block h f g)⟩
theorem cX.mono{c:World}{d e:Nat->Prop}(b:cX eI c d)(h:∀a,d a->e a):cX eI c e:=
 ⟨b.os,b.output,b.tape,b.size,λa g i=>b.block a g λf=>i (h a f)⟩
theorem o3.mono(j:Fr Y gE)(g:Good Y){id:Nat}(i:gE.h id=Y.h id)(f:∀a q,Y.h id=aa (a,q)->gE.w.heap[a]?=Y.w.heap[a]?)(h:o3 Y id gF):o3 gE id gF:=by
 cases gF with
 |arr s x e=>
  refine⟨h.1,?_⟩;rcases h.2 with⟨b,c⟩|⟨a,n,o,b,c,d,k,l⟩;grind;exact .inr ⟨a,n,o,i.trans b,(f a _ b).trans c,d,RL.mono j g k,l⟩
 |mp r t vs=>
  let⟨a,e,clock,b,c,d,k,l⟩:=h;exact⟨a,e,clock,i.trans b,(f a _ b).trans c,RL.mono j g d,RL.mono j g k,l⟩
 |fm u=>
  let⟨a,e,clock,m,b,c,d⟩:=h;exact⟨a,e,clock,m,i.trans b,(f a _ b).trans c,d⟩
 |iH v pos=>
  let⟨a,p,b,c,d⟩:=h;exact⟨a,p,i.trans b,(f a _ b).trans c,d⟩
def ar.bW(a:ar)(e:World)(id:Nat)(d:Obj)(c:Option (Nat×Nat)):ar:=
 {a with w:=e,H:=a.H.set id d,h:=λb=>if b=id then c else a.h b}
theorem ar.sX(g:Good Y){id:Nat}{j:Obj}{e:Option (Nat×Nat)}(f:cX Y.w eI (λa=>∃c,Y.h id=aa (a,c)))(y:Y.H[id]?=aa gF)
 (D:hP gF j (Y.h id) e)(p:∀a c,e=aa (a,c)->a<eI.heap.size/\((∃k,Y.h id=aa (a,k))\/Y.w.heap.size<=a))
 (G:Fr Y (Y.bW eI id j e)->o3 (Y.bW eI id j e) id j):Fr Y (Y.bW eI id j e)/\Good (Y.bW eI id j e):=by
 have E:id<Z Y.H:=(fH.1 y).1;have v:∀a,a<Y.w.heap.size->(∀c,Y.h id≠aa (a,c))->eI.heap[a]?=Y.w.heap[a]?:=λa e F=>f.block a e (by grind);have t:Fr Y (Y.bW eI id j e):={
  os:=f.os,output:=f.output,tape:=f.tape,size:=f.size
  pM:=λ_ _ h=>h,pN:=λ_ _ h=>.inl h
  heap:=λa dJ o _=>v a dJ (λc=>o id c)
  la:=by simp[ar.bW]
  kJ:=λd s n q=>by
   simp only[ar.bW,ary]at q;by_cases b:id=d;grind[ar.bW];simp_all[ar.bW,CC,hP.refl]
  o4:=by grind[ar.bW]
  rO:=λr a b=>.inl ⟨r,b⟩}
 refine⟨t,?_⟩;exact{
  iJ:=g.iJ
  iK:=λa h=>jM (g.iK a h) f.size
  dJ:=λd a c b=>by
   simp only[ar.bW]at b;split at b;rename_i n;subst n;let⟨l,m⟩:=p a c b;refine⟨l,?_,by grind[ar.bW]⟩;rcases m with⟨k,h⟩|h;exact(g.dJ _ a k h).2.1;intro z;have:=g.iK a z;omega;let⟨l,m,x⟩:=g.dJ d a c b;exact⟨jM l f.size,m,by grind[ar.bW]⟩
  j0:=λd B a c k b i=>by
   simp only[ar.bW]at b i;split at b<;>split at i
   simp_all;rename_i n u;rcases(p a c b).2 with⟨C,h⟩|h;exact absurd (g.j0 _ _ _ _ _ h i) (CC u);have:=(g.dJ B a k i).1;omega;rename_i n u;rcases(p a k i).2 with⟨C,h⟩|h;exact absurd (g.j0 _ _ _ _ _ b h) n;have:=(g.dJ d a c b).1;omega;exact g.j0 _ _ _ _ _ b i
  blt:=λr a b=>by
   let⟨l,m,x⟩:=g.blt r a b;refine⟨jM l f.size,m,λd c i=>?_⟩;grind[ar.bW]
  mN:=g.mN
  gL:=λd s q=>by
   by_cases b:id=d;grind[ar.bW];have A:Y.H[d]?=aa s:=by simpa[ar.bW,ary,b]using q
   refine o3.mono t g (by grind[ar.bW]) (λa c o=>?_) (g.gL d s A);exact v a (g.dJ d a c o).1 λk h=>b (g.j0 _ _ _ _ _ h o)}
def ar.new(a:ar)(e:World)(d:Obj)(c:Option (Nat×Nat)):ar:=
 {a with w:=e,H:=a.H++[d],h:=λb=>if b=Z a.H then c else a.h b}
theorem ar.Fw(g:Good Y){f:Option (Nat×Nat)}(e:cX Y.w eI (λ_=>False))
 (l:∀a d,f=aa (a,d)->a<eI.heap.size/\Y.w.heap.size<=a)(z:Fr Y (Y.new eI gF f)->o3 (Y.new eI gF f) (Z Y.H) gF):Fr Y (Y.new eI gF f)/\Good (Y.new eI gF f):=by
 have t:∀c,c<Z Y.H->(Y.new eI gF f).h c=Y.h c:=by grind[ar.new]
 have y:∀a d,Y.h (Z Y.H)≠aa (a,d):=λa d b=>by have:=(g.dJ _ _ _ b).2.2;omega
 have p:Fr Y (Y.new eI gF f):={
  os:=e.os,output:=e.output,tape:=e.tape,size:=e.size
  pM:=λ_ _ h=>h,pN:=λ_ _ h=>.inl h
  heap:=λa dJ _ _=>e.block a dJ (λh=>h)
  la:=by simp[ar.new]
  kJ:=λc o hi m=>by
   grind[ar.new,List.getElem?_append_left,hP.refl]
  o4:=by grind[ar.new]
  rO:=λn a b=>.inl ⟨n,b⟩}
 refine⟨p,?_⟩;exact{
  iJ:=g.iJ
  iK:=λa h=>jM (g.iK a h) e.size
  dJ:=λc a d b=>by
   simp only[ar.new]at b;split at b;rename_i hi;subst hi;let⟨j,k⟩:=l a d b;exact⟨j,λu=>by have:=g.iK a u;omega,by simp[ar.new]⟩;let⟨j,k,r⟩:=g.dJ c a d b;exact⟨jM j e.size,k,by grind[ar.new]⟩
  j0:=λc x a d q b i=>by
   simp only[ar.new]at b i;split at b<;>split at i
   simp_all;have:=(l a d b).2;have:=(g.dJ x a q i).1;omega;have:=(l a q i).2;have:=(g.dJ c a d b).1;omega;exact g.j0 _ _ _ _ _ b i
  blt:=λn a b=>by
   let⟨j,k,r⟩:=g.blt n a b;refine⟨jM j e.size,k,λc d i=>?_⟩;grind[ar.new]
  mN:=g.mN
  gL:=λc o m=>by
   rcases I2 c (Z Y.H)with hi|hi|hi;have v:Y.H[c]?=aa o:=by rw[<-m];simp[ar.new,oG hi]
   exact o3.mono p g (t c hi) (λa d s=>e.block a (g.dJ c a d s).1 (λh=>h)) (g.gL c o v);grind[ar.new];exfalso;have:c<Z (Y.H++[gF]):=(fH.1 m).1;grind}
def ar.box(a:ar)(e:World)(d c:Nat):ar:={a with w:=e,bx:=λb=>if b=d then aa c else a.bx b}
variable{N:Nat}
theorem ar.Jv(g:Good Y)(d:cX Y.w eI (λ_=>False))(dJ:N<eI.heap.size)(r:Y.w.heap.size<=N):Fr Y (Y.box eI U N)/\Good (Y.box eI U N):=by
 have o:Fr Y (Y.box eI U N):={
  os:=d.os,output:=d.output,tape:=d.tape,size:=d.size
  pM:=λ_ _ h=>h,pN:=λ_ _ h=>.inl h
  heap:=λN dJ _ _=>d.block N dJ (λh=>h)
  la:=c7 _
  kJ:=λb m s k=>⟨m,k,hP.refl _ _⟩
  o4:=λb N e a=>.inl ⟨b,e,a⟩
  rO:=by grind[ar.box]}
 refine⟨o,?_⟩;exact{
  iJ:=g.iJ
  iK:=λN h=>jM (g.iK N h) d.size
  dJ:=λb N e a=>by
   let⟨f,i,j⟩:=g.dJ b N e a;exact⟨jM f d.size,i,j⟩
  j0:=g.j0
  blt:=λl n a=>by
   simp only[ar.box]at a;split at a;injection a with a;subst a;exact⟨dJ,λq=>by have:=g.iK _ q;omega,λb e c=>by have:=(g.dJ b _ e c).1;omega⟩;let⟨f,i,j⟩:=g.blt l n a;exact⟨jM f d.size,i,j⟩
  mN:=λb l n a c=>by
   simp only[ar.box]at a c;split at a<;>split at c
   simp_all;injection a with a;subst a;have:=(g.blt l _ c).1;omega;injection c with c;subst c;have:=(g.blt b _ a).1;omega;exact g.mN _ _ _ a c
  gL:=λb m k=>o3.mono o g rfl (λN e p=>d.block N (g.dJ b N e p).1 (λh=>h)) (g.gL b m k)}
def ar.wd(a:ar)(b:World):ar:={a with w:=b}
theorem ar.Jw(g:Good Y)(b:cX Y.w eI (λa=>∃m,Y.bx m=aa a)):Fr Y (Y.wd eI)/\Good (Y.wd eI):=by
 have p:Fr Y (Y.wd eI):={
  os:=b.os,output:=b.output,tape:=b.tape,size:=b.size
  pM:=λ_ _ h=>h,pN:=λ_ _ h=>.inl h
  heap:=λa dJ _ f=>b.block a dJ (by grind)
  la:=c7 _
  kJ:=λc n r f=>⟨n,f,hP.refl _ _⟩
  o4:=λc a e d=>.inl ⟨c,e,d⟩
  rO:=λl o d=>.inl ⟨l,d⟩}
 refine⟨p,?_⟩;exact{
  iJ:=g.iJ
  iK:=λa h=>jM (g.iK a h) b.size
  dJ:=λc a e d=>by
   let⟨i,j,k⟩:=g.dJ c a e d;exact⟨jM i b.size,j,k⟩
  j0:=g.j0
  blt:=λl o d=>by
   let⟨i,j,k⟩:=g.blt l o d;exact⟨jM i b.size,j,k⟩
  mN:=g.mN
  gL:=λc n f=>o3.mono p g rfl (λa e q=>b.block a (g.dJ c a e q).1 (λ⟨m,h⟩=>(g.blt m a h).2.2 c e q)) (g.gL c n f)}
def ar.dm(a:ar)(c:World):ar:={a with w:=c,S:=λd b=>a.S d b\/(a.w.heap.size<=b/\b<c.heap.size)}
theorem ar.Jx(g:Good Y)(b:cX Y.w eI (λ_=>False)):Fr Y (Y.dm eI)/\Good (Y.dm eI):=by
 have o:Fr Y (Y.dm eI):={
  os:=b.os,output:=b.output,tape:=b.tape,size:=b.size
  pM:=λ_ _ h=>.inl h,pN:=λ_ _ h=>h.imp id (·.1)
  heap:=λa dJ _ _=>b.block a dJ (λh=>h)
  la:=c7 _
  kJ:=λd m r k=>⟨m,k,hP.refl _ _⟩
  o4:=λd a e c=>.inl ⟨d,e,c⟩
  rO:=λl n c=>.inl ⟨l,c⟩}
 refine⟨o,?_⟩;exact{
  iJ:=λp a h=>h.imp (g.iJ p a) id
  iK:=λa h=>h.elim (λh=>jM (g.iK a h) b.size) (·.2)
  dJ:=λd a e c=>by
   let⟨f,i,j⟩:=g.dJ d a e c;exact⟨jM f b.size,λh=>h.elim i (λh=>by omega),j⟩
  j0:=g.j0
  blt:=λl n c=>by
   let⟨f,i,j⟩:=g.blt l n c;exact⟨jM f b.size,λh=>h.elim i (λh=>by omega),j⟩
  mN:=g.mN
  gL:=λd m k=>o3.mono o g rfl (λa e q=>b.block a (g.dJ d a e q).1 (λh=>h)) (g.gL d m k)}
theorem St.mono{E:ar}{s:AS}(st:St E s eJ)(f:Fr E Y)(d:Good Y)(g:∀k b,E.bx k=aa b->Y.bx k=aa b)
 (hb:∀k b,E.bx k=aa b->Y.w.heap[b]?=E.w.heap[b]?):St Y {s with hp:=Y.H} eJ where
 bM:=d
 hp:=rfl
 env:=λk v h=>by
  rcases st.env k v h with h|⟨j,off,b,h1,h2,a⟩;exact .inl (h.mono f st.bM);exact .inr (by grind)
 bx:=λk cs h=>by
  let⟨b,vs,c,h1,h2,a,e⟩:=st.bx k cs h;exact⟨b,vs,c,g _ _ h1,(hb _ _ h1).trans h2,RL.mono f st.bM a,e⟩
variable{rj:IntKind}{f:Int}{dT:Operand}{n:AS}
section
variable{P:Program}{G:Nat->Option (List AV)}{A:bS}
theorem u0(h:0<bj P u):∃i,P.info? u=aa i:=by
 unfold bj at h;rcases a:P.info? u with _|i;grind;grind
theorem O5(b:St Y L s.tmps)(c:dz G Y)(a:B.op=.move m\/B.op=.assign m):cx P B s Y (l G L m).pl L:=by
 refine cx.still b (bA:=s.eval m) ?_ (.inl (R.pl (dM b c m)));rcases a with a|a<;>simp[execOp,a]
theorem R.zl(h:RT Y (.bool T) bA):bA=.bool T:=by
 rcases h with h|⟨_,_,_,h,_⟩;cases h;rfl
 cases h
theorem R.pO(h:RT Y (.int rj f) bA):bA=.int rj f:=by
 rcases h with h|⟨_,_,_,h,_⟩;cases h;rfl
 cases h
theorem R.xS{b:List UInt8}(h:RT Y (.str b) bA):∃a:ByteArray,bA=.string a/\a.data.toList=b:=by
 rcases h with h|⟨_,_,_,h,_⟩;cases h with|str a=>grind
 cases h
theorem abk{a:Operand}(b:St Y L s.tmps)(c:dz G Y)(f:B.op=.pick m dT a)(e:l G L m=.bool T):
 cx P B s Y (if T then(l G L dT).pl else(l G L a).pl) L:=by
 have h:=dM b c m;rw[e]at h;have d:=R.zl h;refine cx.still b (bA:=if T then s.eval dT else s.eval a) ?_ (.inl ?_);simp[execOp,f,d,asBool];grind[R.pl,dM]
theorem Jy(a:List K)(off:Nat)(new:List K)(h:off+Z new<=Z a):Z (a.take off++new++a.drop (off+Z new))=Z a:=by
 simp;omega
theorem RL.e3{a:List AV}{vs:List Value}{new:List AV}(h:RL Y a vs)(b:RL Y new hN)(off:Nat):RL Y (e3 a off new) (vs.take off++hN++vs.drop (off+Z hN)):=by
 unfold AM.e3;rw[b.length];grind[RL.append,RL.take,RL.drop]
theorem O6{w:World}{off:Nat}(b:w.heap[U]?=aa (.cells eJ cu (0,0)))(e:P.info? u=aa oL)(c:bA.cells.size=oL.size)
 (h:off+oL.size<=eJ.size)(a:∀d∈bA.cells.toList,d.oneCell'=ad):
 (Instr.storeAt u (.pointer (aa ⟨U,off,ae⟩)) bA).run P w=.ok () (w.setRow U (eJ.toList.take off++bA.cells.toList++eJ.toList.drop (off+Z bA.cells.toList)).toArray):=by
 have f:=run_storeCells_at P U off cu bA.cells.toList 0 eJ w b (by simp[c];omega) a;simp_all[Instr.storeAt,Instr.sureAddr,storeVar,sizeOf,typeInfo]
theorem abl(a:St Y L s.tmps)(T:dz G Y)(ac:B.op=.store u m dT)(h:vZ P L u (l G L m) (l G L dT)=aa n):cx P B s Y .undef n:=by
 unfold vZ at h;simp only at h;split at h
 case isFalse=>simp at h
 case isTrue a3=>
 let⟨X,a4,br⟩:=a3;let⟨aj,J⟩:=sK.1 br;rw[jy J]at X;have bD:=R.pl (dM a T dT);let⟨K,ai⟩:=bD.cells a4;have M:(s.eval dT).cells.size=aj.size:=by rw[<-X,<-K.length];simp
 have p:=dM a T m;cases ah:l G L m with
 |lp k off=>
  simp only[ah]at h p;rcases W:look k L.bx with _|cs;grind;simp only[W]at h;split at h
  case isFalse=>simp at h
  case isTrue bb=>
  simp at h;subst h;rcases p with p|⟨_,_,q,be,r,j⟩;cases p
  injection be with t O;subst t;subst O;let⟨au,vs,E,V,v,z,aF⟩:=a.bx k cs W;rw[r]at V;injection V with b;subst b;have bv:=z.length;simp only[y5]at bv;have y:=O6 (P:=P) (u:=u) (off:=off) (bA:=s.eval dT) v J M (by omega) ai
  have C:cX Y.w (Y.w.setRow q (vs.toList.take off++(s.eval dT).cells.toList++vs.toList.drop (off+Z (s.eval dT).cells.toList)).toArray) (λe=>∃k,Y.bx k=aa e):=cX.setRow _ _ _ _ ⟨k,r⟩;let⟨f,F⟩:=ar.Jw a.bM C;refine⟨.skip,undef,_,?_,.inr ⟨rfl,rfl⟩,.inl (.undef _),?_,f⟩;rw[<-j]at y;simp only[execOp,ac,Sem.run_bind,y,Result.andThen_ok,Sem.run_pure,ar.wd];exact{
   bM:=F
   hp:=a.hp
   env:=λD cb i=>by
    rcases a.env D cb i with h|h;exact .inl (h.mono f a.bM);exact .inr h
   bx:=λD ax i=>by
    simp only[fQ]at i;by_cases b:D=k;subst b;rw[if_pos rfl]at i;injection i with i;subst i;refine⟨q,_,E,r,setRow_heap _ _ _ _ _ _ v,?_,?_⟩;simpa using RL.mono f a.bM (RL.e3 z K off);grind;rw[if_neg b]at i;let⟨e,cc,az,Q,aR,a0,a2⟩:=a.bx D ax i;refine⟨e,cc,az,Q,?_,RL.mono f a.bM a0,a2⟩;show(Y.w.setRow q _).heap[e]?=_;rw[setRow_other _ _ _ _ (λce=>b (a.bM.mN _ _ _ Q (by grind)))];exact aR}
 |ptr id g d off=>
  simp only[ah]at h p;rw[a.hp]at h;rcases A:Y.H[id]? with _|ob;grind;cases ob with
  |mp _ _ _=>grind
  |fm _=>grind
  |iH _ _=>grind
  |arr F c o=>
   simp only[A]at h;split at h
   case isFalse=>simp at h
   case isTrue a6=>
   subst a6;rcases x:o[d]? with _|cs;grind;simp only[x]at h;split at h
   case isFalse=>simp at h
   case isTrue bb=>
   simp at h;subst h;replace p:=p.resolve_right (by grind);cases p with
   |ptr _ _ _ _ _ dl ci c2 h=>
    let⟨q,N,I,j⟩:=h c o A;let⟨af,bm⟩:=a.bM.gL id _ A;rcases bm with⟨rfl,_⟩|⟨au,vs,E,U,v,d1,z,aF⟩;simp at x;rw[I]at U;injection U with b;injection b with t O;subst t;have co:Z cs=c:=af cs (qp x);have a9:d<Z o:=(fH.1 x).1;have ds:d*c+c<=Z o*c:=by
     have:=mB c (show d+1<=Z o from a9);rw[re]at this;exact this
    have y:=O6 (P:=P) (u:=u) (off:=d*c+off) (bA:=s.eval dT) v J M (by omega) ai;have bi:Z (s.eval dT).cells.toList=aj.size:=by simpa using M
    have C:cX Y.w (Y.w.setRow q (vs.toList.take (d*c+off)++(s.eval dT).cells.toList++vs.toList.drop (d*c+off+Z (s.eval dT).cells.toList)).toArray) (λe=>∃N,Y.h id=aa (e,N)):=cX.setRow _ _ _ _ ⟨N,I⟩;have d0:Z (vs.toList.take (d*c+off)++(s.eval dT).cells.toList++vs.toList.drop (d*c+off+Z (s.eval dT).cells.toList))=vs.size:=by
     rw[Jy _ _ _ (by rw[bi];simp;omega)];simp
    have a5:(o.set d (e3 cs off (l G L dT).pl.cells)).flatten=e3 o.flatten (d*c+off) (l G L dT).pl.cells:=Jt af x (by omega);let⟨f,aA⟩:=ar.sX a.bM (id:=id) (j:=.arr F c (o.set d (e3 cs off (l G L dT).pl.cells))) (e:=Y.h id) C A (by simp[hP])
     (λe am b=>⟨by rw[I]at b;injection b with b;injection b with t _;subst t;simp;grind,.inl ⟨am,b⟩⟩)
     (λf=>by
      refine⟨λb c1=>?_,.inr ⟨q,_,E,?_,setRow_heap _ _ _ _ _ _ v,?_,?_,?_⟩⟩;grind[AM.e3];grind[ar.bW];grind;rw[a5,aaJ];have S:=RL.e3 z K (d*c+off);rw[Fu _ _ _ _ (by omega)]at S;simpa using RL.mono f a.bM S;intro ak j;simp only[aaJ]at j;have j:=sL j|>λ_=>j;rw[<-Fu _ _ _ _ (by omega)]at j;grind)
    refine⟨.skip,undef,_,?_,.inr ⟨rfl,rfl⟩,.inl (.undef _),?_,f⟩;rw[<-j]at y;simp only[execOp,ac,Sem.run_bind,y,Result.andThen_ok,Sem.run_pure,ar.bW];refine St.mono a f aA (λ_ _ h=>h) (λk e r=>C.block e (a.bM.blt k e r).1 λ⟨am,b⟩=>(a.bM.blt k e r).2.2 _ _ b)|>λm=>?_;grind[ar.bW]
 |_=>grind
theorem Jz(x:St Y L s.tmps){d f:AV}(h:RT Y d bA)(a:mM L U d=aa f):∃b c,bA=.pointer (aa ⟨b,c,ae⟩)/\RT Y f (.pointer (aa ⟨b,c+U,ae⟩)):=by
 rcases h with h|⟨E,off,b,rfl,C,rfl⟩
 ·cases d with
  |aH i j off=>
   simp[mM]at a;subst a;cases h with
   |aH _ _ _ b c vs l m p q v h o=>exact⟨b,c+off,rfl,.inl (by rw[Nat.add_assoc];exact .aH i j (off+U) b c vs l m p q v h o)⟩
  |ptr id g w off=>
   simp only[mM]at a;rw[x.hp]at a;rcases e:Y.H[id]? with _|ob;grind;cases ob with
   |mp _ _ _=>grind
   |fm _=>grind
   |iH _ _=>grind
   |arr n y k=>
    simp only[e]at a;split at a
    case isFalse=>simp at a
    case isTrue r=>
    subst r;simp at a;subst a;cases h with
    |ptr _ _ _ _ _ u A t h=>
     obtain⟨b,G,B,rfl⟩:=h y k e;refine⟨b,_,rfl,.inl (.ptr id n w (off+U) _ u rfl t λF z D=>?_)⟩;grind
  |_=>first|(simp[mM]at a;done)|(cases h)
 simp[mM]at a;subst a;exact⟨b,off,rfl,.inr (by grind)⟩
theorem abm{c:AV}(a:St Y L s.tmps)(f:dz G Y)(r:B.op=.fieldAddr u m U)(h:v7 P L u (l G L m) U=aa c):cx P B s Y c L:=by
 unfold v7 at h;rcases k:P.underlying u with _|d;grind;cases d with
 |struct e=>
  simp only[k]at h;rcases g:e[U]? with _|p;grind;simp only[g]at h;split at h
  case isFalse=>simp at h
  case isTrue b=>
  let⟨n,i⟩:=u0 b;rw[jy i]at b;let⟨o,v,t,j⟩:=Jz a (dM a f m) h;refine cx.still a ?_ j;have q:n.size≠0:=by omega
  simp_all[execOp,Instr.fieldAt,run_underlying,Instr.sureAddr,fieldPlace,sizeOf,typeInfo,Addr.add_mid]
 |_=>grind
theorem O7{a:List (List AV)}(h:a.all (λb=>Z b==U)=ad):∀c∈a,Z c=U:=by
 grind
theorem abn{O:AV}(k:St Y L s.tmps)(A:dz G Y)(v:B.op=.indexAddr u m dT)(h:rN P L u (l G L m) (l G L dT)=aa O):cx P B s Y O L:=by
 unfold rN at h;have c:=dM k A m;have E:=dM k A dT;rcases p:P.underlying u with _|d;grind;cases C:l G L dT with
 |int a9 e=>
  rw[C]at E;have t:=R.pO E;simp only[p,C]at h;cases d with
  |array len S=>
   simp only at h;split at h
   case isFalse=>simp at h
   case isTrue a=>
   let⟨b,i⟩:=u0 a.2.2;rw[jy i]at h a;let⟨o,x,n,au⟩:=Jz k c h;refine cx.still k ?_ au;simp[execOp,v,Instr.indexAt,run_underlying p,t,asIntOf,n,Instr.sureAddr,a.1,a.2.1,sizeOf,typeInfo,i,Addr.add_mid]
  |slice S=>
   simp only at h;cases n:l G L m with
   |sl Q f=>
    simp only[n]at h;rw[n]at c;split at h
    case isFalse=>simp at h
    case isTrue y=>
    rcases j:f[e.toNat]? with _|cs;grind;simp only[j]at h;split at h
    case isFalse=>simp at h
    case isTrue a=>
    simp at h;subst h;replace c:=c.resolve_right (by grind);let⟨b,i⟩:=u0 a.2;rw[jy i]at a;generalize w:s.eval m=aR at c;cases c with
    |jO=>simp at j
    |sl _ _ o x aA cap vs T U ac af F r az X W=>
     have aj:e.toNat<Z f:=(fH.1 j).1;have ak:aA=b.size:=(F cs (qp j)).symm.trans a.1;subst ak;have I:e.toNat*b.size+b.size<=Z f*b.size:=by
      have:=mB b.size (show e.toNat+1<=Z f from aj);rw[re]at this;exact this
     refine cx.still k (bA:=.pointer (aa ⟨o,x+e.toNat*b.size,ae⟩)) ?_ (.inl (.aH Q cs 0 o (x+e.toNat*b.size) vs T U ac af (by omega) ?_ ?_));have am:e<(Z f:Int):=by omega
     simp[execOp,v,Instr.indexAt,run_underlying p,t,asIntOf,w,y,am,sizeOf,typeInfo,i,Addr.add_mid];have z:=RL.take b.size (RL.drop (e.toNat*b.size) X);rw[A3 F j,lf _ _ _ _ I,vU]at z;rw[a.1];exact z;intro be ax;apply W;rw[a.1,<-vU,<-lf _ (Z f*b.size) _ _ I]at ax;grind
   |q id g off len=>
    simp only[n]at h;rw[n]at c;split at h
    case isFalse=>simp at h
    case isTrue D=>
    rw[k.hp]at h;rcases J:Y.H[id]? with _|ob;grind;cases ob with
    |mp _ _ _=>grind
    |fm _=>grind
    |iH _ _=>grind
    |arr V N f=>
     simp only[J]at h;split at h
     case isFalse=>simp at h
     case isTrue a=>
     let⟨j,M,K⟩:=a;subst j;simp at h;subst h;let⟨b,i⟩:=u0 K;rw[jy i]at M K;replace c:=c.resolve_right (by grind);generalize w:s.eval m=aR at c;cases c with
     |q _ _ _ _ _ ai y ah h=>
      obtain⟨a0,cap,rfl,a4,a6,r⟩:=h N f J;rcases r with r|⟨o,bi,a3,rfl,az⟩;omega;refine cx.still k (bA:=.pointer (aa ⟨o,(off+e.toNat)*N+0,ae⟩)) ?_ (.inl (.ptr id V (off+e.toNat) 0 _ ai rfl ah λbb a2 a5=>?_));simp[execOp,v,Instr.indexAt,run_underlying p,t,asIntOf,w,D.1,D.2,sizeOf,typeInfo,i,Addr.add_mid,M,sM];grind
   |_=>grind
  |_=>simp at h
 |_=>grind
theorem abo{v:AV}(c:St Y L s.tmps)(o:dz G Y)(p:B.op=.nilCheck m)(h:(match l G L m with|.fn b s d=>aa (.fn b s d,L)|v=>fT L (mM L 0 v))=aa (v,n)):cx P B s Y v n:=by
 have a:=dM c o m;have r:fT L (mM L 0 (l G L m))=aa (v,n)->cx P B s Y v n:=by
  intro h;unfold fT at h;rcases e:mM L 0 (l G L m)with _|x;grind;simp[e]at h;let⟨rfl,rfl⟩:=h;let⟨d,u,f,t⟩:=Jz c a e;simp_all[cx.still,execOp]
 cases f:l G L m with
 |fn b i bs=>
  rw[f]at h a;simp at h;let⟨rfl,rfl⟩:=h;replace a:=a.resolve_right (by grind);generalize q:s.eval m=y at a;cases a with
  |fn _ _ _ g vs j k=>
   refine cx.still c (bA:=.func (.func b) g vs) ?_ (.inl (.fn b i bs g vs j k));simp[execOp,p,q]
 |_=>grind
end
variable{bu:List Nat}
section
variable{P:Program}
def valOf(P:Program)(b:TypeId)(a:List Value):Value:=if ft P b then .agg a.toArray else a.headD undef
def wi(P:Program)(b:Nat)(d e:Array Value):List (TypeId×Nat)->Sem Bool
 |[]=>pure ad
 |(a,c)::r=>do
  let f<-Go.part a d c
  let g<-Go.part a e c
  let h<-Op.equalIn b a f g
  if(!h)=ad then pure ab else wi P b d e r
theorem O8(b:Nat)(c d:Array Value):∀(a:List Field),a.all (λf=>f.name != "_")=ad->Op.eqFields b c d a=wi P b c d (a.map λf=>(f.type,f.offset))
 |[],_=>rfl
 |f::a,h=>by
  simp only[oF,ba,bne_iff_ne]at h;simp only[Op.eqFields,h.1,ne_eq,not_false_eq_true,if_true,ej,wi];rw[O8 b c d a h.2]
theorem run_equalIn_array{w:World}(e:Nat)(i a:TypeId)(b:Nat)(c:TypeInfo)(f g:Array Value)(p:P.underlying i=aa (.array b a))(n:P.info? a=aa c):
 (Op.equalIn (e+1) i (.agg f) (.agg g)).run P w=(wi P e f g ((ay b).map λd=>(a,d*c.size))).run P w:=by
 simp only[Op.equalIn,Sem.run_bind,run_underlying p,Result.andThen_ok,sizeOf,typeInfo,run_program,n,Sem.run_pure];simp only[arz,Std.Legacy.Range.size];have o:List.range' 0 ((b -0+1 -1)/1) 1=ay b:=by simp[aaK]
 rw[o];generalize ay b=h;induction h generalizing w with
 |nil=>simp[wi]
 |cons d h u=>
  simp only[List.forIn_cons,ej,wi,Sem.run_bind,Sem.run_ite];generalize(Go.part a f (d*c.size)).run P w=q;cases q with
  |ok l w1=>
   simp only[Result.andThen_ok];generalize(Go.part a g (d*c.size)).run P w1=s;cases s with
   |ok m j=>
    simp only[Result.andThen_ok];generalize(Op.equalIn e a l m).run P j=r3;cases r3 with
    |ok r t=>
     simp_all
    |halt k t=>simp
   |halt k j=>simp
  |halt k w1=>simp
theorem CV{w:World}(f:P.info? u=aa oL)(c:P.underlying u=aa lu)(b:Array Value)(a:Nat)(h:a+oL.size<=b.size)(d:ft P u=ab->oL.size=1):
 (Go.part u b a).run P w=.ok (valOf P u ((b.toList.drop a).take oL.size)) w:=by
 have g:(isAgg u).run P w=.ok (ft P u) w:=by
  simp only[isAgg,Sem.run_bind,run_underlying c,Result.andThen_ok];rw[A2 c];cases lu<;>rfl
 unfold Go.part valOf;simp only[Sem.run_bind,g,Result.andThen_ok];cases e:ft P u
 have j:=d e;rw[j]at h⊢;have i:a<b.size:=by omega
 simp[i,OG];simp only[if_true,Sem.run_bind,sizeOf,typeInfo,run_program,Result.andThen_ok,f,Sem.run_pure]
 congr 2
 grind
theorem O9:∀{d i:List Nat}{e bs f g:List AV}{r:Bool},Z e=Z d->Z f=Z d->gb (d++i) (e++bs) (f++g)=aa r->∃o j,gb d e f=aa o/\gb i bs g=aa j/\r=(o&&j)
 |[],i,[],bs,[],g,r,_,_,h=>⟨ad,r,rfl,h,by simp⟩
 |k::d,i,u::e,bs,v::f,g,r,p,q,h=>by
  have x:∀j,gb (d++i) (e++bs) (f++g)=aa j->∃o s,gb d e f=aa o/\gb i bs g=aa s/\j=(o&&s):=λj t=>O9 (by grind) (by grind) t;simp only[hG]at h;unfold gb at h;split at h;grind;rename_i a b c;injection a with a l;injection b with b m;injection c with c n;subst a;subst b;subst c;subst l;subst m;subst n;split at h;rename_i w;simp only[dq]at h;grind[gb];simp at h;rename_i a b c
  injection a with a l;injection b with b m;injection c with c n;subst a;subst b;subst c;subst l;subst m;subst n;simp only[dq]at h;grind[gb];rename_i a b c;injection a with a l;injection b with b m;injection c with c n;subst a;subst b;subst c;subst l;subst m;subst n;simp only[dq]at h;grind[gb];simp at h
 |[],_,_::_,_,_,_,_,p,_,_=>by simp at p
 |[],_,[],_,_::_,_,_,_,q,_=>by simp at q
 |_::_,_,[],_,_,_,_,p,_,_=>by simp at p
 |_::_,_,_::_,_,[],_,_,_,q,_=>by simp at q
theorem abp{d:Nat}(h:nu P d u=aa bu):∃a b,P.info? u=aa a/\P.underlying u=aa b/\(ft P u=ab->a.size=1):=by
 rcases d with _|d;simp[nu]at h;unfold nu at h;rcases c:P.underlying u with _|b;grind;let⟨a,f⟩:=info_of_underlying c;refine⟨a,b,f,rfl,λe=>?_⟩;rw[A2 c]at e;grind[jy,ze]
theorem Pb{eq:TypeId->Option (List Nat)}{stop:Nat}:∀{c:List (TypeId×Nat)}{off:Nat}{a:List Nat},tR P eq stop off c=aa a->off<=stop/\Z a=stop -off
 |[],off,a,h=>by
  grind[tR]
 |(e,k)::c,off,a,h=>by
  simp only[tR]at h;split at h;cases f:eq e with
  |none=>grind
  |some g=>
   rcases d:tR P eq stop (off+bj P e) c with _|b;grind;simp only[f,d]at h;split at h;simp at h;let⟨i,j⟩:=Pb d;grind;simp at h
  simp at h
theorem JA{i:ar}{w:World}{eq:TypeId->Option (List Nat)}{t:Nat}(g h:Array Value)(d bs:List AV)(p:RL i d g.toList)(q:RL i bs h.toList)(z:Z d=Z bs)
 (heq:∀a e,eq a=aa e->(∃s u,P.info? a=aa s/\P.underlying a=aa u/\(ft P a=ab->s.size=1))/\∀(l m:List AV)(A vs:List Value)(r:Bool),RL i l A->RL i m vs->Z l=bj P a->Z m=bj P a->gb e l m=aa r->
  (Op.equalIn t a (valOf P a A) (valOf P a vs)).run P w=.ok r w):
 ∀(f:List (TypeId×Nat))(off:Nat)(e:List Nat)(r:Bool),tR P eq (Z d) off f=aa e->gb e (d.drop off) (bs.drop off)=aa r->(wi P t g h f).run P w=.ok r w
 |[],off,e,r,b,j=>by
  simp only[tR]at b;split at b;simp at b;rename_i k;subst b;subst k;rw[qq,z,qq]at j;simp_all[gb,wi];grind
 |(a,c)::f,off,e,r,b,j=>by
  simp only[tR]at b;split at b
  case isFalse=>simp at b
  case isTrue E=>
  subst E;rcases k:eq a with _|J;grind;rcases o:tR P eq (Z d) (c+bj P a) f with _|k2;grind;simp only[k,o]at b;split at b
  case isFalse=>simp at b
  case isTrue Q=>
  simp at b;subst b;let⟨⟨s,u,n,y,v⟩,F⟩:=heq a J k;have I:=jy n;have O:c+bj P a<=Z d:=(Pb o).1;have M:g.size=Z d:=by simpa using p.length
  have N:h.size=Z bs:=by simpa using q.length
  have G:d.drop c=(d.drop c).take (bj P a)++d.drop (c+bj P a):=by rw[<-vU,vV]
  have H:bs.drop c=(bs.drop c).take (bj P a)++bs.drop (c+bj P a):=by rw[<-vU,vV]
  rw[G,H]at j;obtain⟨B,K,C,D,rfl⟩:=O9 (by simp;omega) (by simp;omega) j;have x:=F _ _ _ _ B (RL.take (bj P a) (RL.drop c p)) (RL.take (bj P a) (RL.drop c q)) (by simp;omega) (by simp;omega) C;have L:=JA g h d bs p q z heq f (c+bj P a) k2 K o D;simp only[wi,Sem.run_bind,CV (P:=P) n y g c (by omega) v,CV (P:=P) n y h c (by omega) v,Result.andThen_ok];rw[I]at x;rw[x];cases B
  simp;simp;omega
theorem A4(h:RL Y bF hN)(c:Z bF=1):∃a b,bF=[a]/\hN=[b]/\R Y a b:=by
 rcases h with _|⟨a,b,e,g,f,d⟩;simp at c;rcases d with _|_;grind;simp at c
theorem bytes_beq(a b:ByteArray):(a.toList==b.toList)=(a.data.toList==b.data.toList):=by
 grind[ByteArray.toList_eq]
theorem JB{z:ar}{w:World}:∀(d m:Nat)(a:TypeId)(y:List Nat),d<=m->nu P d a=aa y->∀(i j:List AV)(k vs:List Value)(r:Bool),RL z i k->RL z j vs->Z i=bj P a->Z j=bj P a->gb y i j=aa r->
 (Op.equalIn m a (valOf P a k) (valOf P a vs)).run P w=.ok r w
 |0,_,_,_,_,h=>by simp[nu]at h
 |d+1,0,_,_,h,_=>by omega
 |d+1,m+1,a,y,U,h=>by
  intro i j k vs r F G l n c;have K:∀g D,nu P d g=aa D->(∃C E,P.info? g=aa C/\P.underlying g=aa E/\(ft P g=ab->C.size=1))/\∀(i j:List AV)(k vs:List Value)(r:Bool),RL z i k->RL z j vs->Z i=bj P g->Z j=bj P g->gb D i j=aa r->
   (Op.equalIn m g (valOf P g k) (valOf P g vs)).run P w=.ok r w:=λg D J=>⟨abp J,JB d m g D (by omega) J⟩
  unfold nu at h;cases B:P.underlying a with
  |none=>grind
  |some E=>
   have x:=A2 B;simp only[B]at h;cases E with
   |struct Q=>
    simp only at h;split at h
    case isFalse=>simp at h
    case isTrue A=>
    have R:P.fieldsOf a=Q:=by simp[Program.fieldsOf,B]
    have o:ft P a=true:=by rw[x]<;>rfl
    simp only[valOf,o,if_true];rw[run_equalIn_struct w m a k.toArray vs.toArray (by grind) A.1,R,O8 _ _ _ _ A.2];rw[<-l]at h;exact JA k.toArray vs.toArray i j (by omega) (by omega) (by omega) K _ 0 y r h (by grind)
   |array T O=>
    simp only at h;split at h
    case isFalse=>simp at h
    case isTrue A=>
    let⟨C,L⟩:=sK.1 A;have o:ft P a=true:=by rw[x]<;>rfl
    simp only[valOf,o,if_true];rw[run_equalIn_array m a O T C k.toArray vs.toArray B L,<-jy L];rw[<-l]at h;exact JA k.toArray vs.toArray i j (by omega) (by omega) (by omega) K _ 0 y r h (by grind)
   |bool=>
    simp only at h;split at h
    case isFalse=>simp at h
    case isTrue t=>
    simp at h;subst h;rw[t]at l n;obtain⟨H,M,rfl,rfl,u⟩:=A4 F l;obtain⟨I,N,rfl,rfl,v⟩:=A4 G n;have o:ft P a=false:=by rw[x]<;>rfl
    unfold gb at c;split at c<;>first|(simp at c;done)|skip
    all_goals rename_i b e f
    all_goals first|(cases b;done)|skip
    all_goals(injection b with b p;first|(cases b;done)|skip)
    subst p;injection e with e q;injection f with f s;subst e;subst f;subst q;subst s;simp[gb]at c;cases u;cases v
    simp_all[valOf,e6,run_equalIn_bool]
   |int V=>
    simp only at h;split at h
    case isFalse=>simp at h
    case isTrue t=>
    simp at h;subst h;rw[t]at l n;obtain⟨H,M,rfl,rfl,u⟩:=A4 F l;obtain⟨I,N,rfl,rfl,v⟩:=A4 G n;have o:ft P a=false:=by rw[x]<;>rfl
    unfold gb at c;split at c<;>first|(simp at c;done)|skip
    all_goals rename_i b e f
    all_goals first|(cases b;done)|skip
    all_goals(injection b with b p;first|(cases b;done)|skip)
    subst p;injection e with e q;injection f with f s;subst e;subst f;subst q;subst s;split at c;rename_i S;subst S;simp[gb]at c;cases u;cases v
    simp_all[valOf,e6,run_equalIn_int];grind
   |string=>
    simp only at h;split at h
    case isFalse=>simp at h
    case isTrue t=>
    simp at h;subst h;rw[t]at l n;obtain⟨H,M,rfl,rfl,u⟩:=A4 F l;obtain⟨I,N,rfl,rfl,v⟩:=A4 G n;have o:ft P a=false:=by rw[x]<;>rfl
    unfold gb at c;split at c<;>first|(simp at c;done)|skip
    all_goals rename_i b e f
    all_goals first|(cases b;done)|skip
    all_goals(injection b with b p;first|(cases b;done)|skip)
    subst p;injection e with e q;injection f with f s;subst e;subst f;subst q;subst s;simp[gb]at c;cases u;cases v
    simp_all[valOf,e6,run_equalIn_string,bytes_beq]
   |_=>simp at h
end
section
variable{P:Program}{G:Nat->Option (List AV)}{A:bS}
theorem abq{w:World}{op:BinOp}{y A x:AV}{i:Value}(c:RT Y y bA)(e:RT Y A i)(h:tS P op u y A=aa x):
 ∃r,((do eqGuard op u m dT bA i;binOp op u bA i:Sem Value)).run P w=.ok r w/\R Y x r:=by
 unfold tS at h;split at h
 ·
  rename_i v f G b;have:=R.pO c;have:=R.pO e;subst bA;subst i;have d:(eqGuard op u m dT (.int v f) (.int G b)).run P w=.ok () w:=by cases op<;>simp[eqGuard]
  simp only[Sem.run_bind,d,Result.andThen_ok];split at h;split at h;simp at h;simp at h;subst h;rename_i a;exact⟨_,by simp[binOp,Op.shift,a],.int _ _⟩;split at h;simp at h;simp at h;subst h;rename_i a;exact⟨_,by simp[binOp,Op.shift,a],.int _ _⟩
  ·rename_i l p
   split at h
   case isFalse=>simp at h
   case isTrue g=>
   subst g;cases op<;>simp only[kp]at h
   case shl=>grind
   case shr=>grind
   case quo=>
    split at h;simp at h;simp at h;subst h;rename_i a;exact⟨_,by simp[binOp,Op.intDiv,a],.int _ _⟩
   case rem=>
    split at h;simp at h;simp at h;subst h;rename_i a;exact⟨_,by simp[binOp,Op.intDiv,a],.int _ _⟩
   all_goals(first|(simp at h;done)|(simp only[e7]at h;subst h))
   all_goals first
    |exact⟨_,by simp only[binOp];rw[if_neg (by simp)]<;>rfl,.int _ _⟩
    |exact⟨_,by simp only[binOp];rw[if_neg (by simp)]<;>rfl,.bool _⟩
 ·
  rename_i f b;obtain⟨H,rfl,rfl⟩:=R.xS c;obtain⟨I,rfl,rfl⟩:=R.xS e;have d:(eqGuard op u m dT (.string H) (.string I)).run P w=.ok () w:=by cases op<;>simp[eqGuard]
  simp only[Sem.run_bind,d,Result.andThen_ok];cases op<;>simp only[v8]at h<;>first|(simp at h;done)|skip
  all_goals(simp only[e7]at h;subst h)
  all_goals exact⟨_,by grind[binOp,Op.stringOp,ByteArray.toList_eq,Sem.run_pure],.bool _⟩
 rename_i f b;have:=R.zl c;have:=R.zl e;subst bA;subst i;have d:(eqGuard op u m dT (.bool f) (.bool b)).run P w=.ok () w:=by cases op<;>simp[eqGuard]
 simp only[Sem.run_bind,d,Result.andThen_ok];split at h;rename_i t;simp at h;subst h;exact⟨.bool (f==b),by simp_all[binOp,Op.equal,Op.maxDepth,run_equalIn_bool],by simpa using R.bool (E:=Y) (f==b)⟩;rename_i t;simp at h;subst h;exact⟨.bool (!(f==b)),by simp_all[binOp,Op.equal,Op.maxDepth,run_equalIn_bool],by simpa using R.bool (E:=Y) (!(f==b))⟩;simp at h
 ·
  rename_i o bs;replace c:=c.resolve_right (by grind);replace e:=e.resolve_right (by grind);split at h
  case isFalse=>simp at h
  case isTrue q=>
  let⟨l,p,O,C⟩:=q;cases c with
  |agg _ z E U=>
   cases e with
   |agg _ B F V=>
    have d:(eqGuard op u m dT (.agg z) (.agg B)).run P w=.ok () w:=by grind[run_eqGuard_agg]
    simp only[Sem.run_bind,d,Result.andThen_ok];rcases g:nu P 100 u with _|ks;grind;simp only[g]at h;rcases s:gb ks o bs with _|r;grind;have D:=JB (z:=Y) (w:=w) 100 10000 u ks (by omega) g o bs z.toList B.toList r E F l p s;simp only[valOf,C,if_true,arA]at D;cases op<;>simp[s]at h
    subst h;exact⟨.bool r,by simp_all[run_eql_struct],.bool _⟩;subst h;exact⟨.bool (!r),by simp_all[run_neq_struct],.bool _⟩
 ·
  split at h
  case h_2=>simp at h
  case h_1 L b t a=>
  simp at h;subst h;replace e:=e.resolve_right (by grind);cases e
  have key:∃j n k,bA=.slice j n k/\j.isNone=b:=by
   replace c:=c.resolve_right (by rintro⟨_,_,_,h,_⟩;rw[h]at a;cases a);unfold AV.CM at a;split at a;cases c;grind
   cases c;grind
   simp at a;subst a;cases c with
   |sl _ _ J X v cap K M N Q S g q W h l=>grind
   simp at a
  obtain⟨j,n,k,rfl,T⟩:=key;have d:(eqGuard .eql u m dT (.slice j n k) (.slice ae 0 0)).run P w=.ok () w:=by simp[eqGuard]
  simp only[Sem.run_bind,d,Result.andThen_ok];refine⟨.bool b,?_,.bool _⟩;simp_all[binOp,run_equal_slice_nil]
 simp at h
theorem abr{op:BinOp}{c:AV}(a:St Y L s.tmps)(b:dz G Y)(f:B.op=.binOp op u m dT cu)(h:tS P op u (l G L m) (l G L dT)=aa c):cx P B s Y c L:=by
 let⟨r,d,e⟩:=abq (P:=P) (w:=Y.w) (m:=m) (dT:=dT) (dM a b m) (dM a b dT) h;refine cx.still a ?_ (.inl e);simp only[execOp,f];rw[Sem.run_bind,d];rfl
theorem abt{op:UnOp}{g:AV}(d:St Y L s.tmps)(j:dz G Y)(e:B.op=.unOp op u m)(h:nw op (l G L m)=aa g):cx P B s Y g L:=by
 have a:=dM d j m;unfold nw at h;split at h;rename_i i c;rw[c]at a;simp at h;subst h;refine cx.still d (bA:=.bool (!i)) ?_ (.inl (.bool _));simp[execOp,e,R.zl a,Op.unary];rename_i b f c;rw[c]at a;simp at h;subst h;refine cx.still d (bA:=.int b (b.wrap (0 -f))) ?_ (.inl (by simpa using R.int (E:=Y) b (b.wrap (0 -f))));simp[execOp,e,R.pO a,Op.unary,Op.intArith];simp at h
theorem abu(b:St Y L s.tmps)(c:dz G Y)(f:B.op=.makeInterface u m)(d:P.underlying u=aa lu)(e:∀a,lu≠.interface a):
 cx P B s Y (.iface u (l G L m).pl) L:=by
 refine cx.still b (bA:=.iface u (s.eval m)) ?_ (.inl (.iface u _ _ (R.pl (dM b c m))));cases lu with
 |interface a=>exact absurd rfl (e a)
 |_=>simp[execOp,f,Instr.makeInterface,run_underlying d]
theorem JC(c:St Y L s.tmps)(b:dz G Y):∀(a:List Operand),RL Y (a.map λx=>(l G L x).pl) (a.map s.eval)
 |[]=>.nil
 |x::a=>.cons _ _ _ _ (R.pl (dM c b x)) (JC c b a)
theorem abv{a:FuncId}{first cap:Array Operand}(d:St Y L s.tmps)(e:dz G Y)(c:B.op=.makeFunc (.func a) first cap):
 cx P B s Y (.fn a (first.toList.map λb=>(l G L b).pl) (cap.toList.map λb=>(l G L b).pl)) L:=by
 refine cx.still d (bA:=.func (.func a) (first.map s.eval) (cap.map s.eval)) ?_ (.inl (.fn a _ _ _ _ ?_ ?_));simp[execOp,c,Instr.makeFunc];simp_all[JC];simp_all[JC]
theorem abw{w:World}{c:List AV}{vs:Array Value}{g:AV}(d:RL Y c vs.toList)(k:∀a∈vs.toList,a.oneCell'=ad)(h:Fl P u c U=aa g):∃a,(Go.part u vs U).run P w=.ok a w/\R Y g a:=by
 unfold Fl at h;split at h
 case isFalse=>simp at h
 case isTrue b=>
 simp at h;subst h;let⟨j,e⟩:=sK.1 b.2.2;let⟨m,f⟩:=info_of_underlying e;rw[jy f]at b⊢;have i:=d.length;simp only[y5]at i;refine⟨_,CV (P:=P) f e vs U (by omega) b.2.1,?_⟩;unfold valOf;refine Fv (RL.take _ (RL.drop _ d)) (by grind) (λl=>?_);grind
theorem abx{c:AV}(b:St Y L s.tmps)(f:dz G Y)(p:B.op=.field u m U)(h:CN P u (l G L m) U=aa c):cx P B s Y c L:=by
 have a:=dM b f m;unfold CN at h;split at h;rename_i d n r k;rw[k]at a;replace a:=a.resolve_right (by grind);generalize t:s.eval m=x at a;cases a with
 |agg _ vs g e=>
  rcases j:d[U]? with _|o;grind;simp only[j]at h;let⟨v,q,i⟩:=abw (w:=Y.w) g e h;refine cx.still b ?_ (.inl i);simp_all[execOp,Instr.field,run_underlying,asAgg]
 simp at h
theorem aby{p:AV}(e:St Y L s.tmps)(f:dz G Y)(A:B.op=.index u m dT)(h:CO P u (l G L m) (l G L dT)=aa p):cx P B s Y p L:=by
 have n:=dM e f m;have i:=dM e f dT;unfold CO at h;split at h
 ·rename_i o D a C v t
  rw[v]at n;rw[t]at i;have z:=R.pO i;let⟨b,x,g⟩:=R.xS n;split at h
  case isFalse=>simp at h
  case isTrue w=>
  rcases d:o[a.toNat]? with _|c;grind;simp[d]at h;subst h;have k:a.toNat<Z o:=(fH.1 d).1;have y:b[a.toNat]?=aa c:=by
   have j:a.toNat<b.size:=by rw[<-g]at k;simpa using k
   have q:b.data.toList[a.toNat]?=aa c:=by rw[g];exact d
   have:b.data[a.toNat]?=aa c:=by simpa using q
   have r:b.data[a.toNat]'(by grind)=c:=by
    rw[Array.getElem?_eq_getElem (by simpa using j)]at this;injection this
   rw[getElem?_pos b a.toNat j];exact congrArg aa r
  refine cx.still e (bA:=.int .u8 c.toNat) ?_ (.inl (.int _ _));simp_all[execOp,Instr.index,run_underlying,asIntOf]
 simp at h
theorem abz{vs:List AV}{d:AV}(b:St Y L s.tmps)(e:dz G Y)(j:B.op=.extract m U)(i:l G L m=.aB vs)(h:vs[U]?=aa d):cx P B s Y d.pl L:=by
 have a:=dM b e m;rw[i]at a;replace a:=a.resolve_right (by grind);generalize n:s.eval m=p at a;cases a with
 |aB _ o f=>
  let⟨c,k,g⟩:=f.get h;refine cx.still b (bA:=c) ?_ (.inl (R.pl (.inl g)));simp_all[execOp,Instr.extract]
theorem abA{e:AV}(c:St Y L s.tmps)(f:dz G Y)(j:B.op=.typeAssert m cu u ab)(h:P.underlying u=aa lu)(i:∀b,lu≠.interface b)(k:l G L m=.iface u e):cx P B s Y e.pl L:=by
 have a:=dM c f m;rw[k]at a;replace a:=a.resolve_right (by grind);generalize n:s.eval m=o at a;cases a with
 |iface _ _ d g=>
  refine cx.still c (bA:=d) ?_ (.inl (R.pl (.inl g)));cases lu with
  |interface b=>exact absurd rfl (i b)
  |_=>simp[execOp,j,Instr.typeAssert,run_underlying h,n]
variable{z:Nat}
theorem Pd(c b:Nat):∀(a:List (Nat×AV)),look b (oY c a)=(look b a).map λd=>if d.gI c then .undef else d
 |[]=>rfl
 |(e,d)::a=>by
  simp only[oY,look];split;rfl;exact Pd c b a
theorem xT{b:List AV}(h:qw P u=aa b):∃i a,P.info? u=aa i/\i.zero=aa a/\RL Y b a.cells.toList/\∀c∈a.cells.toList,c.oneCell'=true:=by
 unfold qw at h;rcases d:P.info? u with _|i;grind;grind[Jq]
theorem Pe(a:St Y L s.tmps)(d:Nat)(n:List AV)(cells:Array Value)(g:TypeId)(u:RL Y n cells.toList)(i:∀x∈cells.toList,x.oneCell'=ad):
 ∃e,e.w=Y.w.alloc (.cells cells g)/\RT e (.lp d 0) (.pointer (aa ⟨Y.w.heap.size,0,ae⟩))/\St e {L with env:=oY d L.env,bx:=put d n L.bx} s.tmps/\Fr Y e:=by
 let⟨f,q⟩:=ar.Jv a.bM (U:=d) (N:=Y.w.heap.size) (cX.alloc Y.w (.cells cells g) _) (by simp) (c7 _);refine⟨_,rfl,.inr (by grind[ar.box]),?_,f⟩;exact{
  bM:=q
  hp:=a.hp
  env:=λb A h=>by
   rw[Pd]at h;rcases m:look b L.env with _|y;grind;simp[m]at h;subst h;split;exact .inl (.undef _);rename_i z;rcases a.env b y m with h|⟨v,off,c,i,l,j⟩;exact .inl (h.mono f a.bM);refine .inr ⟨v,off,c,i,?_,j⟩;grind[AV.gI,ar.box]
  bx:=λb o h=>by
   simp only[fQ]at h;by_cases k:b=d;subst k;rw[if_pos rfl]at h;injection h with h;subst h;exact⟨_,cells,g,by simp[ar.box],heap_alloc_new _ _,RL.mono f a.bM u,i⟩;rw[if_neg k]at h;let⟨c,vs,p,l,j,r,t⟩:=a.bx b o h;refine⟨c,vs,p,by grind[ar.box],?_,RL.mono f a.bM r,t⟩;exact((cX.alloc Y.w _ (λ_=>False)).block c (a.bM.blt b c l).1 (λh=>h)).trans j}
theorem A5(b:St Y L s.tmps)(c:Nat)(a:List (List AV))(cells:Array Value)(j:TypeId)(q:∀u∈a,Z u=c)(p:Z a*c<=cells.size)
 (n:RL Y a.flatten (cells.toList.take (Z a*c)))(m:∀t∈cells.toList.take (Z a*c),t.oneCell'=ad)(f:World)(k:cX Y.w f (λ_=>False))(g:f.heap[Y.w.heap.size]?=aa (.cells cells j (0,0))):
 ∃d,d.w=f/\d.h (Z L.hp)=aa (Y.w.heap.size,cells.size)/\d.H=L.hp++[.arr 0 c a]/\St d {L with hp:=L.hp++[.arr 0 c a]} s.tmps/\Fr Y d:=by
 have v:Y.w.heap.size<f.heap.size:=(kZ.1 g).1;let⟨e,l⟩:=ar.Fw b.bM (gF:=.arr 0 c a) (f:=aa (Y.w.heap.size,cells.size)) k
  (by grind)
  (λe=>⟨q,.inr ⟨_,cells,j,by simp[ar.new],g,p,RL.mono e b.bM n,m⟩⟩)
 refine⟨_,rfl,?_,?_,?_,e⟩;rw[b.hp];simp[ar.new];rw[b.hp];simp[ar.new];have:=St.mono b e l (λ_ _ h=>h) (λr i o=>k.block i (b.bM.blt r i o).1 (λh=>h));simpa[ar.new,b.hp]using this
theorem Pf(a:St Y L s.tmps)(d:Nat)(g:World)(f:cX Y.w g (λ_=>False)):
 ∃b,b.w=g/\b.H=L.hp++[.arr 0 d []]/\St b {L with hp:=L.hp++[.arr 0 d []]} s.tmps/\Fr Y b:=by
 let⟨c,i⟩:=ar.Fw a.bM (gF:=.arr 0 d []) (f:=ae) f (by grind) (λc=>⟨by simp,.inl ⟨rfl,by simp[ar.new]⟩⟩);refine⟨_,rfl,?_,?_,c⟩;rw[a.hp];simp[ar.new];have:=St.mono a c i (λ_ _ h=>h) (λk e j=>f.block e (a.bM.blt k e j).1 (λh=>h));simpa[ar.new,a.hp]using this
theorem Pg{id:Nat}(b:Y.H[id]?=aa (.arr 0 U []))(a:Option Addr):R Y (.q id 0 0 0) (.slice a 0 0):=
 .q id 0 0 0 _ (fH.1 b).1 ⟨_,_,rfl⟩ (by omega) (by grind)
theorem Fx{id g:Nat}{a:List (List AV)}{cap:Nat}(b:Y.H[id]?=aa (.arr g U a))(d:Y.h id=aa (N,z))(c:Z a<=cap)(e:cap*U<=z):R Y (.q id g 0 (Z a)) (.slice (aa ⟨N,0,ae⟩) (Z a) cap):=
 .q id g 0 (Z a) _ (fH.1 b).1 ⟨_,_,rfl⟩ (by grind)
  (by grind)
theorem abB{j:AV}(i:St Y L s.tmps)(f:B.op=.alloc u)(h:aW P G A L B.dst B.op=aa (j,n)):cx P B s Y j n:=by
 rw[f]at h;unfold aW at h;simp only at h;split at h
 ·rename_i k l t z
  split at h
  case isFalse=>simp at h
  case isTrue p=>
  let⟨D,a,o,x,e,m⟩:=xT (Y:=Y) t;have r:(execOp s.eval B).run P Y.w=.ok (.value (.pointer (aa ⟨Y.w.heap.size,0,ae⟩))) (Y.w.alloc (.cells a.cells u)):=by
   simp[execOp,f,Instr.alloc,zeroValue,typeInfo,o,x,newVar,newRow]
  split at h;simp at h;let⟨rfl,rfl⟩:=h;let⟨b,g,q,d,c⟩:=Pe i l k a.cells u e m;exact⟨_,_,b,by grind,.inl rfl,q,d,c⟩;simp at h;let⟨rfl,rfl⟩:=h;have v:a.cells.size=bj P u:=by rw[<-p,<-e.length];simp
  let⟨b,g,C,y,d,c⟩:=A5 i (bj P u) [k] a.cells u (by grind) (by simp[v]) (by grind[List.take_of_length_le]) (by grind) _ (by grind[cX.alloc]) (heap_alloc_new _ _);refine⟨_,_,b,by rw[g];exact r,.inl rfl,.inl (.ptr _ 0 0 0 _ (by grind) rfl (by omega) (by grind)),d,c⟩
 simp at h
theorem Jv{v:AV}(a:St Y L s.tmps)(z:dz G Y)(p:B.op=.box u m)(h:aW P G A L B.dst B.op=aa (v,n)):cx P B s Y v n:=by
 rw[p]at h;unfold aW at h;simp only at h;rcases C:B.dst with _|d;grind;simp only[C]at h;split at h
 case isFalse=>simp at h
 case isTrue e=>
 have F:=R.pl (dM a z m);let⟨c,y⟩:=F.cells e.2;have q:(execOp s.eval B).run P Y.w=.ok (.value (.pointer (aa ⟨Y.w.heap.size,0,ae⟩))) (Y.w.alloc (.cells (s.eval m).cells u)):=by
  simp[execOp,p,Instr.box,newVar,newRow]
 split at h;simp at h;let⟨rfl,rfl⟩:=h;let⟨f,r,i,j,b⟩:=Pe a d _ (s.eval m).cells u c y;exact⟨_,_,f,by grind,.inl rfl,i,j,b⟩;split at h;simp at h;let⟨rfl,rfl⟩:=h;have t:(s.eval m).cells.size=bj P u:=by rw[<-e.1,<-c.length];simp
 obtain⟨f,r,J,I,j,b⟩:=A5 a (bj P u) [_] (s.eval m).cells u (by simpa using e.1) (by simp[t]) (by grind[List.take_of_length_le]) (by grind) _ (by grind[cX.alloc]) (heap_alloc_new _ _);refine⟨_,_,f,by rw[r];exact q,.inl rfl,.inl (.ptr _ 0 0 0 _ (by grind) rfl (by omega) (by grind)),j,b⟩;simp at h;let⟨rfl,rfl⟩:=h;have t:(s.eval m).cells.size=bj P u:=by rw[<-e.1,<-c.length];simp
 have o:=heap_alloc_new Y.w (.cells (s.eval m).cells u);have K:Y.w.heap.size<(Y.w.alloc (.cells (s.eval m).cells u)).heap.size:=(kZ.1 o).1;let⟨b,x⟩:=ar.Jx a.bM (eI:=Y.w.alloc (.cells (s.eval m).cells u)) (by grind[cX.alloc]);have g:=c.length;simp only[y5]at g;have E:((s.eval m).cells.toList.drop 0).take (Z (l G L m).pl.cells)=(s.eval m).cells.toList:=by
  rw[lq];exact gT (by simp[g])
 have i:R (Y.dm (Y.w.alloc (.cells (s.eval m).cells u))) (.aH ab (l G L m).pl.cells 0) (.pointer (aa ⟨Y.w.heap.size,0+0,ae⟩)):=
  .aH ab _ 0 Y.w.heap.size 0 (s.eval m).cells u _ (.inr (by omega)) o (by simp[g]) (by rw[E];exact RL.mono b a.bM c) (by grind)
 refine⟨_,_,Y.dm _,by exact q,.inl rfl,.inl i,?_,b⟩;have:=St.mono a b x (λ_ _ h=>h) (λH k D=>(cX.alloc Y.w (.cells (s.eval m).cells u) (λ_=>False)).block k (a.bM.blt H k D).1 (λh=>h));simpa[ar.dm,<-a.hp]using this
theorem JD(off:Nat):∀(vs:List Value)(a:Nat)(cells:Array Value),off+a+Z vs<=cells.size->
 ((vs.zipIdx a).foldl (λc(b:Value×Nat)=>c.setIfInBounds (off+b.2) b.1) cells).toList=cells.toList.take (off+a)++vs++cells.toList.drop (off+a+Z vs)
 |[],a,cells,_=>by simp
 |v::vs,a,cells,h=>by
  simp only[kI]at h;simp only[List.zipIdx_cons,np];rw[JD off vs (a+1) _ (by simp;omega)];have d:off+a<Z cells.toList:=by simp;omega
  rw[Array.toList_setIfInBounds,List.take_set,List.drop_set_of_lt (by omega)];rw[show off+(a+1)=off+a+1 by omega,iy d,OI _ _ (by simp;omega)];simp only[h0,ht,kI];rw[OJ (by omega),OK];grind
theorem JE{d:ar}{b:Act}{n:AS}(o:St d n b.tmps)(k:dz G d)(place:Nat->Option (Nat×Nat)):∀(parts:List (Nat×Operand))(c:List AV)(cells:Array Value)(r:List AV),RL d c cells.toList->(∀i∈cells.toList,i.oneCell'=ad)->
 xK place c (parts.map λa=>(a.1,l G n a.2))=aa r->∃e,Instr.fill place cells (parts.map λa=>(a.1,b.eval a.2))=aa e/\RL d r e.toList/\∀i∈e.toList,i.oneCell'=ad
 |[],c,cells,r,g,j,h=>by
  simp[xK]at h;subst h;exact⟨cells,rfl,g,j⟩
 |(v,f)::parts,c,cells,r,g,j,h=>by
  simp only[ej,xK]at h;rcases t:place v with _|q;grind;let⟨off,size⟩:=q;simp only[t]at h;split at h
  case isFalse=>simp at h
  case isTrue m=>
  let⟨s,w⟩:=(R.pl (dM o k f)).cells m.2.2;have u:(b.eval f).cells.size=size:=by rw[<-m.1,<-s.length];simp
  have A:cells.size=Z c:=by simpa using g.length
  have B:=JD off (b.eval f).cells.toList 0 cells (by simp[u];omega);let⟨e,x,y,z⟩:=JE o k place parts _ ((b.eval f).cells.zipIdx.foldl (λp(a:Value×Nat)=>p.setIfInBounds (off+a.2) a.1) cells) r (by
   grind[Array.toList_zipIdx,RL.e3]) (by
   grind[Array.toList_zipIdx]) h
  grind[Instr.fill]
theorem abC{i:Array (Nat×Operand)}{j:AV}(p:St Y L s.tmps)(x:dz G Y)(K:B.op=.build u i)(h:zf P u (i.toList.map λC=>(C.1,l G L C.2))=aa j):cx P B s Y j L:=by
 unfold zf at h;have key:∀b,P.built u ((i.map λ(c,R)=>(c,s.eval R)).toList)=aa b->RL Y j.cells b.toList->(∀D∈b.toList,D.oneCell'=ad)->(∃v,j=.agg v)->cx P B s Y j L:=by
  intro b H f e ⟨v,Q⟩;subst Q;refine cx.still p (bA:=.agg b) ?_ (.inl (.agg _ _ f e));simp[execOp,K,run_build Y.w u _ b H]
 split at h
 ·rename_i k q z o
  let⟨c,t,y,A,f,e⟩:=xT (Y:=Y) o;split at h
  case isFalse=>simp at h
  case isTrue E=>
  simp only[dq]at h;obtain⟨r,g,rfl⟩:=h;have M:∀(d:List Field),d.all (λa=>(P.info? a.type).isSome)=ad->d.mapM (λa=>(P.info? a.type).map λc=>(a.offset,c.size))=aa (d.map λa=>(a.offset,bj P a.type)):=by
   intro d;induction d with
   |nil=>intro _;rfl
   |cons a d T=>
    simp_all[oF,ba,sK,List.mapM_cons,jy]
  have N:(λc:Nat=>(k[c]?).map λa:Field=>(a.offset,bj P a.type))=λc:Nat=>((k.toList.map λa:Field=>(a.offset,bj P a.type)).toArray)[c]?:=by
   funext c;simp
  rw[N]at g;let⟨b,I,n,m⟩:=JE p x _ i.toList q t.cells r f e g;refine key b ?_ n m ⟨_,rfl⟩;have F:k.toList.all (λa=>(P.info? a.type).isSome)=true:=by simpa using E
  simp only[Program.built,y,z,A,M _ F];simp_all
 ·rename_i V S q z o
  let⟨c,t,y,A,f,e⟩:=xT (Y:=Y) o;split at h
  case isFalse=>simp at h
  case isTrue O=>
  simp only[dq]at h;obtain⟨r,g,rfl⟩:=h;let⟨U,J⟩:=u0 O;rw[jy J]at g;let⟨b,I,n,m⟩:=JE p x _ i.toList q t.cells r f e g;refine key b ?_ n m ⟨_,rfl⟩;simp_all[Program.built]
 simp at h
variable{dp:Nat}{kk:TypeId}
theorem u1{b:Nat}:∀{a:List (List AV)}(off len:Nat),(∀e∈a,Z e=b)->((a.drop off).take len).flatten=(a.flatten.drop (off*b)).take (len*b)
 |a,0,0,_=>by simp
 |[],off,len,_=>by simp
 |e::a,0,len+1,h=>by
  have c:=h e (by simp);have d:=u1 (b:=b) (a:=a) 0 len (by grind);simp_all[lq,OL,re,OM,xB,arx,gT]
 |e::a,off+1,len,h=>by
  have c:=h e (by simp);have d:=u1 (b:=b) (a:=a) off len (by grind);simp_all[arB,xB,aaI,uP,re,Nat.add_sub_cancel]
theorem Fy(h:qx P u=ad):(∃a,P.underlying u=aa (.slice a))\/P.underlying u=aa .string:=by
 grind[qx]
theorem Src.nil{w:World}(b:qx P u=ad)(a:Option Addr)(cap:Nat):Src P U u (.slice a 0 cap) 0 [] w:=by
 rcases a with _|a;exact⟨Fy b,λ_=>rfl,run_firstCells_none w U 0 0 cap,by grind[run_firstCells_none],by simp,λ_ h=>by cases h⟩;exact⟨Fy b,λ_=>rfl,by grind[run_firstCells_some],by grind[run_firstCells_some],by simp,λ_ h=>by cases h⟩
theorem Src.at{w:World}(e:qx P u=ad){cap:Nat}(d:w.heap[N]?=aa (.cells eJ cu mJ))(g:z+dp*U<=eJ.size)
 (c:∀f∈(eJ.toList.drop z).take (dp*U),f.oneCell'=ad):Src P U u (.slice (aa ⟨N,z,ae⟩) dp cap) dp ((eJ.toList.drop z).take (dp*U)) w:=by
 have a:Z ((eJ.toList.drop z).take (dp*U))=dp*U:=by simp;omega
 have b:=Jr d z ((eJ.toList.drop z).take (dp*U)) (by rw[a]);exact⟨Fy e,λ_=>rfl,run_firstCells_some w U dp _ dp cap _ a b,run_firstCells_some w.drew U dp _ dp cap _ a (by simpa using b),a,c⟩
theorem abD(B:St Y L s.tmps){p:AV}{k:List (List AV)}(f:qx P u=ad)(h:RT Y p bA)(a:o0 L U p=aa k):
 ∃A,Src P U u bA (Z k) A Y.w/\RL Y k.flatten A/\∀e∈k,Z e=U:=by
 replace h:=h.resolve_right (by grind[o0]);cases p with
 |aq=>
  simp[o0]at a;subst a;cases h
  exact⟨[],Src.nil f _ 0,.nil,by simp⟩
 |dL=>
  simp[o0]at a;subst a;cases h
  exact⟨[],Src.nil f _ 0,.nil,by simp⟩
 |sl W c=>
  simp only[o0]at a;split at a
  case isFalse=>simp at a
  case isTrue E=>
  simp at a;subst a;have j:=O7 E;cases h with
  |jO _ l cap=>exact⟨[],Src.nil f l cap,.nil,by simp⟩
  |sl _ _ d a4 T cap m D af aj ak az v R t i=>
   have F:Z c*T=Z c*U:=by
    rcases c with _|⟨e,c⟩;simp;grind
   grind[Src.at]
 |q id g off len=>
  simp only[o0]at a;rw[B.hp]at a;rcases n:Y.H[id]? with _|ob;grind;cases ob with
  |mp _ _ _=>grind
  |fm _=>grind
  |iH _ _=>grind
  |arr ah b c=>
   simp only[n]at a;split at a
   case isFalse=>simp at a
   case isTrue v=>
   let⟨G,N,K⟩:=v;subst G;subst N;simp at a;subst a;let⟨j,M⟩:=B.bM.gL id _ n;have O:∀e∈(c.drop off).take len,Z e=b:=by grind
   have aF:Z ((c.drop off).take len)=len:=by simp;omega
   cases h with
   |q _ _ _ _ _ ax ai au h=>
    obtain⟨l,cap,rfl,aA,a0,x⟩:=h b c n;by_cases J:len=0;subst J;simp only[aaL];exact⟨[],Src.nil f l cap,.nil,by simp⟩;rcases x with x|⟨d,a5,I,rfl,R⟩;omega;rcases M with⟨F,aR⟩|⟨V,m,D,y,am,a3,t,i⟩;grind;rw[I]at y;injection y with e;injection e with C ac;subst C;have z:off*b+len*b<=Z c*b:=by
     rw[<-sM];exact mB _ K
    have a2:∀bA∈(m.toList.drop (off*b)).take (len*b),bA.oneCell'=true:=λbA Q=>by
     apply i;rw[<-lf _ (Z c*b) _ _ z]at Q;grind
    refine⟨(m.toList.drop (off*b)).take (len*b),by grind[Src.at],?_,O⟩;rw[u1 off len j];have r:=RL.take (len*b) (RL.drop (off*b) t);rw[lf _ _ _ _ z]at r;exact r
 |str o=>
  simp only[o0]at a;split at a
  case isFalse=>simp at a
  case isTrue i=>
  simp at a;subst a;subst i;cases h with
  |str d=>
   refine⟨byteCells d,?_,?_,by simp⟩;rw[jX];have:Z d.data.toList=d.size:=by simp
   rw[this];exact⟨Fy f,λ_=>rfl,firstCells_string d Y.w,firstCells_string d Y.w.drew,by grind[byteCells_length],λbA j=>by
    obtain⟨_,_,rfl⟩:=cy.1 j;rfl⟩
   unfold byteCells;generalize d.data.toList=o;induction o with
   |nil=>exact .nil
   |cons X o S=>exact .cons _ _ _ _ (.int _ _) S
 |_=>simp[o0]at a
theorem abE{w:World}(k l r h:TypeId)(b:TypeInfo)(q:P.underlying k=aa (.slice h))(o:P.info? h=aa b)(c a g:Nat)(m:Value)(f:Nat)(d:List Value)(e:Src P b.size l m f d w)
 (n:w.heap[c]?=aa (.cells eJ u (0,0)))(p:a+f<=g)(t:a*b.size+Z d<=eJ.size):
 (Builtin.append_ #[k,l] r #[.slice (aa ⟨c,0,ae⟩) a g,m]).run P w=.ok (.slice (aa ⟨c,0,ae⟩) (a+f) g) (w.setRow c (eJ.toList.take (a*b.size)++d++eJ.toList.drop (a*b.size+Z d)).toArray):=by
 have j:=run_storeCells_at P c (a*b.size) u d 0 eJ w n (by omega) e.one;simp only[fY]at j;rcases e.kind with⟨s,i⟩|i<;>simp[Builtin.append_,run_underlying q,run_underlying i,sizeOf,typeInfo,o,e.len,p,e.cells,Addr.add_mid,j]
theorem Ph{w:World}(e f j b:TypeId)(d:TypeInfo)(i:P.underlying e=aa (.slice b))(h:P.info? b=aa d)(base:Option Addr)(cap:Nat)(g:Value)(a:Src P d.size f g 0 [] w):
 (Builtin.append_ #[e,f] j #[.slice base 0 cap,g]).run P w=.ok (.slice base 0 cap) w:=by
 rcases a.kind with⟨k,c⟩|c<;>cases base<;>simp[Builtin.append_,run_underlying i,run_underlying c,sizeOf,typeInfo,h,a.len,a.cells,storeCells]
theorem A6(b:Array Value)(a:Nat):(Builtin.zeroCells b a).size=a*b.size:=by simp[Builtin.zeroCells]
theorem JF(o:St Y L s.tmps){bD d7 d6:AV}{y:Value}(M:RT Y bD bA)(f7:RT Y d7 y)(ax:qx P cu=ad)(h:o1 P L u bD d7=aa (d6,n)):
 ∃c p,(Builtin.append_ #[u,cu] kk #[bA,y]).run P Y.w=.ok c p.w/\R p d6 c/\St p n s.tmps/\Fr Y p:=by
 unfold o1 at h;split at h
 case h_2=>simp at h
 case h_1 l ac=>
 split at h
 case h_2=>simp at h
 case h_1 z b af d1=>
 split at h
 case isFalse=>simp at h
 case isTrue au=>
 let⟨d2,f2,a3⟩:=au;let⟨a,ai,G,d4,f8,g7⟩:=xT (Y:=Y) af;rw[jy G]at d2 f2 d1 h;rw[Jp G]at a3 h;have d3:ai.cells.size=a.size:=by rw[<-d2,<-f8.length];simp
 let⟨f,x,cc,dl⟩:=abD o (u:=cu) ax f7 d1;have B:Z f=Z b*a.size:=x.newsLen;split at h
 ·
  rename_i co;let⟨j,f6⟩:∃j,bA=.slice j 0 0:=by
   replace M:=M.resolve_right (by rintro⟨_,_,_,h,_⟩;rw[h]at co;cases co);cases M<;>first|exact⟨_,rfl⟩|grind[AV.isNil]
  subst f6;have el:(Builtin.firstCells a.size 0 (.slice j 0 0)).run P Y.w.drew=.ok #[] Y.w.drew:=by
   rcases j with _|j;grind[run_firstCells_none];grind[run_firstCells_some]
  split at h
  case isFalse=>simp at h
  case isTrue a4=>
  simp at h;let⟨rfl,rfl⟩:=h;by_cases a0:b=[];subst a0;have bb:f=[]:=tO (by simpa using B);subst bb;let⟨p,N,cb,br,r⟩:=Pf o a.size Y.w (cX.refl _ _);refine⟨_,p,by rw[N];exact Ph u cu kk l a ac G j 0 y x,?_,br,r⟩;grind[Pg];have g6:0<Z b:=List.length_pos_iff.2 a0;have S:Z b*a.bytes<=140737488355328:=by simpa using a4
  have a6:Z b<=140737488355328:=ix (aaM _ a3) S;have C:=run_append_grow_src (P:=P) Y.w u cu kk l a ai ac G d4 j 0 0 [] el y (Z b) f x (by omega) (by omega) (growslice_fits (by omega) (by simpa using S));simp only[e,dR]at C;have a5:=grownCap_ge Y.w (Z b) 0 l;generalize V:f.toArray++Builtin.zeroCells ai.cells (grownCap Y.w (Z b) 0 l -(Z b))=cells at C
  have X:cells.size=grownCap Y.w (Z b) 0 l*a.size:=by
   rw[<-V];simp only[aaN,arC,A6,d3,B,<-sM];congr 1;omega
  have aA:cells.toList.take (Z b*a.size)=f:=by
   rw[<-V,I3,ON,<-B];exact aaO
  let⟨p,N,E,cb,br,r⟩:=A5 o a.size b cells l dl (by grind) (by grind) (by rw[aA];exact x.one) (Y.w.drew.alloc (.cells cells l)) ((cX.drew _ _).trans (cX.alloc _ _ _)) (heap_alloc_new Y.w.drew _);refine⟨_,p,by rw[N];exact C,?_,br,r⟩;exact Fx (g:=0) (U:=a.size) (a:=b) (by rw[cb];simp) E a5 (by rw[X];exact c7 _)
 ·split at h
  case h_2=>simp at h
  case h_1 id g len g1=>
  rw[o.hp]at h;rcases W:Y.H[id]? with _|ob;grind;cases ob with
  |mp _ _ _=>grind
  |fm _=>grind
  |iH _ _=>grind
  |arr v go i=>
   simp only[W]at h;split at h
   case isFalse=>simp at h
   case isTrue au=>
   let⟨em,a6,X,a4⟩:=au;subst em;subst X;simp at h;let⟨rfl,rfl⟩:=h;have S:(len+Z b)*a.bytes<=140737488355328:=by simpa using a4
   have g0:len+Z b<=140737488355328:=ix (aaM _ a3) S;replace M:=M.resolve_right (by grind);let⟨ds,bi⟩:=o.bM.gL id _ W;have az:Z (i.take len++b)=len+Z b:=by simp;omega
   have d0:∀aF∈i.take len++b,Z aF=a.size:=λaF hq=>by
    rcases dt.1 hq with hq|hq;exact ds aF (sL hq);exact dl aF hq
   have cl:(i.take len++b).flatten=i.flatten.take (len*a.size)++b.flatten:=by
    rw[xC];have:=u1 0 len ds;simp only[lq,OL]at this;rw[this]
   have eq:id<Z Y.H:=(fH.1 W).1;cases M with
   |q _ _ _ _ _ _ a0 gt h=>
    obtain⟨j,cap,rfl,gU,g3,U⟩:=h _ _ W;have am:∀(I:World)(A:Option (Nat×Nat))(c:Value),(Builtin.append_ #[u,cu] kk #[.slice j len cap,y]).run P Y.w=.ok c I->cX Y.w I (λk=>∃z,Y.h id=aa (k,z))->
     (∀k z,A=aa (k,z)->k<I.heap.size/\((∃ah,Y.h id=aa (k,ah))\/Y.w.heap.size<=k))->
     (Fr Y (Y.bW I id (.arr (v+1) a.size (i.take len++b)) A)->o3 (Y.bW I id (.arr (v+1) a.size (i.take len++b)) A) id (.arr (v+1) a.size (i.take len++b)))->
     (∃aj J,c=.slice aj (len+Z b) J/\len+Z b<=J/\(J=0\/∃k z,A=aa (k,z)/\aj=aa ⟨k,0,ae⟩/\J*a.size<=z))->
     ∃c p,(Builtin.append_ #[u,cu] kk #[.slice j len cap,y]).run P Y.w=.ok c p.w/\R p (.q id (v+1) 0 (len+Z b)) c/\St p {L with hp:=Y.H.set id (.arr (v+1) a.size (i.take len++b))} s.tmps/\Fr Y p:=by
     intro I A c f3 N ex fy ⟨aj,J,f5,ek,g4⟩;let⟨r,d9⟩:=ar.sX o.bM N W (j:=.arr (v+1) a.size (i.take len++b)) (e:=A) (by simp[hP]) ex fy;refine⟨c,_,f3,?_,?_,r⟩;have fd:(Y.bW I id (.arr (v+1) a.size (i.take len++b)) A).H[id]?=aa (.arr (v+1) a.size (i.take len++b)):=by simp[ar.bW,eq]
     refine .q id (v+1) 0 _ c (by grind) (by grind) (λg9 gc ge hq=>?_) λgc ge hq=>?_;grind;rw[fd]at hq;injection hq with t;injection t with _ Q d8;subst Q;subst d8;refine⟨aj,J,f5,ek,by omega,?_⟩;simp_all[ar.bW];have:=St.mono o r d9 (λ_ _ h=>h) (λd5 O ax=>N.block O (o.bM.blt d5 O ax).1 λ⟨ah,l⟩=>(o.bM.blt d5 O ax).2.2 _ _ l);grind[ar.bW]
    by_cases bm:len+Z b<=cap;rcases U with U|⟨k,bv,E,rfl,af⟩;have t:len=0:=by omega
    have Q:b=[]:=tO (by omega);subst t;subst Q;have bb:f=[]:=tO (by simpa using B);subst bb;refine am Y.w (Y.h id) _ (Ph u cu kk l a ac G j cap y x) (cX.refl _ _) (λk z T=>⟨(o.bM.dJ _ _ _ T).1,.inl ⟨z,T⟩⟩) (λr=>?_) ⟨j,cap,rfl,by simp,.inl U⟩;refine⟨by simp,?_⟩;rcases bi with⟨_,cs⟩|⟨aR,d,ak,F,K,_,_,_⟩;grind[ar.bW];exact .inr ⟨aR,d,ak,by simp[ar.bW,F],K,by simp,by simpa using RL.nil,by simp⟩
    rcases bi with⟨_,cs⟩|⟨aR,d,ak,F,K,f9,ce,a2⟩;grind;rw[E]at F;injection F with t;injection t with t Q;subst t;have ci:len*a.size+Z f<=d.size:=by
     rw[B,<-sM];have:=mB a.size bm;simp only[e]at af;omega
    have C:=abE (P:=P) u cu kk l a ac G k len cap y (Z b) f x K bm ci;have a9:len*a.size<=Z i*a.size:=mB _ a6;simp only[OL]at am⊢;have g5:Z (d.toList.take (len*a.size)++f++d.toList.drop (len*a.size+Z f))=d.size:=by
     rw[Jy _ _ _ (by simpa using ci)];simp
    have c2:(d.toList.take (len*a.size)++f++d.toList.drop (len*a.size+Z f)).take ((len+Z b)*a.size)=d.toList.take (len*a.size)++f:=by
     rw[sM,<-B];have:Z (d.toList.take (len*a.size)++f)=len*a.size+Z f:=by simp;omega
     rw[<-this];exact aaO
    refine am _ (Y.h id) _ C (cX.setRow _ _ _ _ ⟨bv,E⟩) (λO ah T=>⟨by simp;grind,.inl ⟨ah,T⟩⟩) (λr=>?_) ⟨_,cap,rfl,bm,.inr ⟨k,bv,E,rfl,by simpa using af⟩⟩;refine⟨d0,.inr ⟨k,_,ak,?_,setRow_heap _ _ _ _ _ _ K,?_,?_,?_⟩⟩;show(if id=id then Y.h id else Y.h id)=aa (k,(List.toArray _).size);grind;grind;rw[az,ON,c2,cl];refine RL.append (RL.mono r o.bM ?_) (RL.mono r o.bM cc)
    have:=RL.take (len*a.size) ce;grind;intro c m;rw[az,ON,c2]at m;rcases dt.1 m with m|m;apply a2;have:d.toList.take (len*a.size)=(d.toList.take (Z i*a.size)).take (len*a.size):=by rw[OO,OJ a9]
    grind;exact x.one c m;have f1:∃D,(Builtin.firstCells a.size len (.slice j len cap)).run P Y.w.drew=.ok D.toArray Y.w.drew/\Z D=len*a.size/\RL Y (i.flatten.take (len*a.size)) D/\∀c∈D,c.oneCell'=true:=by
     by_cases es:len=0;subst es;refine⟨[],?_,by simp,by simpa using RL.nil,by simp⟩;rcases j with _|j;grind[run_firstCells_none];grind[run_firstCells_some];rcases U with U|⟨k,bv,E,rfl,af⟩;omega;rcases bi with⟨_,cs⟩|⟨aR,d,ak,F,K,f9,ce,a2⟩;grind;rw[E]at F;injection F with t;injection t with t Q;subst t;have a9:len*a.size<=Z i*a.size:=mB _ a6
     have f4:(d.toList.take (Z i*a.size)).take (len*a.size)=d.toList.take (len*a.size):=by rw[OO,OJ a9]
     have be:Z (d.toList.take (len*a.size))=len*a.size:=by simp;omega
     refine⟨d.toList.take (len*a.size),?_,be,by grind[RL.take],λc m=>a2 c (by rw[<-f4]at m;exact sL m)⟩;simp only[OL];have au:=Jr (w:=Y.w) K 0 (d.toList.take (len*a.size)) (by rw[be];simp);exact run_firstCells_some Y.w.drew a.size len _ len cap _ be (by simp_all)
    let⟨D,f0,c1,fn,g2⟩:=f1;have C:=run_append_grow_src (P:=P) Y.w u cu kk l a ai ac G d4 j len cap D f0 y (Z b) f x (by omega) (by omega) (growslice_fits (by omega) S);have a5:=grownCap_ge Y.w (len+Z b) cap l;generalize V:(D++f).toArray++Builtin.zeroCells ai.cells (grownCap Y.w (len+Z b) cap l -(len+Z b))=cells at C;have X:cells.size=grownCap Y.w (len+Z b) cap l*a.size:=by
     rw[<-V];simp only[aaN,arC,gC,A6,d3,B,c1,<-sM];congr 1;omega
    have aA:cells.toList.take ((len+Z b)*a.size)=D++f:=by
     rw[<-V,I3,ON,sM,<-B,<-c1,<-gC];exact aaO
    refine am _ (aa (Y.w.heap.size,cells.size)) _ C ((cX.drew _ _).trans (cX.alloc _ _ _)) (λO ah T=>?_) (λr=>?_) ⟨_,_,rfl,a5,.inr ⟨_,_,rfl,rfl,by rw[X];exact c7 _⟩⟩;simp at*;omega;refine⟨d0,.inr ⟨Y.w.heap.size,cells,l,by simp[ar.bW],heap_alloc_new Y.w.drew _,?_,?_,?_⟩⟩;grind;rw[az,aA,cl];exact RL.append (RL.mono r o.bM fn) (RL.mono r o.bM cc);intro c m;rw[az,aA]at m;rcases dt.1 m with m|m
    grind;exact x.one c m
theorem CW(a:Array Value)(b:Nat)(c:a.size=b):∀n:Nat,(madeCells a (n*b)).toList=(dh n a.toList).flatten
 |0=>by simp[madeCells]
 |n+1=>by
  have d:=CW a b c n;unfold madeCells at d⊢;rw[arD,xC,<-d,re];simp only[Array.toList_map,Array.toList_range,List.flatten_singleton];rw[List.range_add,hJ,vW]
  congr 1
  apply qs;simp[c];simp_all[xD,CD,Function.comp,Nat.mul_comm,Nat.mod_eq_of_lt]
theorem Pj{k:ar}{g:Act}{f:AS}(v:St k f g.tmps)(t:dz G k)(a:Nat):∀(parts:List (Nat×Operand))(b:List (List AV))(cells:Array Value)(r:List (List AV)),(∀p∈b,Z p=a)->RL k b.flatten cells.toList->(∀q∈cells.toList,q.oneCell'=ad)->
 lI a b (parts.map λe=>(e.1,l G f e.2))=aa r->∃m,Instr.fill (λc=>aa (c*a,a)) cells (parts.map λe=>(e.1,g.eval e.2))=aa m/\r.length=Z b/\(∀p∈r,Z p=a)/\RL k r.flatten m.toList/\∀q∈m.toList,q.oneCell'=ad
 |[],b,cells,r,j,n,s,h=>by
  simp[lI]at h;subst h;exact⟨cells,rfl,rfl,j,n,s⟩
 |(c,d)::parts,b,cells,r,j,n,s,h=>by
  simp only[ej,lI]at h;split at h
  case isFalse=>simp at h
  case isTrue o=>
  let⟨B,A,x⟩:=o;let⟨u,E⟩:=(R.pl (dM v t d)).cells x;have D:(g.eval d).cells.size=a:=by rw[<-B,<-u.length];simp
  have L:cells.size=Z b*a:=by rw[<-Ft j,<-n.length];simp
  have M:c*a+a<=Z b*a:=by
   have:=mB a (show c+1<=Z b from A);rw[re]at this;exact this
  have y:=JD (c*a) (g.eval d).cells.toList 0 cells (by simp[D];omega);let⟨i,o⟩:∃i,b[c]?=aa i:=by simp_all
  have z:(b.set c (l G f d).pl.cells).flatten=e3 b.flatten (c*a) (l G f d).pl.cells:=by
   have:=Jt (off:=0) (new:=(l G f d).pl.cells) j o (by omega);have C:e3 i 0 (l G f d).pl.cells=(l G f d).pl.cells:=by
    have:Z i=a:=j i (qp o);unfold e3;rw[aaL,uP (by omega)];simp
   rw[C,fY]at this;exact this
  let⟨m,F,H,I,J,K⟩:=Pj v t a parts (b.set c (l G f d).pl.cells) ((g.eval d).cells.zipIdx.foldl (λw(e:Value×Nat)=>w.setIfInBounds (c*a+e.2) e.1) cells) r (by
   grind) (by
   rw[<-Array.foldl_toList,Array.toList_zipIdx,y,z];simpa using RL.e3 n u (c*a)) (by
   grind[Array.toList_zipIdx]) h
  grind[Instr.fill]
theorem JG(c:St Y L s.tmps)(d:Nat)(a:List (List AV))(cells:Array Value)(i:TypeId)(j:Nat×Nat)(cap:Nat)(p:Z a<=cap)(r:∀v∈a,Z v=d)(y:Z a*d<=cells.size)
 (n:RL Y a.flatten (cells.toList.take (Z a*d)))(x:∀u∈cells.toList.take (Z a*d),u.oneCell'=ad)(b:World)(l:cX Y.w b (λ_=>False))(k:b.heap[Y.w.heap.size]?=aa (.cells cells i j)):
 ∃e,e.w=b/\RT e (.sl ab a) (.slice (aa ⟨Y.w.heap.size,0,ae⟩) (Z a) cap)/\St e L s.tmps/\Fr Y e:=by
 have z:Y.w.heap.size<b.heap.size:=(kZ.1 k).1;let⟨f,m⟩:=ar.Jx c.bM l;have o:(Y.dm b).S ab Y.w.heap.size:=.inr (by omega);refine⟨Y.dm b,rfl,.inl (.sl ab a _ 0 d cap cells i j o k r p (by omega) (by simpa using RL.mono f c.bM n) (by grind)),?_,f⟩;have:=St.mono c f m (λ_ _ h=>h) (λt g q=>l.block g (c.bM.blt t g q).1 (λh=>h));simpa[ar.dm,<-c.hp]using this
theorem abF{m:Array (Nat×Operand)}{own:Bool}{E:AV}(o:St Y L s.tmps)(H:dz G Y)(R:B.op=.buildSlice u U m)(h:tT P own L u U (m.toList.map λg=>(g.1,l G L g.2))=aa (E,n)):cx P B s Y E n:=by
 unfold tT at h;split at h
 case h_2=>simp at h
 case h_1 j V=>
 split at h
 case isFalse=>simp at h
 case isTrue r=>
 split at h
 case h_2=>simp at h
 case h_1 aj X=>
 split at h
 case isFalse=>simp at h
 case isTrue D=>
 split at h
 case h_2=>simp at h
 case h_1 b t=>
 let⟨a,p,x,aF,C,ac⟩:=xT (Y:=Y) X;rw[jy x]at r D t h;let⟨az,ax⟩:=r;have af:p.cells.size=a.size:=by rw[<-D,<-C.length];simp
 have z:=CW p.cells a.size af U;let⟨c,v,y,k,I,ak⟩:=Pj o H a.size m.toList (dh U aj) (madeCells p.cells (U*a.size)) b (by grind) (by rw[z];exact RL.replicate C U) (by
  rw[z];intro ai W;let⟨aR,O,A⟩:=uQ.1 W;rw[List.eq_of_mem_replicate O]at A;exact ac ai A) t
 simp only[arE]at y;have J:c.size=Z b*a.size:=by rw[<-Ft k,<-I.length];simp
 have aA:c.toList.take (Z b*a.size)=c.toList:=gT (by simp[J]);have q:(execOp s.eval B).run P Y.w=.ok (.value (.slice (aa ⟨Y.w.heap.size,0,ae⟩) U U)) (Y.w.alloc (.cells c j)):=by
  by_cases F:U*a.size=0;have Q:U=0:=by rcases Nat.mul_eq_zero.1 F with h|h<;>omega
  subst Q;have N:Instr.fill (λah=>aa (ah*a.size,a.size)) #[] (m.toList.map λg=>(g.1,s.eval g.2))=aa c:=by
   have:madeCells p.cells (0*a.size)=#[]:=by simp[madeCells]
   rw[this]at v;exact v
  have T:(Array.range 0).map (λ_:Nat=>(default:Value))=#[]:=by simp
  simp[execOp,R,Instr.buildSlice,run_underlying V,sizeOf,typeInfo,x,newRow,T,N];simp_all[run_buildSlice,madeCells,execOp]
 split at h;rename_i K;have M:b=[]:=by simpa using K
 simp at h;let⟨rfl,rfl⟩:=h;let⟨d,f,S,i,e⟩:=JG o a.size b c j (0,0) (Z b) (c7 _) k (by omega) (by grind) (by grind) _ (by grind[cX.alloc]) (heap_alloc_new _ _);refine⟨_,_,d,by rw[f];exact q,.inl rfl,.inl ?_,i,e⟩;rw[<-y,M];exact .dL _;split at h;simp at h;let⟨rfl,rfl⟩:=h;let⟨d,f,au,am,i,e⟩:=A5 o a.size b c j k (by omega) (by grind) (by grind) _ (by grind[cX.alloc]) (heap_alloc_new _ _)
 refine⟨_,_,d,by rw[f];exact q,.inl rfl,.inl ?_,i,e⟩;grind[Fx];simp at h;let⟨rfl,rfl⟩:=h;let⟨d,f,S,i,e⟩:=JG o a.size b c j (0,0) (Z b) (c7 _) k (by omega) (by grind) (by grind) _ (by grind[cX.alloc]) (heap_alloc_new _ _);refine⟨_,_,d,by rw[f];exact q,.inl rfl,?_,i,e⟩;grind
theorem abG{k:AV}(f:St Y L s.tmps)(i:dz G Y)(D:B.op=.makeSlice u m dT)(h:zg P L u (l G L m) (l G L dT)=aa (k,n)):cx P B s Y k n:=by
 unfold zg at h;split at h
 case h_2=>simp at h
 case h_1 g S a Q ai H z y=>
 split at h
 case h_2=>simp at h
 case h_1 e K=>
 split at h
 case isFalse=>simp at h
 case isTrue t=>
 let⟨j,E,rfl,q,r,V⟩:=t;simp at h;let⟨rfl,rfl⟩:=h;let⟨b,c,d,O,M,ah⟩:=xT (Y:=Y) K;rw[jy d]at j E;rw[Jp d]at r;have N:c.cells.size=b.size:=by rw[<-j,<-M.length];simp
 have C:=CW c.cells b.size N a.toNat;have A:=R.pO (z▸dM f i m);have v:=R.pO (y▸dM f i dT);have F:=run_make (P:=P) Y.w u g b c H d O S Q a a q (Int.le_refl _) (by rw[Int.mul_comm];omega) (by omega);have X:Z (dh a.toNat e)=a.toNat:=by simp
 have I:∀U∈dh a.toNat e,Z U=b.size:=by grind
 have x:(madeCells c.cells (a.toNat*b.size)).size=a.toNat*b.size:=size_madeCells _ _;have af:(madeCells c.cells (a.toNat*b.size)).toList.take (Z (dh a.toNat e)*b.size)=(dh a.toNat c.cells.toList).flatten:=by
  rw[gT (by simp[x]),C]
 let⟨o,J,ac,W,T,p⟩:=A5 f b.size (dh a.toNat e) (madeCells c.cells (a.toNat*b.size)) g I (by grind) (by grind[RL.replicate]) (by
  simp_all) _ (by grind[cX.alloc,madeCells]) (heap_alloc_new _ _)
 rw[jy d];refine⟨_,.slice (aa ⟨Y.w.heap.size,0,ae⟩) a.toNat a.toNat,o,?_,.inl rfl,.inl ?_,T,p⟩;rw[J];simp[execOp,D,A,v,F];grind[Fx]
theorem abH{g:AV}(a:St Y L s.tmps)(o:dz G Y)(r:B.op=.range u m)(v:P.underlying u=aa .string)(h:sU L (wb (l G L m) L.hp)=aa (g,n)):cx P B s Y g n:=by
 have f:=dM a o m;unfold wb sU at h;split at h
 case h_2=>simp at h
 case h_1 i x=>
 rw[x]at f;simp only[kf,e7,eG]at h;let⟨rfl,rfl⟩:=h;obtain⟨b,y,rfl⟩:=R.xS f;have q:Y.w.heap.size<(Y.w.alloc (.stringIter b 0)).heap.size:=by simp
 let⟨d,k⟩:=ar.Fw a.bM (gF:=.iH b.data.toList 0) (f:=aa (Y.w.heap.size,0)) (cX.alloc Y.w (.stringIter b 0) _)
  (λi E c=>by injection c with c;injection c with j _;subst j;exact⟨q,c7 _⟩)
  (λd=>⟨_,b,by simp[ar.new],heap_alloc_new _ _,rfl⟩)
 refine⟨_,.pointer (aa ⟨Y.w.heap.size,0,ae⟩),_,?_,.inl rfl,.inl (.pI _ _ ?_ rfl λD pos C=>⟨Y.w.heap.size,0,?_,rfl⟩),?_,d⟩;have t:=run_range_string (P:=P) Y.w u b v;simp[execOp,r,y,t,ar.new,World.iter];rw[a.hp];simp[ar.new];rw[a.hp];simp[ar.new];have:=St.mono a d k (λ_ _ h=>h) (λz e p=>(cX.alloc Y.w (.stringIter b 0) (λ_=>False)).block e (a.bM.blt z e p).1 (λh=>h));simpa[ar.new,a.hp]using this
theorem run_next_at{w:World}{pos:Nat}{a:ByteArray}(c:TypeId)(b:w.heap[U]?=aa (.stringIter a pos)):
 (Instr.next (.pointer (aa ⟨U,0,ae⟩)) ad c).run P w=if pos<a.size then .ok (.tuple #[.bool ad,.int .i64 pos,.int .i32 (Utf8.decode a pos).1]) {w with heap:=w.heap.setIfInBounds U (.stringIter a (pos+(Utf8.decode a pos).2))}else .ok (.tuple #[.bool ab]) w:=by
 by_cases h:pos<a.size
 ·simp only[Instr.next,getObj,setObj,Sem.run_bind,Sem.run,b,Result.andThen,h,if_true]
  simp[goInt]
 ·simp[Instr.next,getObj,Sem.run,b,h]
theorem abI{x:AV}(b:St Y L s.tmps)(D:dz G Y)(R:B.op=.next m ad)(h:sU L (tX (l G L m) L.hp)=aa (x,n)):cx P B s Y x n:=by
 have d:=dM b D m;unfold tX sU at h;split at h
 case h_2=>simp at h
 case h_1 id I=>
 rw[I]at d;split at h
 case h_2=>simp at h
 case h_1 i pos g=>
 rw[b.hp]at g;replace d:=d.resolve_right (by grind);generalize S:s.eval m=V at d;cases d with
 |pI _ _ O K H=>
 obtain⟨e,y,o,rfl⟩:=H i pos g;obtain⟨J,a,p,E,rfl⟩:=b.bM.gL id _ g;rw[o]at p;injection p with j;injection j with z A;subst z;subst A;have r:=run_next_at (P:=P) (w:=Y.w) B.type E;have t:Z a.data.toList=a.size:=by simp
 have F:qy a.data.toList pos=Utf8.decode a pos:=by simp[qy]
 split at h;rename_i c;rw[t]at c;simp only[kf,e7,eG]at h;let⟨rfl,rfl⟩:=h;rw[if_pos c]at r;rw[F];have u:cX Y.w {Y.w with heap:=Y.w.heap.setIfInBounds e (.stringIter a (pos+(Utf8.decode a pos).2))} (λi=>∃y,Y.h id=aa (i,y)):=
  ⟨rfl,rfl,⟨rfl,c7 _⟩,by simp,λf _ Q=>by
   grind⟩
 have N:=(b.bM.dJ _ _ _ o).1;let⟨k,C⟩:=ar.sX b.bM u g (j:=.iH a.data.toList (pos+(Utf8.decode a pos).2)) (e:=Y.h id) rfl (by grind)
  (λk=>⟨e,a,by simp[ar.bW,o],by
   show(Y.w.heap.setIfInBounds e _)[e]?=_;grind,rfl⟩)
 refine⟨.value (.tuple #[.bool ad,.int .i64 pos,.int .i32 (Utf8.decode a pos).1]),_,_,?_,.inl rfl,.inl (.aB _ _ (.cons _ _ _ _ (.bool _) (.cons _ _ _ _ (.int _ _) (.cons _ _ _ _ (.int _ _) .nil)))),?_,k⟩;simp_all[execOp,ar.bW];have:=St.mono b k C (λ_ _ h=>h) (λv f q=>u.block f (b.bM.blt v f q).1 λ⟨W,j⟩=>(b.bM.blt v f q).2.2 _ _ j);simpa[ar.bW,b.hp]using this;rename_i c;rw[t]at c
 simp only[kf,e7,eG]at h;let⟨rfl,rfl⟩:=h;rw[if_neg c]at r;exact cx.still b (bA:=.tuple #[.bool ab]) (by simp_all[execOp]) (.inl (.aB _ _ (.cons _ _ _ _ (.bool _) .nil)))
theorem abJ(a:St Y L s.tmps){r:Option Operand}(l:dz G Y)(b:zj P G L u r=ad)(g:B.op=.makeMap u r):cx P B s Y (.b8 (Z L.hp)) {L with hp:=L.hp++[.mp ad [] []]}:=by
 have n:Y.w.heap.size<(Y.w.alloc (.map #[] 0)).heap.size:=by simp
 let⟨d,k⟩:=ar.Fw a.bM (gF:=.mp ad [] []) (f:=aa (Y.w.heap.size,0)) (cX.alloc Y.w (.map #[] 0) _)
  (λv D c=>by injection c with c;injection c with j _;subst j;exact⟨n,c7 _⟩)
  (λd=>⟨_,#[],0,by simp[ar.new],heap_alloc_new _ _,.nil,.nil,λ_=>⟨rfl,rfl⟩⟩)
 refine⟨_,.map (aa Y.w.heap.size),_,?_,.inl rfl,.inl (.b8 _ _ ?_ rfl λA y _=>⟨Y.w.heap.size,0,?_,rfl⟩),?_,d⟩;cases r with
 |none=>simp[execOp,g,Instr.makeMap,ar.new]
 |some i=>
  unfold zj at b;split at b;cases‹aa i=ae›
  rename_i C e;injection e with e;subst e;split at b;rename_i z _ _ q o;have p:=R.pO (q▸dM a l i);simp[execOp,g,Instr.makeMap,ar.new,run_underlying o,p,asInt,asIntOf];cases b
 rw[a.hp];simp[ar.new];rw[a.hp];simp[ar.new];have:=St.mono a d k (λ_ _ h=>h) (λt f m=>(cX.alloc Y.w (.map #[] 0) (λ_=>False)).block f (a.bM.blt t f m).1 (λh=>h));simpa[ar.new,a.hp]using this
theorem abK(c:St Y L s.tmps)(f:B.op=.assign (.const (.slice ae 0 0))):cx P B s Y (.q (Z L.hp) 0 0 0) {L with hp:=L.hp++[.arr 0 U []]}:=by
 let⟨a,g,e,d,b⟩:=Pf c U Y.w (cX.refl _ _);refine⟨_,.slice ae 0 0,a,?_,.inl rfl,.inl (by grind[Pg]),d,b⟩;simp_all[execOp,Act.eval]
theorem Fz:∀{ks:List Nat}{d bs:List AV},gb ks d bs=aa ad->d=bs
 |ks,d,bs,h=>by
  unfold gb at h;split at h;rfl;split at h;rename_i f;subst f;simp only[dq,ba,beq_iff_eq]at h;let⟨e,c,a,b⟩:=h;subst b;rw[a,Fz c];simp at h;simp only[dq,ba,beq_iff_eq]at h;let⟨e,c,a,b⟩:=h;subst b;rw[a,Fz c];simp only[dq,ba,beq_iff_eq]at h;let⟨e,c,a,b⟩:=h;subst b;rw[a,Fz c]
  ·simp at h
    termination_by ks=>Z ks
    decreasing_by all_goals grind
theorem abL{a b:AV}(h:sS P u bu a b=aa ad):a=b:=by
 unfold sS at h;grind[Fz]
theorem abM{w:World}(a:nY P u=aa bu){b c:AV}{p:Value}(k:R Y b bA)(l:R Y c p){r:Bool}(h:sS P u bu b c=aa r):
 (Op.equal u bA p).run P w=.ok r w/\∀e,P.underlying u=aa e->∀g,Instr.sameNow e bA p=aa g->g=r:=by
 have s:nu P 100 u=aa bu:=by
  unfold nY at a;split at a;exact a;exact a;split at a;split at a;exact a;simp at a;simp at a;split at a;exact a;simp at a;simp at a
 have key:=JB (z:=Y) (w:=w) (P:=P) 100 10000 u bu (by omega) s;unfold sS at h;split at h
 ·rename_i j b B c
  split at h
  case isFalse=>simp at h
  case isTrue d=>
  obtain⟨rfl,rfl,m,f⟩:=d;simp at h;subst h;cases k;cases l
  have:=key [.int j b] [.int j c] [.int j b] [.int j c] (b==c) (RL.one (.int _ _)) (RL.one (.int _ _)) (by simp[f]) (by simp[f]) (by simp[gb]);simp only[valOf,m,e6,if_false,arF]at this;refine⟨this,λe _ g i=>?_⟩;unfold Instr.sameNow at i;grind
 ·rename_i b c
  split at h
  case isFalse=>simp at h
  case isTrue d=>
  obtain⟨rfl,m,f⟩:=d;simp at h;subst h;cases k with
  |str n=>
   cases l with
   |str o=>
    have:=key [.str n.data.toList] [.str o.data.toList] [.string n] [.string o] (n.data.toList==o.data.toList) (RL.one (.str _)) (RL.one (.str _)) (by simp[f]) (by simp[f]) (by simp[gb]);simp only[valOf,m,e6,if_false,arF]at this;refine⟨this,λe _ g i=>?_⟩;unfold Instr.sameNow at i;grind[beq_toListBytes,bytes_beq]
 ·rename_i q bs
  split at h
  case isFalse=>simp at h
  case isTrue d=>
  cases k with
  |agg _ x t z=>
   cases l with
   |agg _ y v A=>
    have:=key q bs x.toList y.toList r t v d.2.1 d.2.2 h;simp only[valOf,d.1,if_true,arA]at this;refine⟨this,λe _ g i=>?_⟩;grind[Instr.sameNow]
 simp at h
theorem A7{d:AV}:∀{c:List AV}{a b:Nat},findKey P u bu d c a=aa (aa b)->a<=b/\b -a<Z c/\c[b -a]?=aa d
 |[],_,_,h=>by simp[findKey]at h
 |x::i,a,b,h=>by
  simp only[findKey]at h;split at h;grind[abL];let⟨e,f,g⟩:=A7 h;grind;simp at h
theorem Pk{n:ar}{w:World}{d:TypeId}{o:TypeDesc}{l:List Nat}(t:P.underlying d=aa o)(q:nY P d=aa l){k:AV}{m:Value}(s:R n k m):∀(c:List MapEntry)(f:List AV)(a:Nat)(r:Option Nat),RL n f (c.map (·.key))->findKey P d l k f a=aa r->
 (Instr.findAsking d m c a).run P w=.ok (r.bind λj=>(c[j -a]?).map λe=>(j,e.val)) w/\∀g,Instr.findNow o m c a=aa g->g=r.bind λj=>(c[j -a]?).map λe=>(j,e.val)
 |[],f,a,r,p,h=>by
  simp[Instr.findAsking,Instr.findNow]
 |e::c,f,a,r,p,h=>by
  cases p with
  |cons A _ B _ y z=>
   simp only[findKey]at h;rcases i:sS P d l k A with _|b;grind;let⟨x,G⟩:=abM (w:=w) q s y i;cases b
   simp[i]at h;let⟨C,D⟩:=Pk (w:=w) t q s c B (a+1) r z h;have v:(r.bind λj=>((e::c)[j -a]?).map λe=>(j,e.val))=r.bind λj=>(c[j -(a+1)]?).map λe=>(j,e.val):=by
    rcases r with _|j;rfl;let⟨E,F,_⟩:=A7 h;grind
   rw[v];refine⟨by simp_all[Instr.findAsking],λg u=>?_⟩;grind[Instr.findNow];simp[i]at h;subst h;refine⟨by simp[Instr.findAsking,x],λg u=>?_⟩;grind[Instr.findNow]
theorem zm{w:World}(d:P.underlying u=aa lu)(k:nY P u=aa bu){f:AV}(l:R Y f bA)(a:List MapEntry)(b:List AV)(r:Option Nat)(j:RL Y b (a.map (·.key)))(h:findKey P u bu f b 0=aa r):
 (Instr.findKey u bA a).run P w=.ok (r.bind λe=>(a[e]?).map λg=>(e,g.val)) w:=by
 let⟨c,i⟩:=Pk (w:=w) d k l a b 0 r j h;simp only[Nat.sub_zero]at c i;unfold Instr.findKey;simp only[Sem.run_bind,run_underlying d,Result.andThen_ok];rcases m:Instr.findNow lu bA a 0 with _|n;exact c;simp_all
theorem FA{w:World}(c:P.underlying u=aa lu)(a:nY P u=aa bu){z:AV}(q:R Y z bA)(n:nZ P u bu z=ad)(empty:Bool):(Instr.checkKey empty 10000 u bA).run P w=.ok () w:=by
 unfold nZ at n;let⟨r,g⟩:=sK.1 n;unfold nY at a;rw[c]at a;have o:=A2 c;unfold sS at g;split at g
 ·cases q
  cases lu<;>simp[ze]at o a
  all_goals first
   |(unfold Instr.checkKey;simp[run_underlying c];done)
   |grind
 ·cases q
  cases lu<;>simp[ze]at o a
  all_goals first
   |(unfold Instr.checkKey;simp[run_underlying c];done)
   |grind
 ·split at g
  case isFalse=>simp at g
  case isTrue m=>
  rw[o]at m;cases lu with
  |array s x=>
   simp only at a;rcases d:P.underlying x with _|A;grind;cases A with
   |int v=>
    simp only[d]at a;split at a
    case isFalse=>simp at a
    case isTrue e=>
    cases q with
    |agg _ vs t l=>
     let⟨h,p⟩:=info_of_underlying d;rw[jy p]at e;have G:vs.size=bj P u:=by rw[<-m.2.1,<-t.length];simp
     unfold Instr.checkKey;simp only[Sem.run_bind,run_underlying c,Result.andThen_ok];simp only[arz,Std.Legacy.Range.size];have E:List.range' 0 ((s -0+1 -1)/1) 1=ay s:=by simp[aaK]
     rw[E];have f:∀i∈ay s,i<vs.size:=λi C=>by have:=iz.1 C;omega
     generalize ay s=j at f;induction j with
     |nil=>simp
     |cons i j H=>
      have K:=f i (by simp);have D:=CV (P:=P) (w:=w) p d vs (i*h.size) (by rw[e.1];omega) (λ_=>e.1);have B:∀k:Value,(Instr.checkKey empty 9999 x k).run P w=.ok () w:=by
       intro k;unfold Instr.checkKey;simp[run_underlying d]
      simp_all[sizeOf,typeInfo]
   |_=>grind
  |struct y=>
   simp only at a;split at a
   case isFalse=>simp at a
   case isTrue e=>
   cases q with
   |agg _ vs t l=>
    have G:vs.size=bj P u:=by rw[<-m.2.1,<-t.length];simp
    unfold Instr.checkKey;simp only[Sem.run_bind,run_underlying c,Result.andThen_ok,<-Array.forIn_toList];have f:∀b∈y.toList,∃v h,P.underlying b.type=aa (.int v)/\P.info? b.type=aa h/\h.size=1/\b.offset<vs.size:=by
     intro b n;have:=eQ.1 e b n;simp only[ba,decide_eq_true_eq]at this;let⟨l,I,J⟩:=this;split at l;grind[info_of_underlying,jy];cases l
    generalize y.toList=j at f;clear e a c o;induction j with
    |nil=>simp
    |cons b j H=>
     let⟨v,h,d,p,F,L⟩:=f b (by simp);have D:=CV (P:=P) (w:=w) p d vs b.offset (by omega) (λ_=>F);have B:∀k:Value,(Instr.checkKey empty 9999 b.type k).run P w=.ok () w:=by
      intro k;unfold Instr.checkKey;simp[run_underlying d]
     simp_all
  |_=>simp[ze]at m a
 simp at g
variable{ey:List (Int × Int)}{F:Bool}{x:List K}{dW:K}{b0:Type}{dV:Call}
theorem CX{v w:ar}:∀{ks:List Nat}{g:List AV}{f vs:List Value},gb ks g g≠ae->RL v g f->RL w g vs->f=vs/\∀y,(f.zip vs).all (λe=>Instr.sameBits y e.1 e.2)=ad
 |ks,[],f,vs,_,d,c=>by cases d;cases c;simp
 |ks,z::g,f,vs,h,d,c=>by
  cases d with
  |cons _ C _ f d l=>
  cases c with
  |cons _ D _ vs c m=>
  unfold gb at h;split at h;grind;rename_i r t n A u o a b;injection a with a i;injection b with b j;subst a;subst i;split at h;let⟨p,q⟩:=CX (by intro k;rw[<-j,k]at h;simp at h) l m;cases d;cases c
  simp_all[Instr.sameBits];simp at h;rename_i r t n u o a b;injection a with a i;injection b with b j;subst a;subst i;let⟨p,q⟩:=CX (by intro k;rw[<-j,k]at h;simp at h) l m;cases d with
  |str e=>
   generalize x:e.data.toList=B at c;cases c with
   |str s=>
    have:e=s:=by
     have:=congrArg List.toArray x;simp at this;cases e;cases s;simp_all
    simp_all[List.zip_cons_cons,Instr.sameBits,Go.MapKept.bytes_beq]
  rename_i r t n u o a b;injection a with a i;injection b with b j;subst a;subst i;let⟨p,q⟩:=CX (by intro k;rw[<-j,k]at h;simp at h) l m;cases d;cases c
  simp_all[Instr.sameBits];simp at h
theorem Pl{w:World}{e:AV}{b:Value}(c:R Y e bA)(d:R gE e b)(g:nZ P u bu e=ad):(Instr.keyThatStays bA b).run P w=.ok b w:=by
 unfold nZ at g;let⟨r,a⟩:=sK.1 g;have:bA=b/\Instr.sameBits 10000 bA b=true:=by
  unfold sS at a;split at a;cases c;cases d
  exact⟨rfl,by simp[Instr.sameBits]⟩;let⟨f,h⟩:=CX (ks:=[1]) (by simp[gb]) (RL.one c) (RL.one d);simp_all;split at a
  ·cases c with
   |agg _ m i f=>
   cases d with
   |agg _ vs j k=>
   let⟨f,h⟩:=CX (by rw[a];simp) i j;simp_all[Instr.sameBits]
  grind;simp at a
 simp[Instr.keyThatStays,this.2]
theorem abN(f:St Y L s.tmps){g:AV}(h:RT Y g bA){e vs:List AV}(a:wa L g=aa (e,vs)):
 ∃c b clock,bA=.map (aa c)/\Y.w.heap[c]?=aa (.map b clock)/\RL Y e (b.toList.map (·.key))/\RL Y vs (b.toList.map (·.val)):=by
 unfold wa at a;split at a;rename_i l m;simp at a;let⟨rfl,rfl⟩:=a;replace h:=h.resolve_right (by grind);cases h with
 |il _ _ c clock b q i j k=>grind
 rename_i id;split at a;rename_i o l m d;simp at a;let⟨rfl,rfl⟩:=a;rw[f.hp]at d;replace h:=h.resolve_right (by grind);cases h with
 |b8 _ _ u p h=>
  obtain⟨c,v,r,rfl⟩:=h _ d rfl;let⟨n,b,clock,t,i,j,k,_⟩:=f.bM.gL id _ d;grind
 grind;grind
theorem R.FB{a:AV}(h:RT Y a bA)(b:a.pl=a):R Y a bA:=by
 grind[R.pl]
theorem FC{a:AV}(h:nZ P u bu a=ad):a.pl=a:=by
 unfold nZ at h;cases a<;>first|rfl|simp[sS]at h
theorem JH{d:AV}(a:sR P u=aa d):∃v,(zeroValue u).run P Y.w=.ok v Y.w/\R Y d v:=by
 unfold sR at a;rcases b:P.info? u with _|i;grind;rcases c:i.zero with _|v;grind;simp[b,c]at a;refine⟨v,by simp[zeroValue,typeInfo,b,c],?_⟩;have:=O4 (Y:=Y) (bA:=v);rwa[a]at this
theorem FD(c d b:Int):∀a,gi b (oX c d a)=if c=b then aa d else gi b a
 |[]=>rfl
 |(f,g)::a=>by
  have e:=FD c d b a;grind[oX,gi]
theorem JI(i:IntKind)(a:Int):∀(d:List MapEntry)(b:List (Int×Int))(c:Nat),d.map (·.key)=b.map (λj=>Value.int .i64 j.1)->d.map (·.val)=b.map (λj=>Value.int .i64 j.2)->
 (gi a b=ae/\Instr.findNow (.int i) (.int .i64 a) d c=aa ae/\∀g,oX a g b=b++[(a,g)])\/
 ∃h v0,gi a b=aa v0/\Instr.findNow (.int i) (.int .i64 a) d c=aa (aa (c+h,.int .i64 v0))/\(∃e,d[h]?=aa e/\e.key=.int .i64 a)/\∀g,oX a g b=b.set h (a,g)
 |[],[],c,_,_=>.inl ⟨rfl,rfl,λ_=>rfl⟩
 |[],_::_,c,f,_=>by cases f
 |_::_,[],c,f,_=>by cases f
 |e::d,(u,v)::b,c,f,m=>by
  simp only[ej,CF]at f m;let⟨l,p⟩:=f;let⟨q,s⟩:=m;by_cases t:u=a;subst t;exact .inr ⟨0,v,by simp[gi],by simp[Instr.findNow,l,q,Instr.sameNow],⟨e,rfl,l⟩,λg=>by simp[oX]⟩;have x:∀r,Instr.findNow (.int i) (.int .i64 a) d (c+1)=r->Instr.findNow (.int i) (.int .i64 a) (e::d) c=r:=by grind[Instr.findNow,Instr.sameNow]
  rcases JI i a d b (c+1) p s with⟨n,o,k⟩|⟨h,v0,n,o,k,w⟩;grind[gi,oX];exact .inr ⟨h+1,v0,by grind[gi],by grind,k,by grind[oX]⟩
theorem JJ(h:xL P u=ad):∃a b g,P.underlying u=aa (.map a b)/\P.underlying a=aa (.int g)/\sR P b=aa (.int .i64 0):=by
 unfold xL at h;split at h
 case h_2=>cases h
 case h_1 a b i=>
 split at h
 case h_2=>cases h
 case h_1 e f j=>
 refine⟨a,b,?_⟩;unfold nY at e;rcases c:P.underlying a with _|d;grind;have:=A2 c;rw[f]at this;cases d<;>simp[ze]at this<;>simp[c,nu]at e
 grind
theorem Pm(i:St Y L s.tmps){id:Nat}(d:L.hp[id]?=aa (.fm ey))(e:RT Y (.b8 id) bA):
 ∃b c clock a,bA=.map (aa b)/\Y.h id=aa (b,0)/\Y.w.heap[b]?=aa (.map c clock)/\c.toList.map (·.key)=a.map (λf=>Value.int .i64 f.1)/\c.toList.map (·.val)=a.map (λf=>Value.int .i64 f.2)/\∀g,gi g a=gi g ey:=by
 rw[i.hp]at d;replace e:=e.resolve_right (by grind);cases e with
 |b8 _ _ p k h=>
  obtain⟨b,t,n,rfl⟩:=h _ d rfl;let⟨j,c,clock,a,o,l,q,r,m⟩:=i.bM.gL id _ d;grind
theorem abO{ok:Bool}{p:AV}(c:St Y L s.tmps)(j:dz G Y)(C:B.op=.lookup u m dT ok)(a:zh L.hp (l G L m)=aa ey)(v:xL P u=ad)(h:CP ey (l G L dT) ok=aa p):cx P B s Y p L:=by
 let⟨T,W,n,F,k,N⟩:=JJ v;unfold zh at a;split at a
 case h_2=>simp at a
 case h_1 id I=>
 split at a
 case h_2=>simp at a
 case h_1 af D=>
 simp at a;subst a;unfold CP at h;split at h
 case h_2=>simp at h
 case h_1 b K=>
 let⟨V,i,clock,q,J,Z,x,A,H,z⟩:=Pm c D (I▸dM c j m);have M:=R.pO (K▸dM c j dT);let⟨U,S,Q⟩:=JH (Y:=Y) N;have O:U=.int .i64 0:=by cases Q;rfl
 subst O;have y:∀g,(Instr.checkKey g 10000 T (.int .i64 b)).run P Y.w=.ok () Y.w:=λg=>by
  unfold Instr.checkKey;simp[run_underlying k]
 have o:∀r,Instr.findNow (.int n) (.int .i64 b) i.toList 0=aa r->(execOp s.eval B).run P Y.w=.ok (.value (if ok then .tuple #[(r.map (·.2)).getD (.int .i64 0),.bool r.isSome]else(r.map (·.2)).getD (.int .i64 0))) Y.w:=by
  intro r E;simp only[execOp,C,Instr.lookup,Sem.run_bind,run_underlying F,Result.andThen_ok,J,M,Go.MapKept.run_getObj_map x,Sem.run_pure,y,Instr.findKey,run_underlying k,E];rcases r with _|r;simp[S];simp
 have d:∀b,R Y (.int .i64 b) (.int .i64 b):=λb=>.int _ _;simp only[e7]at h;subst h;rw[<-z];rcases JI n b i.toList q 0 A H with⟨e,f,t⟩|⟨ac,v0,e,f,t,X⟩;refine cx.still c (o _ f) (.inl ?_);rw[e];cases ok
 exact d _;exact .aB _ _ (.cons _ _ _ _ (d _) (.cons _ _ _ _ (.bool ab) .nil));refine cx.still c (o _ f) (.inl ?_);rw[e];cases ok
 exact d _;exact .aB _ _ (.cons _ _ _ _ (d _) (.cons _ _ _ _ (.bool ad) .nil))
theorem abP{ok:Bool}{f:AV}(d:St Y L s.tmps)(q:dz G Y)(N:B.op=.lookup u m dT ok)(h:uU P L u (l G L m) (l G L dT) ok=aa f):cx P B s Y f L:=by
 unfold uU at h;split at h;grind[abO];split at h
 case h_2=>simp at h
 case h_1 C F A vs Q M=>
 split at h
 case h_2=>simp at h
 case h_1 V x=>
 split at h
 case isFalse=>simp at h
 case isTrue v=>
 let⟨W,j,clock,U,H,K,S⟩:=abN d (dM d q m) M;have z:=R.FB (dM d q dT) (FC v);let⟨p,t⟩:∃p,P.underlying C=aa p:=by
  grind[nY]
 have I:=FA (w:=Y.w) t x z v j.isEmpty;have D:∀r,findKey P C V (l G L dT) A 0=aa r->∀a,(match r.bind λo=>(j.toList[o]?).map λi=>(o,i.val)with|aa (_,f)=>a=(f,ad)|ae=>∃g,(zeroValue F).run P Y.w=.ok g Y.w/\a=(g,ab))->(execOp s.eval B).run P Y.w=.ok (.value (if ok then .tuple #[a.1,.bool a.2]else a.1)) Y.w:=by
  intro r c a k;have J:=zm (w:=Y.w) t x z j.toList A r K c;simp only[execOp,N,Instr.lookup,Sem.run_bind,run_underlying Q,Result.andThen_ok,U,Go.MapKept.run_getObj_map H,Sem.run_pure,I,J];split at k;rename_i o E b;simp only[b];subst k;simp;rename_i b;obtain⟨g,n,rfl⟩:=k;simp only[b];simp[n]
 split at h
 ·rename_i ac e
  let⟨_,Z,X⟩:=A7 e;split at h
  case h_2=>simp at h
  case h_1 ah T=>
  simp at h;subst h;let⟨af,y,c⟩:=S.get T;simp only[sN,dq]at y;obtain⟨i,b,rfl⟩:=y;refine cx.still d (D _ e (i.val,ad) (by simp only[CG,b,kf])) (.inl ?_);cases ok
  grind;exact .aB _ _ (.cons _ _ _ _ c (.cons _ _ _ _ (.bool ad) .nil))
 ·rename_i e
  split at h
  case h_2=>simp at h
  case h_1 g n=>
  simp at h;subst h;let⟨E,O,c⟩:=JH (Y:=Y) n;refine cx.still d (D _ e (E,ab) (by simp[O])) (.inl ?_);cases ok
  grind;exact .aB _ _ (.cons _ _ _ _ c (.cons _ _ _ _ (.bool ab) .nil))
 simp at h
theorem CY(a:St Y L s.tmps){id:Nat}{v vs e i:List AV}(k:L.hp[id]?=aa (.mp T v vs)){o b:Array MapEntry}{clock:Nat}(r:Y.h id=aa (U,0))(j:Y.w.heap[U]?=aa (.map o clock))
 (g:RL Y e (b.toList.map (·.key)))(u:RL Y i (b.toList.map (·.val)))(q:F=ad->N=Z e/\b.toList.map (·.born)=ay (Z e)):
 ∃f,f.w={Y.w with heap:=Y.w.heap.setIfInBounds U (.map b N)}/\f.h=Y.h/\St f {L with hp:=L.hp.set id (.mp F e i)} s.tmps/\Fr Y f:=by
 rw[a.hp]at k;let⟨t,z⟩:=Go.MapKept.heap_set (o':=.map b N) j;have l:cX Y.w {Y.w with heap:=Y.w.heap.setIfInBounds U (.map b N)} (λc=>∃y,Y.h id=aa (c,y)):=
  ⟨rfl,rfl,by grind,by simp,by grind⟩
 let⟨d,p⟩:=ar.sX a.bM (id:=id) (j:=.mp F e i) (e:=Y.h id) l k (by simp[hP])
  (by grind)
  (λd=>⟨U,b,N,by simp[ar.bW,r],t,RL.mono d a.bM g,RL.mono d a.bM u,q⟩)
 refine⟨_,rfl,?_,?_,d⟩;grind[ar.bW];have:=St.mono a d p (λ_ _ h=>h) (λm c g=>l.block c (a.bM.blt m c g).1 λ⟨A,n⟩=>(a.bM.blt m c g).2.2 _ _ n);simpa[ar.bW,a.hp]using this
theorem RL.set{c:AV}(h:R Y c bA):∀{b:List AV}{vs:List Value}(a:Nat),RL Y b vs->RL Y (b.set a c) (vs.set a bA)
 |_,_,_,.nil=>.nil
 |_,_,0,.cons _ _ _ _ _ t=>.cons _ _ _ _ h t
 |_,_,a+1,.cons _ _ _ _ d t=>.cons _ _ _ _ d (RL.set h a t)
theorem RL.eraseIdx:∀{c:List AV}{vs:List Value}(a:Nat),RL Y c vs->RL Y (c.eraseIdx a) (vs.eraseIdx a)
 |_,_,_,.nil=>.nil
 |_,_,0,.cons _ _ _ _ _ b=>b
 |_,_,a+1,.cons _ _ _ _ d b=>.cons _ _ _ _ d (RL.eraseIdx a b)
theorem zn(f:St Y L s.tmps){id:Nat}{c vs:List AV}(d:L.hp[id]?=aa (.mp T c vs))(e:RT Y (.b8 id) bA):
 ∃b a clock,bA=.map (aa b)/\Y.h id=aa (b,0)/\Y.w.heap[b]?=aa (.map a clock)/\RL Y c (a.toList.map (·.key))/\RL Y vs (a.toList.map (·.val))/\(T=ad->clock=Z c/\a.toList.map (·.born)=ay (Z c)):=by
 rw[f.hp]at d;replace e:=e.resolve_right (by grind);cases e with
 |b8 _ _ n i h=>
  obtain⟨b,q,l,rfl⟩:=h _ d rfl;let⟨g,a,clock,m,j,o,p,k⟩:=f.bM.gL id _ d;grind
theorem JK(b:nY P u=aa bu):∃a,P.underlying u=aa a:=by
 grind[nY]
theorem tY(a:Array MapEntry)(b:Nat)(c:MapEntry->MapEntry)(g:MapEntry->K):(a.modify b c).toList.map g=match a[b]? with|aa d=>(a.toList.map g).set b (g (c d))|ae=>a.toList.map g:=by
 apply y6;grind
theorem u2(h:x[U]?=aa dW):x.set U dW=x:=by
 apply y6;grind
theorem sX{a:Operand}(g:St Y L s.tmps)(v:dz G Y)(o:B.op=.mapUpdate u m dT a\/B.op=.insert u m dT a)(h:xM P L u (l G L m) (l G L dT) (l G L a)=aa n):cx P B s Y .undef n:=by
 unfold xM at h;split at h
 case h_2=>simp at h
 case h_1 a0 ax id N ac=>
 split at h
 case h_2=>simp at h
 case h_1 E q vs aR K k=>
 split at h
 case isFalse=>simp at h
 case isTrue y=>
 let⟨S,b,clock,O,V,d,j,aA,az⟩:=zn g K (ac▸dM g v m);have e:=R.FB (dM g v dT) (FC y);have aF:=R.pl (dM g v a);let⟨au,x⟩:=JK k;have F:=FA (w:=Y.w) x k e y ab;have af:execOp s.eval B=(do Instr.mapUpdate u (s.eval m) (s.eval dT) (s.eval a);pure .skip):=by
  rcases o with o|o<;>simp[execOp,o]
 have D:∀(f C:List AV)(c:Array MapEntry)(r:Nat),(Instr.mapUpdate u (s.eval m) (s.eval dT) (s.eval a)).run P Y.w=.ok () {Y.w with heap:=Y.w.heap.setIfInBounds S (.map c r)}->
  RL Y f (c.toList.map (·.key))->RL Y C (c.toList.map (·.val))->(E=ad->r=Z f/\c.toList.map (·.born)=ay (Z f))->n={L with hp:=L.hp.set id (.mp E f C)}->cx P B s Y .undef n:=by
  intro f C c r A W aj U ah;let⟨Q,ak,_,am,T⟩:=CY g K V d W aj U;refine⟨.skip,undef,Q,?_,.inr ⟨rfl,rfl⟩,.inl (.undef _),ah▸am,T⟩;rw[af,ak];simp[A]
 split at h;rename_i p i;let⟨_,X,J⟩:=A7 i;simp at h X J;have z:=zm (w:=Y.w) x k e b.toList q _ j i;let⟨a2,M,A⟩:=j.get J;simp only[sN,dq]at M;obtain⟨t,H,rfl⟩:=M;have I:b[p]?=aa t:=by simpa using H
 have ai:=Pl (P:=P) (w:=Y.w) A e y;refine D q (vs.set p (l G L a).pl) (b.modify p λt=>{t with key:=s.eval dT,val:=s.eval a}) clock ?_ ?_ ?_ ?_ h.symm;simp only[Instr.mapUpdate,Sem.run_bind,run_underlying N,Result.andThen_ok,O,Go.MapKept.run_getObj_map d,F,z,CG,H,kf,I,nr,ai];exact Go.MapKept.run_setObj_map _ d;rw[tY,I];simp only;have:=RL.set e p j;grind[u2];grind[tY,RL.set];grind[tY,u2];rename_i i
 simp at h;have z:=zm (w:=Y.w) x k e b.toList q _ j i;refine D (q++[l G L dT]) (vs++[(l G L a).pl]) (b.push {key:=s.eval dT,val:=s.eval a,born:=clock}) (clock+1) ?_ ?_ ?_ ?_ h.symm;simp only[Instr.mapUpdate,Sem.run_bind,run_underlying N,Result.andThen_ok,O,Go.MapKept.run_getObj_map d,F,z,arG];exact Go.MapKept.run_setObj_map _ d;grind[RL.append,RL.one];grind[RL.append,RL.one]
 grind[List.range_succ];simp at h
theorem JL(c:K->b0):∀(b:List K)(a:Nat),(b.eraseIdx a).map c=(b.map c).eraseIdx a
 |[],_=>rfl
 |_::_,0=>rfl
 |_::b,a+1=>by simp[JL c b a]
theorem abQ(k:St Y L s.tmps)(y:dz G Y)(am:B.op=.call dV)(V:dV.callee=.builtin .delete)(U:dV.argTypes.toList=[u,cu])(T:dV.args.toList=[m,dT])
 (h:AW P L u (l G L m) (l G L dT)=aa n):cx P B s Y (.aB []) n:=by
 unfold AW at h;split at h
 case h_2=>simp at h
 case h_1 a4 a0 id J ak=>
 split at h
 case h_2=>simp at h
 case h_1 S j vs a3 r i=>
 split at h
 case isFalse=>simp at h
 case isTrue E=>
 let⟨N,a,clock,K,af,d,g,az,X⟩:=zn k r (ak▸dM k y m);have t:=R.FB (dM k y dT) (FC E);let⟨aR,p⟩:=JK i;have C:=FA (w:=Y.w) p i t E a.isEmpty;have x:∀(o:Bool)(e v:List AV)(c:Array MapEntry),(Builtin.delete_ dV.argTypes B.type (dV.args.map s.eval)).run P Y.w=.ok (.tuple #[]) {Y.w with heap:=Y.w.heap.setIfInBounds N (.map c clock)}->
  RL Y e (c.toList.map (·.key))->RL Y v (c.toList.map (·.val))->(o=ad->clock=Z e/\c.toList.map (·.born)=ay (Z e))->n={L with hp:=L.hp.set id (.mp o e v)}->cx P B s Y (.aB []) n:=by
  intro o e v c H ah ax ac au;let⟨M,aA,_,aF,Q⟩:=CY k r af d ah ax ac;refine⟨.value (.tuple #[]),.tuple #[],M,?_,.inl rfl,.inl (.aB _ _ .nil),au▸aF,Q⟩;rw[aA];simp[execOp,am,resolve,V,invoke,builtin,H]
 have z:dV.argTypes=#[u,cu]:=by rw[<-oH];simpa using U
 have A:dV.args.map s.eval=#[s.eval m,s.eval dT]:=by rw[<-oH];simp[T]
 split at h;rename_i b f;let⟨_,ai,F⟩:=A7 f;simp at h ai F;have q:=zm (w:=Y.w) p i t a.toList j _ g f;let⟨a5,I,H⟩:=g.get F;simp only[sN,dq]at I;obtain⟨O,D,rfl⟩:=I;have aj:b<a.size:=by have:=(fH.1 D).1;simpa using this
 have a2:(a.eraseIdxIfInBounds b).toList=a.toList.eraseIdx b:=by simp[Array.eraseIdxIfInBounds,aj]
 refine x ab (j.eraseIdx b) (vs.eraseIdx b) (a.eraseIdxIfInBounds b) ?_ ?_ ?_ (λh=>by cases h) h.symm;rw[z,A];have W:a[b]?=aa O:=by simpa using D
 simp[Builtin.delete_,run_underlying J,K,Go.MapKept.run_getObj_map d,C,q,W,Go.MapKept.run_setObj_map _ d];grind[JL,RL.eraseIdx];grind[JL,RL.eraseIdx];rename_i f;simp at h;have q:=zm (w:=Y.w) p i t a.toList j _ g f;refine x S j vs a ?_ g az X ?_;rw[z,A];simp[Builtin.delete_,run_underlying J,K,Go.MapKept.run_getObj_map d,C,q,Go.MapKept.run_setObj_map _ d];rw[<-h,u2 r];simp at h
theorem abR{T:AV}(b:St Y L s.tmps)(F:dz G Y)(M:B.op=.mapEntry u m dT)(h:zi P L u (l G L m) (l G L dT)=aa (T,n)):cx P B s Y T n:=by
 unfold zi at h;split at h
 case h_2=>simp at h
 case h_1 a5 a3 id Q af=>
 split at h
 case h_2=>simp at h
 case h_1 q vs a4 p o=>
 split at h
 case isFalse=>simp at h
 case isTrue C=>
 let⟨a0,d,clock,S,J,e,k,ak,ac⟩:=zn b p (af▸dM b F m);let⟨y,x⟩:=ac rfl;have i:=R.FB (dM b F dT) (FC C);let⟨a2,z⟩:=JK o;have H:=FA (w:=Y.w) z o i C ab;split at h
 ·rename_i a j
  let⟨_,K,I⟩:=A7 j;simp at K I;have D:=zm (w:=Y.w) z o i d.toList q _ k j;let⟨a6,N,ah⟩:=k.get I;simp only[sN,dq]at N;obtain⟨c,A,rfl⟩:=N;have g:d[a]?=aa c:=by simpa using A
  have aj:=Pl (P:=P) (w:=Y.w) ah i C;split at h
  case h_2=>simp at h
  case h_1 bb am=>
  simp at h;let⟨rfl,rfl⟩:=h;have Z:c.born=a:=by
   have v:(d.toList.map (·.born))[a]?=aa c.born:=by simp[g]
   rw[x]at v;simp[arH K]at v;exact v.symm
  let⟨t,E,_,r,f⟩:=CY (b:=d.modify a λc=>{c with key:=s.eval dT}) (N:=clock) (F:=true) (e:=q) (i:=vs) b p J e (by
   rw[tY,g];simp only;have:=RL.set i a k;grind[u2]) (by
   grind[tY,u2]) (λ_=>by
   rw[tY,g];simp only;rw[u2 (by simp[g]),x];exact⟨y,rfl⟩)
  rw[u2 p]at r;let⟨a9,O,ai⟩:=ak.get am;simp only[sN,A,kf,e7]at O;subst O;refine⟨.value (.tuple #[c.val,goInt a]),_,t,?_,.inl rfl,.inl (.aB _ _ (.cons _ _ _ _ (ai.mono f b.bM) (.cons _ _ _ _ (.int .i64 a) .nil))),r,f⟩;rw[E]
  simp only[execOp,M,Instr.mapEntry,Sem.run_bind,run_underlying Q,Result.andThen_ok,S,Go.MapKept.run_getObj_map e,H,D,CG,A,kf,g,nr,aj,Go.MapKept.run_setObj_map _ e,Sem.run_pure,Z]
 ·rename_i j
  have D:=zm (w:=Y.w) z o i d.toList q _ k j;split at h
  case h_2=>simp at h
  case h_1 aR au=>
  simp at h;let⟨rfl,rfl⟩:=h;let⟨U,az,ax⟩:=JH (Y:=Y) au;let⟨t,E,_,r,f⟩:=CY (b:=d.push {key:=s.eval dT,val:=U,born:=clock}) (N:=clock+1) (F:=true) (e:=q++[l G L dT]) (i:=vs++[aR]) b p J e
   (by grind[RL.append,RL.one]) (by grind[RL.append,RL.one]) (λ_=>by simp[x,y,uR])
  refine⟨.value (.tuple #[U,goInt clock]),_,t,?_,.inl rfl,.inl (.aB _ _ (.cons _ _ _ _ (ax.mono f b.bM) (.cons _ _ _ _ (by rw[y];exact .int .i64 _) .nil))),r,f⟩;rw[E];simp only[execOp,M,Instr.mapEntry,Sem.run_bind,run_underlying Q,Result.andThen_ok,S,Go.MapKept.run_getObj_map e,H,D,arG,az,Go.MapKept.run_setObj_map _ e,Sem.run_pure]
 simp at h
theorem abS{e:Operand}(d:St Y L s.tmps)(j:dz G Y)(I:B.op=.entryStore u m dT e)(h:AU L (l G L m) (l G L dT) (l G L e)=aa n):cx P B s Y .undef n:=by
 unfold AU at h;split at h
 case h_2=>simp at h
 case h_1 id X c H D=>
 split at h
 case h_2=>simp at h
 case h_1 p vs t=>
 split at h
 case isFalse=>simp at h
 case isTrue U=>
 simp at h;let⟨N,a,clock,K,C,k,F,V,A⟩:=zn d t (H▸dM d j m);let⟨x,r⟩:=A rfl;have E:=R.pO (D▸dM d j dT);have W:=R.pl (dM d j e);have T:a.size=Z p:=by simpa using F.length
 have f:c<a.size:=by omega
 have q:∀b(o:b<a.size),a[b].born=b:=by
  intro b o;have i:(a.toList.map (·.born))[b]?=aa a[b].born:=by simp[o]
  rw[r]at i;simp[arH (show b<Z p by omega)]at i;exact i.symm
 have z:a.findIdx? (λg=>(g.born:Int)==(b4 c))=aa c:=by
  rw[Array.findIdx?_eq_some_iff_getElem];refine⟨f,by simp[q c f],λb o=>?_⟩;have:=q b (by omega);simp[this];omega
 have y:a[c]?=aa a[c]:=by simp[f]
 let⟨v,J,_,M,w⟩:=CY (b:=a.modify c λg=>{g with val:=s.eval e}) (N:=clock) (F:=true) (e:=p) (i:=vs.set c (l G L e).pl) d t C k (by
  grind[tY,u2]) (by
  grind[tY,RL.set]) (λ_=>by
  rw[tY,y];simp only;rw[u2 (by simp[f]),r];exact⟨x,rfl⟩)
 refine⟨.skip,undef,v,?_,.inr ⟨rfl,rfl⟩,.inl (.undef _),h▸M,w⟩;rw[J];simp only[execOp,I,Instr.entryStore,Sem.run_bind,K,E,Result.andThen_ok,Go.MapKept.run_getObj_map k,asInt,asIntOf,Sem.run_pure,z,Go.MapKept.run_setObj_map _ k]
variable{ca:Int}
def u3(e c b:Nat):Option Value->Prop
 |ae=>b=c
 |aa f=>∃d a,f=.int d a/\0<=a/\a<=(e:Int)/\b=a.toNat
theorem qB(f:St Y L s.tmps)(c:dz G Y){x:Option Operand}(h:eT U N (x.map (l G L))=aa z):u3 U N z (x.map s.eval):=by
 rcases x with _|x;simp[eT]at h;exact h.symm;simp only[kf]at h⊢;cases b:l G L x with
 |int e d=>
  rw[b]at h;simp only[eT]at h;split at h;rename_i a;simp at h;exact⟨e,d,R.pO (b▸dM f c x),a.1,a.2,h.symm⟩;simp at h
 |_=>grind[eT]
theorem CZ{w:World}{code:BoundsCode}(a:0<=f)(b:f<=(U:Int)):(Instr.sliceBound (.int rj f) U code).run P w=.ok f.toNat w:=by
 simp[Instr.sliceBound,asIntOf,a,b]
theorem C0{w:World}{sl:Bool}{len cap h:Nat}{a c:Option Value}(m:len<=cap)(b:u3 len len h c)(d:u3 h 0 U a):(Instr.sliceBounds sl len cap a c ae).run P w=.ok (U,h,cap) w/\U<=h/\h<=len:=by
 rcases c with _|v;simp only[u3]at b;subst b;rcases a with _|v;simp_all[u3,Instr.sliceBounds];obtain⟨i,e,rfl,f,g,rfl⟩:=d;simp_all[Instr.sliceBounds,CZ];obtain⟨i,e,rfl,f,g,rfl⟩:=b;have j:e<=(cap:Int):=by omega
 rcases a with _|v;simp_all[u3,Instr.sliceBounds,CZ];obtain⟨o,n,rfl,k,l,rfl⟩:=d;exact⟨by simp_all[Instr.sliceBounds,CZ],by omega,by omega⟩
theorem extract_toList(b:ByteArray)(a h:Nat):(b.extract a h).data.toList=(b.data.toList.take h).drop a:=by
 simp[OP]
theorem FE{w:World}{a:Option Addr}{len cap h:Nat}{c b d:Option Value}(g:P.underlying u=aa (.slice cu))(f:P.info? cu=aa oL)(e:(Instr.sliceBounds ad len cap c b d).run P w=.ok (U,h,N) w):
 (Instr.sliceAt u (.slice a len cap) c b d).run P w=.ok (.slice (if N=U then a else a.map (·.add (U*oL.size))) (h -U) (N -U)) w:=by
 simp_all[Instr.sliceAt,Instr.slice,run_underlying,sizeOf,typeInfo]
theorem abT{v t:Option Operand}{O:AV}(e:St Y L s.tmps)(j:dz G Y)(ce:B.op=.slice u m v t ae)
 (h:nt P L u (l G L m) (v.map (l G L)) (t.map (l G L))=aa (O,n)):cx P B s Y O n:=by
 have b:=dM e j m;generalize l G L m=ds at h b;have d6:execOp s.eval B=(do pure (.value (<-Instr.sliceAt u (s.eval m) (v.map s.eval) (t.map s.eval) ae))):=by
  simp[execOp,ce]
 have H:∀N,(Instr.sliceAt u (s.eval m) (v.map s.eval) (t.map s.eval) ae).run P Y.w=.ok N Y.w->R Y O N->n=L->cx P B s Y O n:=by
  intro N F K cl;subst cl;exact cx.still e (by simp_all) (.inl K)
 generalize d7:s.eval m=dl at*;cases ds with
 |aq=>
  simp only[nt]at h;split at h
  case h_2=>simp at h
  case h_1 y ac af r D J=>
  split at h
  case isFalse=>simp at h
  case isTrue o=>
  simp at h;obtain⟨rfl,rfl⟩:=h;let⟨d,p⟩:=u0 o;replace b:=b.resolve_right (by grind);cases b
  have A:=qB e j D;have C:=qB e j J;have ah:ac=0:=by cases t with|none=>exact A|some _=>obtain⟨_,_,_,_,_,rfl⟩:=A;omega
  have ai:af=0:=by cases v with|none=>exact C|some _=>obtain⟨_,_,_,_,_,rfl⟩:=C;omega
  subst ah;subst ai;have k:(Instr.sliceBounds ad 0 0 (v.map s.eval) (t.map s.eval) ae).run P Y.w=.ok (0,0,0) Y.w:=by grind[C0]
  refine H _ (FE r p k) ?_ rfl;exact R.aq
 |dL=>
  simp only[nt]at h;split at h
  case h_2=>simp at h
  case h_1 y ac af r D J=>
  split at h
  case isFalse=>simp at h
  case isTrue o=>
  simp at h;obtain⟨rfl,rfl⟩:=h;let⟨d,p⟩:=u0 o;replace b:=b.resolve_right (by grind);cases b
  have A:=qB e j D;have C:=qB e j J;have ah:ac=0:=by cases t with|none=>exact A|some _=>obtain⟨_,_,_,_,_,rfl⟩:=A;omega
  have ai:af=0:=by cases v with|none=>exact C|some _=>obtain⟨_,_,_,_,_,rfl⟩:=C;omega
  subst ah;subst ai;have k:(Instr.sliceBounds ad 0 0 (v.map s.eval) (t.map s.eval) ae).run P Y.w=.ok (0,0,0) Y.w:=by grind[C0]
  refine H _ (FE r p k) ?_ rfl;have e0:∀i:Addr,(Value.slice (if 0=0 then aa i else(aa i).map (·.add (0*d.size))) (0 -0) (0 -0))=.slice (aa i) 0 0:=λi=>by simp
  rw[e0];exact R.dL _
 |str z=>
  simp only[nt]at h;split at h
  case h_2=>simp at h
  case h_1 c r x=>
  split at h
  case h_2=>simp at h
  case h_1 a E=>
  simp at h;obtain⟨rfl,rfl⟩:=h;obtain⟨I,rfl,rfl⟩:=R.xS b;have X:Z I.data.toList=I.size:=by simp
  rw[X]at x;let⟨k,_,_⟩:=C0 (P:=P) (w:=Y.w) (sl:=false) (c7 I.size) (qB e j x) (qB e j E);refine H (.string (I.extract a c)) ?_ ?_ rfl;simp[Instr.sliceAt,Instr.slice,run_underlying r,k];rw[<-extract_toList];exact .str _
 |sl aj f=>
  simp only[nt]at h;replace b:=b.resolve_right (by grind);have co:∃i cap,dl=.slice i (Z f) cap/\Z f<=cap:=by
   cases b with
   |jO _ i cap=>grind
   |sl _ _ z B c cap ak au ax aA k x o a0 K D=>grind
  split at h
  ·rename_i y c r x
   split at h
   case h_2=>simp at h
   case h_1 a E=>
   split at h
   case isFalse=>simp at h
   case isTrue o=>
   simp at h;obtain⟨rfl,rfl⟩:=h;let⟨d,p⟩:=u0 o.2;let⟨i,cap,aR,M⟩:=co;let⟨k,V,T⟩:=C0 (P:=P) (w:=Y.w) (sl:=true) M (qB e j x) (qB e j E);have F:=FE (a:=i) r p k;rw[<-aR]at F;refine H _ F ?_ rfl;cases b with
   |jO _ d1 Q=>simp at T;subst T;simp;simp at V;subst V;simpa using R.jO aj _ _
   |sl _ _ z B c1 Q ak au ax aA a4 bv d3 a0 K D=>
    injection aR with S am a2;subst S;subst a2;by_cases a9:c=a;subst a9;have:(f.take c).drop c=[]:=uP (by simp;omega);rw[this,OK];exact .jO _ _ _;have cc:Q≠a:=by omega
    have U:Z ((f.take c).drop a)=c -a:=by simp;omega
    have br:c1=d.size:=by
     have az:0<Z f:=by omega
     have:=O7 o.1 (f[0]) (bn az);rw[jy p]at this;grind
    subst br;have a6:(f.take c).drop a=(f.drop a).take (c -a):=by rw[OP]
    have cb:a*d.size+(c -a)*d.size<=Z f*d.size:=by
     rw[<-sM];exact mB _ (by omega)
    simp only[if_neg cc,kf,Addr.add_mid];rw[<-U];refine .sl aj _ z (B+a*d.size) d.size (Q -a) ak au ax aA a4 (λy d4=>?_) (by omega) (by grind) ?_ ?_;grind;rw[U,a6,u1 a (c -a) bv];have J:=RL.take ((c -a)*d.size) (RL.drop (a*d.size) K);grind[lf,List.drop_drop];intro N cs;rw[U,<-vU,<-lf _ (Z f*d.size) _ _ cb]at cs;grind
  simp at h
 |q id g off len=>
  simp only[nt]at h;replace b:=b.resolve_right (by grind);cases b with
  |q _ _ _ _ _ bm az be bb=>
  split at h
  ·rename_i y c r x
   split at h
   case h_2=>simp at h
   case h_1 a a3 c2 f E W=>
   split at h
   case isFalse=>simp at h
   case isTrue o=>
   obtain⟨rfl,X,ci⟩:=o;simp at h;obtain⟨rfl,rfl⟩:=h;rw[e.hp]at W;let⟨d,p⟩:=u0 ci;obtain⟨i,cap,rfl,bD,d5,M⟩:=bb c2 f W;let⟨k,V,T⟩:=C0 (P:=P) (w:=Y.w) (sl:=true) bD (qB e j x) (qB e j E);have F:=FE (a:=i) r p k;refine H _ F ?_ rfl;refine .q id a3 (off+a) (c -a) _ bm ⟨_,_,rfl⟩ be λd8 d2 aF=>?_;rw[W]at aF;injection aF with y;injection y with _ S am;subst S;subst am
   refine⟨_,_,rfl,by omega,by omega,?_⟩;rcases M with M|⟨z,d0,bi,rfl,a0⟩
   left;omega
   by_cases a5:cap=a
   left;omega
   right
   refine⟨z,d0,bi,?_,?_⟩;rw[if_neg a5,kf,Addr.add_mid,X,jy p,<-sM];grind
  simp at h
 |_=>simp[nt]at h
theorem abU{b:Operand}{a:AV}(f:St Y L s.tmps)(d:dz G Y)(e:B.op=.pick m dT b)(h:(match l G L m with|.bool c=>aa ((if c then(l G L dT).pl else(l G L b).pl),L)|_=>ae)=aa (a,n)):cx P B s Y a n:=by
 grind[abk]
theorem abV{a:List AV}(i:St Y L s.tmps)(o:dz G Y)(A:B.op=.slice u m ae ae ae)(C:P.underlying u=aa (.array U cu))(g:l G L m=.aH T a 0)
 (d:Z a=U*bj P cu)(n:bj P cu=1):cx P B s Y (.sl T (a.map λb=>[b])) L:=by
 have c:=dM i o m;rw[g]at c;replace c:=c.resolve_right (by grind);generalize D:s.eval m=H at c;let⟨E,z⟩:=u0 (P:=P) (u:=cu) (by omega);rw[n,I4]at d;cases c with
 |aH _ _ _ e h vs j k q r w p t=>
  refine cx.still i (bA:=.slice (aa ⟨e,h,ae⟩) U U) ?_ (.inl ?_);simp_all[execOp,Instr.sliceAt,run_underlying,Instr.sureAddr,Instr.sliceBounds,sizeOf,typeInfo,Addr.add_mid];have f:Z (a.map λb=>[b])=U:=by simp[d]
  have y:(a.map λb=>[b]).flatten=a:=by
   clear p t w d g f;induction a with
   |nil=>rfl
   |cons b a x=>simp[x]
  rw[<-f];refine .sl T _ e h 1 _ vs j k q r (λcu v=>?_) (c7 _) (by omega) ?_ ?_;obtain⟨b,_,rfl⟩:=cy.1 v;rfl;grind;grind
theorem xU{a:Builtin}(d:B.op=.call dV)(c:dV.callee=.builtin a){w:World}{b:Next}(h:(builtin a dV.argTypes B.type (dV.args.map λ|.const _=>ad|_=>ab) (dV.args.map s.eval)).run P w=.ok b eI):(execOp s.eval B).run P w=.ok b eI:=by
 grind[execOp,resolve,invoke]
theorem abW(A:St Y L s.tmps){m l:AV}(a:RT Y m bA)(h:l8 P L u m=aa l):∃r,(Builtin.len_ #[u] cu #[bA]).run P Y.w=.ok r Y.w/\R Y l r:=by
 unfold l8 at h;split at h;rename_i f b;simp at h;subst h;obtain⟨i,rfl,rfl⟩:=R.xS a;refine⟨goInt i.size,by simp[Builtin.len_,run_underlying b],?_⟩;have:Z i.data.toList=i.size:=by simp
 rw[this];exact .int .i64 _;rename_i d b;simp at h;subst h;replace a:=a.resolve_right (by grind);cases a
 exact⟨goInt 0,by simp[Builtin.len_,run_underlying b],.int .i64 0⟩;rename_i d b;simp at h;subst h;replace a:=a.resolve_right (by grind);cases a
 exact⟨goInt 0,by simp[Builtin.len_,run_underlying b],.int .i64 0⟩;rename_i d B c b;simp at h;subst h;replace a:=a.resolve_right (by grind);cases a with
 |jO _ n cap=>exact⟨goInt 0,by simp[Builtin.len_,run_underlying b],.int .i64 0⟩
 |sl _ _ f T S cap C D F t e k I Q H G=>exact⟨goInt (Z c),by simp[Builtin.len_,run_underlying b],.int .i64 _⟩
 rename_i d id g off len b;simp at h;subst h;replace a:=a.resolve_right (by grind);cases a with
 |q _ _ _ _ _ N p K J=>
  obtain⟨n,cap,rfl⟩:=p;exact⟨goInt len,by simp[Builtin.len_,run_underlying b],.int .i64 _⟩
 rename_i z d b;simp at h;subst h;exact⟨goInt z,by simp[Builtin.len_,run_underlying b],.int .i64 _⟩
 ·rename_i y o id b
  split at h
  case h_2=>simp at h
  case h_1 E j vs x=>
  simp at h;subst h;obtain⟨f,c,clock,rfl,M,e,v,_,_⟩:=zn A x a;have:c.size=Z j:=by simpa using v.length
  refine⟨goInt c.size,by simp[Builtin.len_,run_underlying b,Go.MapKept.run_getObj_map e],?_⟩;rw[<-this];exact .int .i64 _
 rename_i y o j vs b;simp at h;subst h;replace a:=a.resolve_right (by grind);cases a with
 |il _ _ f clock c t e k O=>
  have:c.size=Z j:=by simpa using k.length
  refine⟨goInt c.size,by simp[Builtin.len_,run_underlying b,Go.MapKept.run_getObj_map e],?_⟩;rw[<-this];exact .int .i64 _
 simp at h
theorem abX{b:AV}(a:St Y L s.tmps)(e:dz G Y)(k:B.op=.call dV)(j:dV.callee=.builtin .len)(i:dV.argTypes.toList=[u])(g:dV.args.toList=[m])(h:l8 P L u (l G L m)=aa b):cx P B s Y b L:=by
 have c:dV.argTypes=#[u]:=by rw[<-oH];simpa using i
 have d:dV.args.map s.eval=#[s.eval m]:=by rw[<-oH];simp[g]
 let⟨r,n,f⟩:=abW (cu:=B.type) a (dM a e m) h;refine cx.still a (bA:=r) (xU k j ?_) (.inl f);rw[c,d];simp[builtin,n]
theorem abY{d:AV}(a:St Y L s.tmps)(b:dz G Y)(p:B.op=.call dV)(k:dV.callee=.builtin .append)(j:dV.argTypes.toList=[u,cu])(i:dV.args.toList=[m,dT])(o:qx P cu=ad)
 (h:o1 P L u (l G L m) (l G L dT)=aa (d,n)):cx P B s Y d n:=by
 have r:dV.argTypes=#[u,cu]:=by rw[<-oH];simpa using j
 have t:dV.args.map s.eval=#[s.eval m,s.eval dT]:=by rw[<-oH];simp[i]
 let⟨c,e,v,g,q,f⟩:=JF (kk:=B.type) a (dM a b m) (dM a b dT) o h;refine⟨.value c,c,e,xU p k ?_,.inl rfl,.inl g,q,f⟩;simp_all[builtin]
theorem Pn{d:List AV}{e:AV}(h:tW d=aa e):∃c a f b,d=[.int c a,.int f b]/\e=.int c (if b<a then b else a):=by
 unfold tW at h;grind
theorem Po{d:List AV}{e:AV}(h:sT d=aa e):∃c a f b,d=[.int c a,.int f b]/\e=.int c (if b>a then b else a):=by
 unfold sT at h;grind
theorem Pp(d:St Y L s.tmps)(b:dz G Y){c:IntKind}(h:dV.args.toList.map (l G L)=[.int rj f,.int c ca]):dV.args.map s.eval=#[.int rj f,.int c ca]:=by
 rcases e:dV.args.toList with _|⟨g,a⟩;grind;rcases a with _|⟨i,a⟩;grind;rcases a with _|⟨_,_⟩;simp[e]at h;have j:=R.pO (h.1▸dM d b g);have k:=R.pO (h.2▸dM d b i);rw[<-oH];simp_all;grind
theorem abZ{b:AV}(a:St Y L s.tmps)(g:dz G Y)(j:B.op=.call dV)(i:dV.callee=.builtin .min)(h:tW (dV.args.toList.map (l G L))=aa b):cx P B s Y b L:=by
 obtain⟨k,c,m,d,e,rfl⟩:=Pn h;have f:=Pp a g e;refine cx.still a (bA:=.int k (if d<c then d else c)) (xU j i ?_) (.inl (.int _ _));rw[f];simp[builtin,Builtin.min_,Builtin.min2]
theorem ab0{b:AV}(a:St Y L s.tmps)(g:dz G Y)(j:B.op=.call dV)(i:dV.callee=.builtin .max)(h:sT (dV.args.toList.map (l G L))=aa b):cx P B s Y b L:=by
 obtain⟨k,c,m,d,e,rfl⟩:=Po h;have f:=Pp a g e;refine cx.still a (bA:=.int k (if d>c then d else c)) (xU j i ?_) (.inl (.int _ _));rw[f];simp[builtin,Builtin.max_,Builtin.max2]
theorem R.Pq(h:RT Y .aq bA):bA=.slice ae 0 0:=by
 replace h:=h.resolve_right (by grind);cases h;rfl
theorem ab1{z:AV}(i:St Y L s.tmps)(o:dz G Y)(Q:B.op=.call dV)(F:dV.callee=.builtin .append)(E:dV.argTypes.toList=[u,cu])(D:dV.args.toList=[m,dT])
 (h:tU P L u cu (l G L m) (l G L dT)=aa (z,n)):cx P B s Y z n:=by
 have ak:dV.argTypes=#[u,cu]:=by rw[<-oH];simpa using E
 have am:dV.args.map s.eval=#[s.eval m,s.eval dT]:=by rw[<-oH];simp[D]
 unfold tU at h;split at h
 case h_2=>simp at h
 case h_1 d y S T V W=>
 split at h
 case h_2=>simp at h
 case h_1 k X=>
 split at h
 case isFalse=>simp at h
 case isTrue H=>
 let⟨x,t,q,aj,p⟩:=H;simp at h;let⟨rfl,rfl⟩:=h;let⟨b,c,f,ah,af,ac⟩:=xT (Y:=Y) X;rw[jy f]at x t;rw[Jp f]at p q;have g:c.cells.size=b.size:=by rw[<-x,<-af.length];simp
 have a3:s.eval m=.slice ae 0 0:=R.Pq (V▸dM i o m);have a4:=R.pO (W▸dM i o dT);obtain⟨a,rfl⟩:∃a:Nat,y=a:=⟨y.toNat,by omega⟩;have J:0<a:=by omega
 have ax:a*b.bytes<=140737488355328:=by
  have:((a*b.bytes:Nat):Int)<=2^47:=by simpa using p
  omega
 have aF:a<=a*b.bytes:=aaM _ q;have v:=Go.Lib.run_append_grow_zeros Y.w u cu B.type d b c .i64 .i64 S T f ah ae 0 0 [] (by simp[Builtin.firstCells]) a J t (by omega) (by omega) (by omega) (by simp_all[growslice_fits]);simp only[e]at v;have aA:=grownCap_ge Y.w a 0 d;generalize r:#[]++Builtin.zeroCells c.cells a++Builtin.zeroCells c.cells (grownCap Y.w a 0 d -a)=cells at v
 have O:(Builtin.zeroCells c.cells a).toList=(dh a c.cells.toList).flatten:=by
  have:=CW c.cells b.size g a;rw[<-g]at this;exact this
 have aR:cells.size=grownCap Y.w a 0 d*b.size:=by
  rw[<-r];simp only[aaN,A6,g,Array.size_empty,e,<-sM];congr 1;omega
 have M:Z (Builtin.zeroCells c.cells a).toList=a*b.size:=by simp[A6,g]
 have a0:cells.toList.take (Z (dh a k)*b.size)=(dh a c.cells.toList).flatten:=by
  rw[<-r,I3,I3,<-O,arE,<-M];simp
 have az:∀j∈(dh a c.cells.toList).flatten,j.oneCell'=true:=by
  intro j U;let⟨a5,K,N⟩:=uQ.1 U;obtain⟨-,rfl⟩:=arI.1 K;exact ac j N
 let⟨A,a2,I,au,a6,C⟩:=A5 i b.size (dh a k) cells d (by grind) (by grind) (by grind[RL.replicate]) (by grind) (Y.w.drew.alloc (.cells cells d)) ((cX.drew _ _).trans (cX.alloc _ _ _)) (heap_alloc_new Y.w.drew _);rw[jy f];refine⟨_,.slice (aa ⟨Y.w.heap.size,0,ae⟩) a (grownCap Y.w a 0 d),A,xU Q F ?_,.inl rfl,.inl ?_,by grind,C⟩;simp_all[builtin]
 have:=Fx (g:=0) (U:=b.size) (a:=dh a k) (id:=Z L.hp) (cap:=grownCap Y.w a 0 d) (by grind) I (by grind) (by omega);grind
theorem ab2{a:List (List AV)}(h:∀c∈a,Z c=U)(b:Nat):(a.take b).flatten=a.flatten.take (b*U):=by
 have:=u1 (a:=a) 0 b h;grind
theorem Pr:∀{b:List (List AV)},(∀e∈b,Z e=U)->∀a:Nat,(b.drop a).flatten=b.flatten.drop (a*U)
 |_,_,0=>by simp
 |[],_,a+1=>by simp
 |e::b,h,a+1=>by
  have c:Z e=U:=h e (by simp);rw[arB,Pr (λf d=>h f (by simp[d])) a,xB,re,Nat.add_comm,<-vU,<-c,List.drop_left]
theorem ab3(c:St Y L s.tmps)(aA:dz G Y)(W:B.op=.call dV)(O:dV.callee=.builtin .clear)(a2:dV.argTypes.toList=[u])(a0:dV.args.toList=[m])
 (h:AX P L u (l G L m)=aa n):cx P B s Y (.aB []) n:=by
 have I:dV.argTypes=#[u]:=by rw[<-oH];simpa using a2
 have J:dV.args.map s.eval=#[s.eval m]:=by rw[<-oH];simp[a0]
 unfold AX at h;split at h
 case h_2=>simp at h
 case h_1 f id g off len ac bv=>
 split at h
 case h_2=>simp at h
 case h_1 d t a b bD X=>
 split at h
 case isFalse=>simp at h
 case isTrue a3=>
 let⟨rfl,ci,C,d6⟩:=a3;simp at h;subst h;have p:=bv▸dM c aA m;replace p:=p.resolve_right (by grind);have o:=X;rw[c.hp]at o;let⟨aj,e,S,cl,cc,cb⟩:=xT (Y:=Y) bD;rw[jy S]at C;have D:e.cells.size=aj.size:=by rw[<-C,<-ci,<-cc.length];simp
 have aR:R Y (.aB []) (.tuple #[]):=.aB _ _ .nil;generalize ah:s.eval m=ek at p;cases p with
 |q _ _ _ _ _ d0 cs ds x=>
 obtain⟨F,cap,rfl,d1,be,bi⟩:=x _ _ o;rcases Nat.eq_zero_or_pos len with bb|d2;subst bb;have br:({L with hp:=L.hp.set id (.arr t a (b.take off++(dh 0 d++b.drop (off+0))))}:AS)=L:=by
  have:L.hp.set id (.arr t a (b.take off++(dh 0 d++b.drop (off+0))))=L.hp:=by
   simpa using u2 X
  rw[this]
 have z:(Builtin.clear_ #[u] B.type #[.slice F 0 cap]).run P Y.w=.ok (.tuple #[]) Y.w:=by
  cases F<;>simp[Builtin.clear_,run_underlying ac]
 rw[br];refine cx.still c (xU W O ?_) (.inl aR);rw[I,J,ah];simp[builtin,z];rcases bi with d7|⟨i,co,v,rfl,d8⟩;omega;let⟨af,bm⟩:=c.bM.gL id _ o;rcases bm with⟨rfl,_⟩|⟨au,vs,H,a6,N,dl,aF,d5⟩;grind;rw[v]at a6;let⟨rfl,rfl⟩:i=au/\co=vs.size:=by grind
 have V:(Builtin.zeroCells e.cells len).toList=(dh len e.cells.toList).flatten:=by
  have:=CW e.cells aj.size D len;rw[<-D]at this;exact this
 have U:Z (Builtin.zeroCells e.cells len).toList=len*a:=by simp[A6,D,C]
 have a4:∀r∈(Builtin.zeroCells e.cells len).toList,r.oneCell'=true:=by
  intro r j;rw[V]at j;let⟨E,a9,x⟩:=uQ.1 j;obtain⟨-,rfl⟩:=arI.1 a9;exact cb r x
 have d3:off*a+len*a<=Z b*a:=by rw[<-sM];exact mB _ be
 have A:=run_storeCells_at P i (off*a) H (Builtin.zeroCells e.cells len).toList 0 vs Y.w N (by omega) a4;simp only[fY]at A;generalize y:vs.toList.take (off*a)++(Builtin.zeroCells e.cells len).toList++vs.toList.drop (off*a+Z (Builtin.zeroCells e.cells len).toList)=new at A;have d4:Z new=vs.size:=by
  rw[<-y,Jy _ _ _ (by simp only[U,y5];omega)];simp
 have ai:cX Y.w (Y.w.setRow i new.toArray) (λdV=>∃d,Y.h id=aa (dV,d)):=cX.setRow _ _ _ _ ⟨_,v⟩;have Q:Z (b.take off++(dh len d++b.drop (off+len)))=Z b:=by simp;omega
 have M:RL Y (dh len d).flatten (Builtin.zeroCells e.cells len).toList:=by rw[V];grind[RL.replicate]
 have ce:Z (dh len d).flatten=len*a:=by rw[<-M.length,U]
 have a5:(b.take off++(dh len d++b.drop (off+len))).flatten=e3 b.flatten (off*a) (dh len d).flatten:=by
  rw[xC,xC,ab2 af,Pr af,AM.e3,ce,sM,ht]
 have z:(Builtin.clear_ #[u] B.type #[.slice (aa ⟨i,off*a,ae⟩) len cap]).run P Y.w=.ok (.tuple #[]) (Y.w.setRow i new.toArray):=by
  have:∃E,len=E+1:=⟨len -1,by omega⟩;obtain⟨E,rfl⟩:=this;simp[Builtin.clear_,run_underlying ac,zeroValue,typeInfo,S,cl,A]
 let⟨k,az⟩:=ar.sX c.bM (id:=id) (j:=.arr t a (b.take off++(dh len d++b.drop (off+len)))) (e:=Y.h id) ai o (by grind[hP])
  (λdV am f=>⟨by rw[v]at f;injection f with f;injection f with ax _;subst ax;simp;grind,.inl ⟨am,f⟩⟩)
  (λk=>by
   refine⟨λf c2=>?_,.inr ⟨i,new.toArray,H,?_,setRow_heap _ _ _ _ _ _ N,?_,?_,?_⟩⟩;grind;grind[ar.bW];grind;rw[a5,Q];have K:=RL.e3 aF M (off*a);rw[Fu _ _ _ _ (by omega),y]at K;simpa using RL.mono k c.bM K;intro r j;rw[Q,<-y]at j;rw[<-Fu _ _ _ _ (by omega)]at j;grind)
 refine⟨_,.tuple #[],_,xU W O ?_,.inl rfl,.inl (.aB _ _ .nil),?_,k⟩;rw[I,J,ah];simp[builtin,z,ar.bW];have m:=St.mono c k az (λ_ _ h=>h) (λak dV T=>ai.block dV (c.bM.blt ak dV T).1 λ⟨am,f⟩=>(c.bM.blt ak dV T).2.2 _ _ f);simpa[ar.bW,c.hp]using m
theorem ab4(a:St Y L s.tmps)(d:dz G Y)(i:B.op=.call dV)(g:dV.callee=.builtin .cap)(f:dV.argTypes.toList=[u])(e:dV.args.toList=[m])(j:P.underlying u=aa (.slice cu))
 (h:l G L m=.aq):cx P B s Y (.int .i64 0) L:=by
 have b:dV.argTypes=#[u]:=by rw[<-oH];simpa using f
 have c:dV.args.map s.eval=#[s.eval m]:=by rw[<-oH];simp[e]
 have k:s.eval m=.slice ae 0 0:=R.Pq (h▸dM a d m);refine cx.still a (bA:=.int .i64 0) (xU i g ?_) (.inl (.int _ _));rw[b,c,k];simp[builtin,Builtin.cap_,run_underlying j,goInt]
theorem ab5(b:List UInt8):(b.map λa=>[AV.int .u8 a.toNat]).flatten=b.map λa=>AV.int .u8 a.toNat:=by
 induction b with
 |nil=>rfl
 |cons a b c=>simp[c]
theorem Ps:∀(a:List UInt8),RL Y (a.map λb=>AV.int .u8 b.toNat) (a.map λb=>Value.int .u8 b.toNat)
 |[]=>.nil
 |b::a=>.cons _ _ _ _ (.int .u8 _) (Ps a)
theorem ab6{q:AV}(i:St Y L s.tmps)(v:dz G Y)(x:B.op=.convert u cu m)(h:xJ P u cu (l G L m)=aa q):cx P B s Y q L:=by
 unfold xJ at h;have c:=dM i v m;split at h;rename_i M p N A g f e;simp at h;subst h;rw[e]at c;refine cx.still i (bA:=.int p (p.wrap A)) ?_ (.inl (.int _ _));simp[execOp,x,R.pO c,convert,run_underlying g,run_underlying f,Conv.intToInt];rename_i bs g f e;simp at h;subst h;rw[e]at c;obtain⟨a,j,rfl⟩:=R.xS c;simp_all[cx.still,execOp,convert,run_underlying]
 ·rename_i b bs g f e
  rw[e]at c;obtain⟨a,F,rfl⟩:=R.xS c;split at h
  case h_2=>simp at h
  case h_1 j=>
  split at h
  case isFalse=>simp at h
  case isTrue J=>
  simp at h;subst h;have I:=Go.Lib.run_convert_string_bytes (P:=P) Y.w u cu b a g f j;have H:=grownCap_ge Y.w a.size 0 b;have k:Z (a.data.toList.map λd=>[AV.int .u8 d.toNat])=a.size:=by simp
  have y:(Go.Lib.bytesCells Y.w b a).toList.take a.size=a.data.toList.map λd=>Value.int .u8 d.toNat:=by
   unfold Go.Lib.bytesCells;rw[I3,E6 (by simp)];rw[gT (by simp)];simp
  have z:cX Y.w (Go.Lib.bytesWorld Y.w b a) (λ_=>False):=
   ⟨by grind[Go.Lib.bytesWorld,World.freeze,World.alloc,World.drew],by grind[Go.Lib.bytesWorld,World.freeze,World.alloc,World.drew],
    by grind[Go.Lib.bytesWorld,World.freeze,World.alloc,World.drew],by rw[Go.Lib.bytesWorld_size];omega,by grind[Go.Lib.bytesWorld_at_old]⟩
  let⟨r,K,n,C,t⟩:=JG i 1 (a.data.toList.map λd=>[AV.int .u8 d.toNat]) (Go.Lib.bytesCells Y.w b a) b _ (grownCap Y.w a.size 0 b) (by omega) (by grind)
   (by grind[Go.Lib.bytesCells]) (by simp_all[I4,ab5,Ps]) (λD o=>by
    rw[k,I4,y]at o;obtain⟨E,_,rfl⟩:=cy.1 o;rfl) _ z (Go.Lib.bytesWorld_at_new Y.w b a)
  rw[k]at n;refine⟨_,_,r,?_,.inl rfl,by simpa using n,C,t⟩;simp_all[execOp]
 simp at h
theorem RT.pl{a:AV}(h:RT Y a bA):RT Y a.pl bA:=.inl (R.pl h)
theorem cx.pl{a:AV}(h:cx P B s Y a L):cx P B s Y a.pl L:=by
 let⟨i,j,b,c,d,e,f,g⟩:=h;exact⟨i,j,b,c,d,e.pl,f,g⟩
theorem lK{r:Option AV}{a:AV}(h:fT L r=aa (a,n)):r=aa a/\n=L:=by
 unfold fT at h;rcases r with _|x;simp at h;grind
theorem Pt{t:AV}(g:St Y L s.tmps)(e:dz G Y)(h:aW P G A L B.dst B.op=aa (t,n)):cx P B s Y t n:=by
 generalize f:B.op=op at h;have S:=h;unfold aW at h;cases op with
 |move a=>grind[O5]
 |assign a=>
  have key:(l G L a).pl=t->L=n->cx P B s Y t n:=by
   rintro rfl rfl;exact O5 g e (.inr f)
  simp only at h;split at h;rename_i y T;split at h;grind[abK];simp at h;obtain⟨rfl,rfl⟩:=h;have:=key;simp[l,rM,ofValue,AV.pl]at this;exact this;grind
 |pick k a w=>grind[abU]
 |alloc v=>grind[abB]
 |box v a=>grind[Jv]
 |build b O=>obtain⟨h,rfl⟩:=lK h;grind[abC]
 |buildSlice b N O=>grind[abF]
 |load b a=>
  obtain⟨h,rfl⟩:=lK h;simp only[dq]at h;obtain⟨u,d,rfl⟩:=h;exact(abj g e f d).pl
 |store b a w=>
  simp only[dq,eG]at h;grind[abl]
 |nilCheck a=>grind[abo]
 |binOp x b a w J=>obtain⟨h,rfl⟩:=lK h;grind[abr]
 |unOp ac b a=>obtain⟨h,rfl⟩:=lK h;grind[abt]
 |convert a w ah=>obtain⟨h,rfl⟩:=lK h;grind[ab6]
 |makeInterface b a=>
  grind[abu]
 |makeFunc z first cap=>
  grind[abv]
 |makeMap b r=>
  simp only at h;split at h;simp only[e7,eG]at h;obtain⟨rfl,rfl⟩:=h;exact abJ g e (by assumption) f;simp at h
 |makeSlice b c k=>grind[abG]
 |range b a=>
  grind[abH]
 |next a x=>
  grind[abI]
 |slice b a X U Z=>
  simp only at h;split at h;rename_i N v Q R D W;split at h;rename_i m;simp at h m;grind[abV];simp at h;split at h;grind[abT];cases h
 |fieldAddr b a z=>obtain⟨h,rfl⟩:=lK h;grind[abm]
 |field b a z=>
  obtain⟨h,rfl⟩:=lK h;simp only[dq]at h;obtain⟨u,d,rfl⟩:=h;exact(abx g e f d).pl
 |indexAddr b a E=>obtain⟨h,rfl⟩:=lK h;grind[abn]
 |index b a E=>
  obtain⟨h,rfl⟩:=lK h;simp only[dq]at h;obtain⟨u,d,rfl⟩:=h;exact(aby g e f d).pl
 |lookup b q p ok=>
  obtain⟨h,rfl⟩:=lK h;simp only[dq]at h;obtain⟨u,d,rfl⟩:=h;exact(abP g e f d).pl
 |mapUpdate b q p a=>
  simp only[dq,eG]at h;grind[sX]
 |insert b q p a=>
  simp only[dq,eG]at h;obtain⟨I,d,rfl,rfl⟩:=h;exact sX g e (.inr f) d
 |mapEntry b q p=>grind[abR]
 |entryStore b q p a=>
  simp only[dq,eG]at h;grind[abS]
 |extract a E=>
  grind[abz]
 |typeAssert a af b ok=>
  grind[abA]
 |call k=>
  simp only at h;split at h;rename_i x m;unfold kq at h;split at h;rename_i b a j i;simp only[dq,eG]at h;obtain⟨u,h,rfl,rfl⟩:=h;obtain⟨K,o,rfl⟩:=aaP.1 i;grind[abX];rename_i b J y a j i;split at h;rename_i V;rcases C:k.args.toList with _|⟨F,c⟩;grind;rcases c with _|⟨H,c⟩;grind;rcases c with _|⟨_,_⟩;grind[abY];grind;cases C:k.args.toList with
  |nil=>grind
  |cons F c=>
   rcases c with _|⟨H,c⟩;grind;rcases c with _|⟨_,_⟩;grind[ab1];grind
  rename_i b j i;split at h;rename_i v D;simp only[e7,eG]at h;obtain⟨rfl,rfl⟩:=h;let⟨K,o,M⟩:=aaP.1 i;exact ab4 g e f m j o D M;simp at h;rename_i b a j i;simp only[dq,eG]at h;obtain⟨I,h,rfl,rfl⟩:=h;obtain⟨K,o,rfl⟩:=aaP.1 i;exact ab3 g e f m j o h;rename_i b J y a j i;simp only[dq,eG]at h;obtain⟨I,h,rfl,rfl⟩:=h;rcases C:k.args.toList with _|⟨F,c⟩;grind;rcases c with _|⟨H,c⟩;grind
  rcases c with _|⟨_,_⟩;grind[abQ];grind;simp only[dq,eG]at h;grind[abZ];simp only[dq,eG]at h;grind[ab0];simp at h;simp at h
 |_=>simp at h
end
variable{z:Nat}
variable{dp:Nat}{kk:TypeId}
variable{ey:List (Int × Int)}{F:Bool}{x:List K}{dW:K}{b0:Type}{dV:Call}
variable{ca:Int}
def ar.dZ(a:ar)(d:Md):ar:=
 {w:=a.w,S:=λc b=>if d=.cd/\c=ad then b<a.w.heap.size else a.S c b,h:=λ_=>ae,bx:=λ_=>ae,H:=[]}
theorem b7.length:∀{a bs:List AV},b7 M dd a bs->Z bs=Z a
 |_,_,.nil _=>rfl
 |_,_,.cons _ _ _ _ _ _ b=>by simp[b7.length b]
theorem fJ.length:∀{a bs:List (List AV)},fJ M dd a bs->Z bs=Z a
 |_,_,.nil _=>rfl
 |_,_,.cons _ _ _ _ _ _ b=>by simp[fJ.length b]
theorem fJ.width:∀{c bs:List (List AV)},fJ M dd c bs->(∀a∈c,Z a=U)->∀a∈bs,Z a=U
 |_,_,.nil _,_=>by simp
 |_,_,.cons _ i f vs g h d,e=>by
  intro a b;rcases b6.1 b with rfl|b;rw[h.length];grind;exact fJ.width d (by grind) a b
theorem ar.zo(g:Good Y)(h:Y.S T U)(a:F=T\/(dd=.cd/\F=ad)):(Y.dZ dd).S F U:=by
 simp only[ar.dZ];split;exact g.iK U (g.iJ T U h);grind
theorem FF(g:Good Y){id:Nat}(d:Y.H[id]?=aa (.arr U N b1))(f:Y.h id=aa (z,dp)):
 ∃a c,Y.w.heap[z]?=aa (.cells a c (0,0))/\Z b1*N<=a.size/\(∀b∈b1,Z b=N)/\RL Y b1.flatten (a.toList.take (Z b1*N))/\∀e∈a.toList.take (Z b1*N),e.oneCell'=true:=by
 let⟨j,i⟩:=g.gL id _ d;grind
theorem Pu{off len:Nat}(b:∀a∈b1,Z a=U):∀a∈(b1.drop off).take len,Z a=U:=by grind
theorem RL.split{a:List AV}(h:RL Y (bF++a) hN):RL Y bF (hN.take (Z bF))/\RL Y a (hN.drop (Z bF)):=by
 grind[RL.take,RL.drop,List.take_left,List.drop_left]
theorem ar.Pv(g:Good Y)(h:Y.S T U):(Y.dZ .dm).S ad U:=by
 simp only[ar.dZ];exact g.iJ T U h
theorem ar.Pw{E:ar}(g:Good E){m:Md}:Rm (E.dZ .dm) (E.dZ m)where
 S:=λa b h=>ar.zo g (T:=a) (by grind[ar.dZ]) (.inl rfl)
 heap:=λ_ _ _=>rfl
 la:=c7 _
 kJ:=λid c h=>absurd h (OF _)
mutual
theorem aM.fz{o:ar}(g:Good o):∀{p:Md}{w r:AV}{x:Value},aM o.H p w r->p≠.res->R o w x->R (o.dZ p) r x
 |_,_,_,_,.int _ D a0,a,h=>by cases h;exact .int D a0
 |_,_,_,_,.bool _ d,a,h=>by cases h;exact .bool d
 |_,_,_,_,.str _ bb,a,h=>by cases h;exact .str _
 |_,_,_,_,.gH _,a,h=>by cases h;exact .gH
 |_,_,_,_,.fP _,a,h=>by cases h;exact .fP
 |_,_,_,_,.jZ _,a,h=>by cases h;exact .jZ
 |_,_,_,_,.undef _ _,a,_=>.undef _
 |_,_,_,_,.aq _ d,a,h=>by cases h;exact .jO d _ _
 |_,_,_,_,.dL _ d,a,h=>by cases h;exact .jO d _ _
 |_,_,_,_,.agg _ l B b,a,h=>by
  cases h with
  |agg _ vs k j=>exact .agg _ _ (b7.fz g b a k) j
 |_,_,_,_,.aB _ l B b,a,h=>by
  cases h with
  |aB _ vs k=>exact .aB _ _ (b7.fz g b a k)
 |_,_,_,_,.xN p _ d i z b,a,h=>by
  have c:=b.length
  cases h with
  |jO _ Q cap=>have:z=[]:=by simpa using c
               subst this;exact .jO _ _ _
  |sl _ _ s v D cap l m t n e u V E k j=>
   rw[<-c]
   exact .sl _ _ s v D cap l m t (ar.zo g n (.inl rfl)) e (b.width u) (by omega) (by grind) (by rw[c];exact RL.gV (ar.Pw g) (fJ.fz g b (by simp) k)) (by grind)
 |_,_,_,_,.CR d i z b,_,h=>by
  have c:=b.length
  cases h with
  |jO _ Q cap=>have:z=[]:=by simpa using c
               subst this;exact .jO _ _ _
  |sl _ _ s v D cap l m t n e u V E k j=>
   rw[<-c]
   exact .sl _ _ s v D cap l m t (ar.Pv g n) e (b.width u) (by omega) (by grind) (by rw[c];exact fJ.fz g b (by simp) k) (by grind)
 |_,_,_,_,.CS _ _ _ _,a,_=>absurd rfl a
 |_,_,_,_,.AZ d i z b,a,h=>by
  have c:=b.length
  cases h with
  |jO _ Q cap=>have:z=[]:=by simpa using c
               subst this;exact .jO _ _ _
  |sl _ _ s v D cap l m t n e u V E k j=>
   rw[<-c]
   exact .sl _ _ s v D cap l m t (ar.zo g n (.inr ⟨rfl,rfl⟩)) e (b.width u) (by omega) (by grind) (by rw[c];exact fJ.fz g b a k) (by grind)
 |_,_,_,_,.wc id am off len f i z A c b,a,h=>by
  have I:=b.length
  have aA:Z ((i.drop off).take len)=len:=by simp;omega
  rw[aA]at I
  cases h with
  |q _ _ _ _ _ ac U au G=>
   obtain⟨Q,cap,rfl,a6,a9,W⟩:=G f i A
   by_cases aF:len=0
   subst aF
   have:z=[]:=by simpa using I
   subst this;exact .jO _ _ _
   rcases W with W|⟨d,ai,J,rfl,E⟩
   omega
   let⟨l,m,e,az,M,k,j⟩:=FF g A J
   have K:off*f+len*f<=Z i*f:=by rw[<-sM];exact mB _ c
   have F:=RL.take (len*f) (RL.drop (off*f) k)
   rw[lf _ _ _ _ K,<-u1 off len M]at F
   rw[<-I]
   refine .sl ad z d (off*f) f cap l m (0,0) ?_ e (b.width (Pu M)) (by omega) (by grind) (by rw[I];exact fJ.fz g b a F) ?_
   grind[ar.dZ]
   intro r L
   rw[I,<-lf _ (Z i*f) _ _ K]at L
   grind
 |_,_,_,_,.pK _ _ _ _ _ _ _ _ _ _,a,_=>absurd rfl a
 |_,_,_,_,.uV p _ d l B off b,a,h=>by
  have c:=b.length
  cases h with
  |aH _ _ _ s v vs m t n e E k j=>
   exact .aH _ _ _ s v vs m t (ar.zo g n (.inl rfl)) e (by omega) (by rw[c];exact RL.gV (ar.Pw g) (b7.fz g b (by simp) k)) (by grind)
 |_,_,_,_,.Jl d l B off b,_,h=>by
  have c:=b.length
  cases h with
  |aH _ _ _ s v vs m t n e E k j=>
   exact .aH _ _ _ s v vs m t (ar.Pv g n) e (by omega) (by rw[c];exact b7.fz g b (by simp) k) (by grind)
 |_,_,_,_,.CT _ _ _ _ _,a,_=>absurd rfl a
 |_,_,_,_,.A0 d l B off b,a,h=>by
  have c:=b.length
  cases h with
  |aH _ _ _ s v vs m t n e E k j=>
   exact .aH _ _ _ s v vs m t (ar.zo g n (.inr ⟨rfl,rfl⟩)) e (by omega) (by rw[c];exact b7.fz g b a k) (by grind)
 |_,_,_,_,.o2 id am N off f i l B A S b,a,h=>by
  have c:=b.length
  cases h with
  |ptr _ _ _ _ _ ac U au G=>
   obtain⟨d,ai,J,rfl⟩:=G f i A
   let⟨vs,m,e,az,M,k,j⟩:=FF g A J
   have X:Z l=f:=M l (qp S)
   have ax:N<Z i:=(fH.1 S).1
   have K:N*f+f<=Z i*f:=by
    have:=mB f (show N+1<=Z i from ax)
    rw[re]at this;exact this
   have F:=RL.take f (RL.drop (N*f) k)
   rw[A3 M S,lf _ _ _ _ K]at F
   refine .aH ad B off d (N*f) vs m (0,0) ?_ e (by omega) (by rw[c,X];exact b7.fz g b a F) ?_
   grind[ar.dZ]
   intro r L
   rw[c,X,<-lf _ (Z i*f) _ _ K]at L
   grind
 |_,_,_,_,.Fo _ _ _ _ _ _ _ _ _ _ _,a,_=>absurd rfl a
 |_,_,_,_,.zk af vs ah O j y,a,h=>by
  cases h with
  |il _ _ d clock i n e u C=>exact .il _ _ d clock i (ar.zo g n (.inl rfl)) e (b7.fz g j a u) (b7.fz g y a C)
 |_,_,_,_,.xO af vs ah O j y,a,h=>by
  cases h with
  |il _ _ d clock i n e u C=>exact .il _ _ d clock i (ar.zo g n (.inl rfl)) e (b7.fz g j a u) (b7.fz g y a C)
 |_,_,_,_,.xP id a5 af vs ah O A j y,a,h=>by
  cases h with
  |b8 _ _ ac U G=>
   obtain⟨d,ai,J,rfl⟩:=G _ A rfl
   let⟨a3,i,clock,Y,e,u,C,_⟩:=g.gL id _ A
   rw[J]at Y
   injection Y with aj
   injection aj with ak _
   subst ak
   refine .il _ _ d clock i ?_ e (b7.fz g j a u) (b7.fz g y a C)
   grind[ar.dZ]
 |_,_,_,_,.fn _ a4 a2 bs l B j y,a,h=>by
  cases h with
  |fn _ _ _ O vs L C=>exact .fn _ _ _ _ _ (b7.fz g j a L) (b7.fz g y a C)
 |_,_,_,_,.iface _ P w r b,a,h=>by
  cases h with
  |iface _ _ x T=>exact .iface _ _ _ (aM.fz g b a T)
theorem b7.fz {o:ar} (g:Good o):∀{p:Md}{w r:List AV}{x:List Value},b7 o.H p w r->p≠.res->RL o w x->RL (o.dZ p) r x
 |_,_,_,_,.nil _,a,h=>by cases h;exact .nil
 |_,_,_,_,.cons _ w r vs O b P,a,h=>by
  cases h with
  |cons _ x _ be T aR=>exact .cons _ _ _ _ (aM.fz g b a T) (b7.fz g P a aR)
theorem fJ.fz {o:ar} (g:Good o):∀{p:Md}{w r:List (List AV)}{x:List Value},fJ o.H p w r->p≠.res->RL o w.flatten x->RL (o.dZ p) r.flatten x
 |_,_,_,_,.nil _,a,h=>by cases h;exact .nil
 |_,_,_,x,.cons _ w r vs O b P,a,h=>by
  rw[xB]at h⊢
  let⟨j,y⟩:=RL.split h
  have:=RL.append (b7.fz g b a j) (fJ.fz g P a y)
  rwa[vV]at this
end
def JM(b:Prop)(a:Bool):Prop:=a=ab\/b
structure FG(q:Prop)(E E':ar):Prop where
 w:E'.w=E.w
 S:∀br b,JM q br->E.S br b->E'.S br b
 h:∀id b z,E.h id=aa (b,z)->E'.S ab b
mutual
theorem aM.o5{k:Prop}{j u:ar}(g:Good j)(b:FG k j u):∀{v:Md}{r f:AV}{l:Value},aM j.H v r f->v=.res->(k\/NB f)->R j r l->R u f l
 |_,_,_,_,.int _ b e,_,_,h=>by cases h;exact .int b e
 |_,_,_,_,.bool _ i,_,_,h=>by cases h;exact .bool i
 |_,_,_,_,.str _ bb,_,_,h=>by cases h;exact .str _
 |_,_,_,_,.gH _,_,_,h=>by cases h;exact .gH
 |_,_,_,_,.fP _,_,_,h=>by cases h;exact .fP
 |_,_,_,_,.jZ _,_,_,h=>by cases h;exact .jZ
 |_,_,_,_,.undef _ _,_,_,_=>.undef _
 |_,_,_,_,.aq _ i,_,_,h=>by cases h;exact .jO i _ _
 |_,_,_,_,.dL _ i,_,_,h=>by cases h;exact .jO i _ _
 |_,_,_,_,.agg _ s A c,a,hq,h=>by
  cases h with
  |agg _ vs n t=>exact .agg _ _ (b7.o5 g b c a (hq.imp id λe=>by cases e;assumption) n) t
 |_,_,_,_,.aB _ s A c,a,hq,h=>by
  cases h with
  |aB _ vs n=>exact .aB _ _ (b7.o5 g b c a (hq.imp id λe=>by cases e;assumption) n)
 |_,_,_,_,.xN _ E _ _ _ _,a,_,_=>absurd a E
 |_,_,_,_,.CR _ _ _ _,a,_,_=>by cases a
 |_,_,_,_,.AZ _ _ _ _,a,_,_=>by cases a
 |_,_,_,_,.CS i m y c,a,hq,h=>by
  have p:=c.length
  cases h with
  |jO _ ah cap=>have:y=[]:=by simpa using p
                subst this;exact .jO _ _ _
  |sl _ _ M V a2 cap s x N P z az a5 ac n t=>
   by_cases ak:y=[]
   subst ak
   have:Z m=0:=by simpa using p.symm
   rw[this];exact .jO _ _ _
   have o:JM k i/\(k\/we y):=by
    rcases hq with hq|hq
    exact⟨.inr hq,.inl hq⟩
    cases hq with
    |Jm _=>grind
    |sl _ h=>exact⟨.inl rfl,.inr h⟩
   rw[<-p]
   exact .sl _ _ M V a2 cap s x N (b.S _ _ o.1 P) (by rw[b.w];exact z) (c.width az) (by omega) (by grind) (by rw[p];exact fJ.o5 g b c a o.2 n) (by grind)
 |_,_,_,_,.wc _ _ _ _ _ _ _ _ _ _,a,_,_=>by cases a
 |_,_,_,_,.pK id ai off len d m y F p c,a,hq,h=>by
  have o:=c.length
  have aF:Z ((m.drop off).take len)=len:=by simp;omega
  rw[aF]at o
  cases h with
  |q _ _ _ _ _ au aj am Q=>
   obtain⟨ah,cap,rfl,a6,a9,X⟩:=Q d m F
   by_cases E:len=0
   subst E
   have:y=[]:=by simpa using o
   subst this;exact .jO _ _ _
   rcases X with X|⟨i,W,C,rfl,ac⟩
   omega
   let⟨s,x,z,aA,I,n,t⟩:=FF g F C
   have D:off*d+len*d<=Z m*d:=by rw[<-sM];exact mB _ p
   have B:=RL.take (len*d) (RL.drop (off*d) n)
   rw[lf _ _ _ _ D,<-u1 off len I]at B
   have K:k\/we y:=by
    rcases hq with hq|hq
    grind
    cases hq with
    |Jm _=>grind
    |sl _ h=>exact .inr h
   rw[<-o]
   refine .sl ab y i (off*d) d cap s x (0,0) (b.h id i W C) (by rw[b.w];exact z) (c.width (Pu I)) (by omega) (by grind) (by rw[o];exact fJ.o5 g b c a K B) ?_
   intro f G
   rw[o,<-lf _ (Z m*d) _ _ D]at G
   grind
 |_,_,_,_,.uV _ E _ _ _ _ _,a,_,_=>absurd a E
 |_,_,_,_,.Jl _ _ _ _ _,a,_,_=>by cases a
 |_,_,_,_,.A0 _ _ _ _ _,a,_,_=>by cases a
 |_,_,_,_,.CT i s A off c,a,hq,h=>by
  have p:=c.length
  cases h with
  |aH _ _ _ M V vs x N P z ac n t=>
   have o:JM k i/\(k\/sV A):=by
    rcases hq with hq|hq
    exact⟨.inr hq,.inl hq⟩
    cases hq with
    |aH _ _ h=>exact⟨.inl rfl,.inr h⟩
   exact .aH _ _ _ M V vs x N (b.S _ _ o.1 P) (by rw[b.w];exact z) (by omega) (by rw[p];exact b7.o5 g b c a o.2 n) (by grind)
 |_,_,_,_,.o2 _ _ _ _ _ _ _ _ _ _ _,a,_,_=>by cases a
 |_,_,_,_,.Fo id ai J off d m s A F T c,a,hq,h=>by
  have p:=c.length
  cases h with
  |ptr _ _ _ _ _ au aj am Q=>
   obtain⟨i,W,C,rfl⟩:=Q d m F
   let⟨vs,x,z,aA,I,n,t⟩:=FF g F C
   have Y:Z s=d:=I s (qp T)
   have ax:J<Z m:=(fH.1 T).1
   have D:J*d+d<=Z m*d:=by
    have:=mB d (show J+1<=Z m from ax)
    rw[re]at this;exact this
   have B:=RL.take d (RL.drop (J*d) n)
   rw[A3 I T,lf _ _ _ _ D]at B
   refine .aH ab A off i (J*d) vs x (0,0) (b.h id i W C) (by rw[b.w];exact z) (by omega) (by rw[p,Y];exact b7.o5 g b c a (hq.imp (λl=>l) λe=>by cases e;assumption) B) ?_
   intro f G
   rw[p,Y,<-lf _ (Z m*d) _ _ D]at G
   grind
 |_,_,_,_,.zk _ _ _ _ _ _,a,_,_=>by cases a
 |_,_,_,_,.xO _ _ _ _ _ _,a,_,_=>by cases a
 |_,_,_,_,.xP _ _ _ _ _ _ _ _ _,a,_,_=>by cases a
 |_,_,_,_,.fn _ a4 a3 bs s A t O,a,hq,h=>by
  cases h with
  |fn _ _ _ af vs G aR=>
   have K:k:=hq.elim id λe=>by cases e
   exact .fn _ _ _ _ _ (b7.o5 g b t a (.inl K) G) (b7.o5 g b O a (.inl K) aR)
 |_,_,_,_,.iface _ L r f c,a,hq,h=>by
  cases h with
  |iface _ _ l U=>exact .iface _ _ _ (aM.o5 g b c a (.inl (hq.elim id λe=>by cases e)) U)
theorem b7.o5 {k:Prop} {j u:ar} (g:Good j) (b:FG k j u):∀{v:Md}{r f:List AV}{l:List Value},b7 j.H v r f->v=.res->(k\/sV f)->RL j r l->RL u f l
 |_,_,_,_,.nil _,_,_,h=>by cases h;exact .nil
 |_,_,_,_,.cons _ r f vs af c L,a,hq,h=>by
  cases h with
  |cons _ l _ be U a0=>exact .cons _ _ _ _ (aM.o5 g b c a (hq.imp id λe=>by cases e;assumption) U) (b7.o5 g b L a (hq.imp id λe=>by cases e;assumption) a0)
theorem fJ.o5 {k:Prop} {j u:ar} (g:Good j) (b:FG k j u):∀{v:Md}{r f:List (List AV)}{l:List Value},fJ j.H v r f->v=.res->(k\/we f)->RL j r.flatten l->RL u f.flatten l
 |_,_,_,_,.nil _,_,_,h=>by cases h;exact .nil
 |_,_,_,l,.cons _ r f vs af c L,a,hq,h=>by
  rw[xB]at h⊢
  let⟨t,O⟩:=RL.split h
  have:=RL.append (b7.o5 g b c a (hq.imp id λe=>by cases e;assumption) t) (fJ.o5 g b L a (hq.imp id λe=>by cases e;assumption) O)
  rwa[vV]at this
end
section
variable{P:Program}{G:Nat->Option (List AV)}{A:bS}
inductive j1(E:ar):List AV->List Value->Prop
 |nil:j1 E [] []
 |cons (v:AV) (u:Value) (vs:List AV) (us:List Value) (h:RT E v u) (t:j1 E vs us):j1 E (v::vs) (u::us)
theorem j1.append:∀{b bs:List AV}{c vs:List Value},j1 Y b c->j1 Y bs vs->j1 Y (b++bs) (c++vs)
 |_,_,_,_,.nil,a=>a
 |_,_,_,_,.cons _ _ _ _ h d,a=>.cons _ _ _ _ h (j1.append d a)
theorem j1.of:∀{a:List AV}{b:List Value},RL Y a b->j1 Y a b
 |_,_,.nil=>.nil
 |_,_,.cons _ _ _ _ h c=>.cons _ _ _ _ (.inl h) (j1.of c)
theorem j1.eval(c:St Y L s.tmps)(b:dz G Y):∀(a:List Operand),j1 Y (a.map (l G L)) (a.map s.eval)
 |[]=>.nil
 |x::a=>.cons _ _ _ _ (dM c b x) (j1.eval c b a)
theorem j1.pl:∀{a:List AV}{b:List Value},j1 Y a b->RL Y (a.map AV.pl) b
 |_,_,.nil=>.nil
 |_,_,.cons _ _ _ _ h c=>.cons _ _ _ _ (R.pl h) (j1.pl c)
structure C1(P:Program)(f:Nat):Prop where
 ex:∃fn body,P.funcs[f]?=aa fn/\fn.body=aa body/\(fn.name== "runtime.NumGoroutine")=ab
theorem JN{w:World}(a:C1 P U)(args:Array Value):(callFunc U args).run P w=.ok (.enter U args) w:=by
 let⟨fn,b,d,c,e⟩:=a.ex;simp_all[callFunc]
theorem ab7{w:World}(b:TypeId)(a:Addr)(c d:String):(Builtin.ssaWrapNilChk_ #[b] b #[.pointer (aa a),strVal c,strVal d]).run P w=.ok (.pointer (aa a)) w:=rfl
theorem Px{args:List AV}(k:St Y L s.tmps)(m:dz G Y)(ac:B.op=.call dV)(a:jc P G L dV=aa (U,args))(Q:C1 P U):
 ∃l,(execOp s.eval B).run P Y.w=.ok (.enter U l.toArray) Y.w/\j1 Y args l:=by
 unfold jc at a;have n:=j1.eval k m dV.args.toList;split at a
 ·rename_i f C
  split at a
  case h_2=>simp at a
  case h_1 y first cap q=>
  simp only[e7,eG]at a;let⟨rfl,rfl⟩:=a;have b:=dM k m f;rw[q]at b;replace b:=b.resolve_right (by grind);generalize K:s.eval f=ak at b;cases b with
  |fn _ _ _ l vs g z=>
   refine⟨l.toList++dV.args.toList.map s.eval++vs.toList,?_,((j1.of (j1.pl (j1.of g))).append n).append (j1.of (j1.pl (j1.of z)))⟩;simp_all[execOp,resolve,Deferred.ofValue,invoke,JN]
 ·rename_i f name C
  split at a
  case h_2=>simp at a
  case h_1 d aj q=>
  split at a
  case h_2=>simp at a
  case h_1 ai F=>
  have b:=dM k m f;rw[q]at b;replace b:=b.resolve_right (by grind);generalize K:s.eval f=ak at b;cases b with
  |iface _ _ e I=>
   let⟨i,o⟩:∃i,P.info? d=aa i:=by
    rcases o:P.info? d with _|i;grind;grind
   simp only[o,CG]at F;have T:(execOp s.eval B).run P Y.w=(callMethod (.iface d e) name (dV.args.map s.eval)).run P Y.w:=by
    have N:(#[Value.iface d e]++dV.args.map s.eval)[0]?=aa (Value.iface d e):=by simp[Array.getElem?_append]
    have g:(#[Value.iface d e]++dV.args.map s.eval).extract 1 (#[Value.iface d e]++dV.args.map s.eval).size=dV.args.map s.eval:=by
     rw[<-oH];simp[gT]
    simp only[execOp,ac,resolve,C,K,Sem.run_bind,Sem.run_pure,Result.andThen_ok,invoke];rw[N,g]
   have V:∃M,P.types.size+Made.depth=M+1:=⟨P.types.size+99,by simp[Made.depth]⟩;let⟨M,X⟩:=V;split at a;rename_i y x H E J;simp only[e7,eG]at a;let⟨rfl,rfl⟩:=a;refine⟨e::dV.args.toList.map s.eval,?_,.cons _ _ _ _ (.inl (R.pl (.inl I))) n⟩;simp_all[callMethod,method,typeInfo,follow,receiverAt,run_underlying,Place.get,JN]
   ·rename_i y x H E J
    split at a
    case h_2=>simp at a
    case h_1 aF c=>
    simp only[e7,eG]at a;let⟨rfl,rfl⟩:=a;unfold oZ at c;rcases A:pJ L aj.pl with _|r;grind;let⟨v,off⟩:=r;simp only[A]at c;split at c
    case isFalse=>simp at c
    case isTrue j=>
    simp at c;subst c;obtain⟨am,t,vs,ax,az,rfl,S,aA,O,g⟩:=Ju k (.inl (R.pl (.inl I))) A;let⟨au,D⟩:=sK.1 j.2.2;let⟨h,p⟩:=info_of_underlying D;rw[jy p]at j;have c:Z ((v.drop off).take h.size)=h.size:=by simp;omega
    have ah:=Js (P:=P) S (t+off) p D (by omega) j.2.1;refine⟨(if ft P x then .agg ((vs.toList.drop (t+off)).take h.size).toArray else((vs.toList.drop (t+off)).take h.size).headD undef)::dV.args.toList.map s.eval,?_,.cons _ _ _ _ (.inl (R.pl (.inl ?_))) n⟩;have:∀u:Value,(u::dV.args.toList.map s.eval).toArray=#[u]++dV.args.map s.eval:=λu=>by rw[<-oH];simp
    have af:ai.path=#[]:=by rw[<-oH];simpa using H
    rw[T,this];simp only[callMethod,X,method,Sem.run_bind,typeInfo,run_program,o,F,Sem.run_pure,Result.andThen_ok,follow,E,receiverAt,run_underlying J,Place.get,af,Array.isEmpty_empty,if_true,ab7,asAddr,ah,JN Q];rw[jy p];refine Fv ?_ ?_ (λW=>by rw[c];exact j.2.1 W);have z:=RL.take h.size (RL.drop off O);grind[lf,List.drop_drop];intro f b;apply g;rw[<-vU,<-lf _ (Z v) _ _ (by omega)]at b;grind
   grind
 grind
end
variable{fZ:Option Tmp}{o:Array Oper}{lz:List Oper}{cz:Code}
section
variable{P:Program}{G:Nat->Option (List AV)}{An:Nat->bS}{X:fu}
def n5(d:ar)(e:AS)(c b:Act)(f:World):Prop:=
 ∃a,a.w=f/\St a e b.tmps/\Fr d a/\b.tmps.size=c.tmps.size/\b.defers=c.defers
theorem kr(a:Act)(b:Option Tmp)(c:Value):(a.put b c).tmps.size=a.tmps.size:=by
 cases b<;>simp[Act.put]
theorem nx(a:Act)(b:Option Tmp)(c:Value):(a.put b c).defers=a.defers:=by
 cases b<;>rfl
theorem St.C2(a:St Y L s.tmps){c:AV}(i:RT Y c bA)(f:∀d,fZ=aa d->d<s.tmps.size):St Y (gn fZ (c,L)) (s.put fZ bA).tmps:=by
 rcases fZ with _|d;exact a;have g:=f d rfl;exact{
  bM:=a.bM
  hp:=a.hp
  env:=λb w h=>by
   simp only[gn,fQ]at h;simp only[Act.put];by_cases e:b=d;simp_all;rw[if_neg e]at h;have:=a.env b w h;simp_all[CC]
  bx:=a.bx}
theorem C3(m:St Y L s.tmps)(h:gh o L B=aa T):Region.wanted B (yielded o s.tmps)=T:=by
 unfold gh at h;unfold Region.wanted;rcases i:B.guard with _|g;grind;let⟨l,p⟩:=g;simp only[i]at h⊢;rcases d:(o[l]?).bind (·.dst)with _|t;grind;simp only[d]at h;rcases c:look t L.env with _|v;grind;have a:=m.env t v c;simp only[c]at h;unfold yielded;simp only[d,CG];cases v with
 |bool f=>
  simp at h;have e:=R.zl a;have:s.tmps[t]?=aa (.bool f):=by
   have j:t<s.tmps.size:=by
    rcases aaQ t s.tmps.size with b|b;exact b;simp[Array.getElem?_eq_none b,undef]at e
   simpa[j]using e
  simp_all
 |aB vs=>
  rcases vs with _|⟨_,_⟩;simp at h;subst h;replace a:=a.resolve_right (by grind);rcases k:s.tmps[t]? with _|u;rfl;simp[k]at a;cases a with
  |aB _ vs n=>rfl
  simp at h
 |_=>simp at h
theorem Py(h:gJ o bu=[])(b:∀a∈bu,a<o.size):bu=[]:=by
 rcases bu with _|⟨a,bu⟩;rfl;grind[gJ]
theorem C4(h:gJ o bu=B::lz)(c:∀a∈bu,a<o.size):∃a b,bu=a::b/\o[a]?=aa B/\gJ o b=lz:=by
 rcases bu with _|⟨a,bu⟩;simp[gJ]at h;grind[gJ]
def C5(b:ar)(c:List Obj)(r:AV):Ending->World->Prop
 |.returned d,e=>∃a,a.w=e/\Fr b a/\Good a/\a.H=c/\R a r d
 |_,_=>False
def jz(P:Program)(G:Nat->Option (List AV))(b:Nat)(args:List AV)(d:List Obj)(r:AV)(e:List Obj):Prop:=
 C1 P b/\∀(a:ar)(c:List Value),Good a->(∀f,a.bx f=ae)->a.H=d->RL a args c->dz G a->Calls P b c.toArray a.w (C5 a e r)
theorem n5.trans{a b:Act}(d:Fr Y gE)(l:a.tmps.size=s.tmps.size)(k:a.defers=s.defers)(h:n5 gE L a b eI):n5 Y L s b eI:=by
 let⟨c,e,f,g,i,j⟩:=h;exact⟨c,e,f,d.trans g,i.trans l,j.trans k⟩
theorem Pz{E:ar}(g:Good E)(m:Md):Good (E.dZ m)where
 iJ:=λa b h=>by
  simp only[ar.dZ]at h⊢;split at h;grind;split;exact g.iK b (g.iJ a b h);exact g.iJ a b h
 iK:=λb h=>by
  simp only[ar.dZ]at h;split at h;exact h;exact g.iK b h
 dJ:=λid b z e=>by cases e
 j0:=λi j b z c e=>by cases e
 blt:=λk b e=>by cases e
 mN:=λi j b e=>by cases e
 gL:=by grind[id,ar.dZ]
theorem PA(a:Md):(Y.dZ a).base=Y.base:=by
 simp[ar.base,ar.dZ]
theorem PC{d:ar}{o:AS}{p:Act}(c:St d o p.tmps){f:Md}(m:f≠.res):∀{i bs:List AV}{g:List Value},qz o f i bs->j1 d i g->RL (d.dZ f) bs g
 |_,_,_,.nil,h=>by cases h;exact .nil
 |_,_,_,.cons J I vs g v B,h=>by
  cases h with
  |cons _ K _ L b A=>
   refine .cons _ _ _ _ ?_ (PC c m B A);cases v with
   |of _ _ _ a=>
    rw[c.hp]at a;rcases b with b|⟨n,off,j,rfl,_,_⟩;exact aM.fz c.bM a m b;cases a;exact .undef _
   |lp n off q r w a=>
    rw[c.hp]at a;rcases b with b|⟨G,H,j,e,y,rfl⟩;cases b
    injection e with s t;subst s;subst t;let⟨D,C,u,l,x,k,E⟩:=c.bx n q w;rw[y]at l;injection l with e;subst e;have z:=a.length;have F:=k.length;have:=R.aH (E:=d.dZ .cd) ad r off j 0 C u (0,0) (by grind[ar.dZ]) x (by grind)
     (by rw[z,lq,gT (by omega)];exact b7.fz c.bM a (by simp) k) (by grind)
    grind
theorem PE(e:St Y L s.tmps)(b:Fr (Y.dZ dd) gE)(f:Good gE){o r:AV}(y:R gE o bA)(z:aM gE.H .res o r)(x:dd=.cd->NB r):
 ∃d,d.w=gE.w/\St d L s.tmps/\Fr Y d/\R d r bA:=by
 have m:cX Y.w gE.w (λ_=>False):=⟨b.os,b.output,b.tape,b.size,λa t _=>b.heap a t (λ_ _ c=>by cases c) (λ_ c=>by cases c)⟩;let⟨k,q⟩:=ar.Jx e.bM m;refine⟨Y.dm gE.w,rfl,?_,k,?_⟩;have:=St.mono e k q (λ_ _ h=>h) (λn j u=>m.block j (e.bM.blt n j u).1 (λh=>h));simpa[ar.dm,<-e.hp]using this;have n:FG (dd≠.cd) gE (Y.dm gE.w):={
  w:=rfl
  S:=λi a hf l=>by
   have g:=f.iK a (f.iJ i a l);rcases b.pN i a l with h|h;simp only[ar.dZ]at h;split at h;rename_i v;rcases hf with hf|hf;grind;grind;exact .inl h;exact .inr ⟨h,g⟩
  h:=λid a p c=>by
   have g:=(f.dJ id a p c).1;rcases b.o4 id a p c with⟨A,B,h⟩|h;cases h
   exact .inr ⟨h,g⟩}
 grind[aM.o5]
def ar.zp(a:ar):ar:={a with bx:=λ_=>ae}
theorem ab8{E:ar}(g:Good E):Good E.zp where
 iJ:=g.iJ
 iK:=g.iK
 dJ:=g.dJ
 j0:=g.j0
 blt:=λk b e=>by cases e
 mN:=λi j b e=>by cases e
 gL:=λid o h=>by
  have:=g.gL id o h;have f:Rm E E.zp:=⟨λ_ _ h=>h,λ_ _ _=>rfl,c7 _,λid n _ h=>⟨n,h,hP.refl _ _⟩⟩;cases o with
  |arr p q l=>
   refine⟨this.1,this.2.imp (λh=>h) λ⟨b,cs,m,h1,h2,a,c,d⟩=>⟨b,cs,m,h1,h2,a,RL.gV f c,d⟩⟩
  |mp fl ks vs=>
   let⟨b,l,clock,h1,h2,a,c,d⟩:=this;exact⟨b,l,clock,h1,h2,RL.gV f a,RL.gV f c,d⟩
  |fm _=>exact this
  |iH _ _=>exact this
theorem ab9(a:ar):Rm a a.zp:=⟨λ_ _ h=>h,λ_ _ _=>rfl,c7 _,λid b _ h=>⟨b,h,hP.refl _ _⟩⟩
def ar.FH(a b:ar):ar:={b with bx:=a.bx}
theorem aca(j:St Y L s.tmps)(b:Fr Y.zp gE)(e:Good gE){r:AV}(C:R gE r bA):
 ∃k,k.w=gE.w/\St k {L with hp:=gE.H} s.tmps/\Fr Y k/\R k r bA:=by
 have E:∀d a,Y.bx d=aa a->gE.w.heap[a]?=Y.w.heap[a]?:=λd a t=>b.heap a (j.bM.blt d a t).1 (λid o c=>(j.bM.blt d a t).2.2 id o c) (λ_ c=>by cases c);have l:Rm gE (Y.FH gE):=⟨λ_ _ h=>h,λ_ _ _=>rfl,c7 _,λid G _ h=>⟨G,h,hP.refl _ _⟩⟩;have q:Fr Y (Y.FH gE):={
  os:=b.os,output:=b.output,tape:=b.tape,size:=b.size,pM:=b.pM,pN:=b.pN
  heap:=λa A B M=>b.heap a A B (λ_ c=>by cases c)
  la:=b.la,kJ:=b.kJ,o4:=b.o4,rO:=λd a c=>.inl ⟨d,c⟩}
 have z:Good (Y.FH gE):={
  iJ:=e.iJ,iK:=e.iK,dJ:=e.dJ,j0:=e.j0
  blt:=λd a c=>by
   let⟨f,g,i⟩:=j.bM.blt d a c;refine⟨jM f b.size,λD=>?_,λid o x=>?_⟩;rcases b.pN ad a D with h|h;exact g h;have:Y.zp.w.heap.size=Y.w.heap.size:=rfl;omega;rcases b.o4 id a o x with⟨F,I,h⟩|h;exact i F I h;have:Y.zp.w.heap.size=Y.w.heap.size:=rfl;omega
  mN:=j.bM.mN
  gL:=λid u h=>by
   have:=e.gL id u h;cases u with
   |arr K O p=>
    refine⟨this.1,this.2.imp (λh=>h) λ⟨a,v,y,f,g,i,m,n⟩=>⟨a,v,y,f,g,i,RL.gV l m,n⟩⟩
   |mp J N vs=>
    let⟨a,p,clock,f,g,i,m,n⟩:=this;exact⟨a,p,clock,f,g,RL.gV l i,RL.gV l m,n⟩
   |fm _=>exact this
   |iH _ _=>exact this}
 exact⟨Y.FH gE,rfl,St.mono j q z (λ_ _ h=>h) E,q,R.gV l C⟩
def fg.FI:fg->Exit
 |.norm=>.normal
 |.exit id=>.exit id
 |.ret=>.ret
def FJ(a:ar)(b:Act)(e:fg)(f:AS)(d:Exit)(c:Act)(g:World):Prop:=d=e.FI/\n5 a f b c g
def FK(P:Program)(c:Code)(Q:Exit->Act->World->Prop)(h:Act)(w:World):Prop:=
 ∀(b:Frame)(f:List Item)(d:List Frame),∃e a g,Q e a g/\Arrives P (lone (b.at h (.code c::.inLoop c::f)) d w) b f d e a g
theorem FK.wp{Q:Exit->Act->World->Prop}{a:Act}{w:World}(h:FK P cz Q a w):(Code.loop cz).wp P Q a w:=λc i d=>by
 let⟨e,b,j,g,f⟩:=h c i d;exact⟨e,b,j,g,.of_steps (.one step_loop) f⟩
def C6(P:Program)(c:Code)(Q:Exit->Act->World->Prop)(a:Act)(w:World):Prop:=
 match c with
 |.loop b=>FK P b Q a w
 |c=>c.wp P Q a w
theorem C6.wp{Q:Exit->Act->World->Prop}{a:Act}{w:World}(h:C6 P cz Q a w):cz.wp P Q a w:=by
 cases cz<;>first|exact h|exact FK.wp h
theorem C7{f:Type}(e:List Nat)(b:Nat):∀(a:List (Nat×f))(c:f),look b (k1 e a)=aa c->look b a=aa c
 |[],_,h=>by grind[k1]
 |(g,k)::a,c,h=>by
  simp only[k1]at h;simp only[look];split at h;simp only[look]at h;split at h;grind;rename_i d;rw[if_neg d];exact C7 e b a c h;rename_i i;by_cases d:g=b;subst d;exfalso;have:∀a:List (Nat×f),look g (k1 e a)=none:=by
   intro a;induction a with
   |nil=>rfl
   |cons l a j=>
    grind[k1,look]
  grind;rw[if_neg d];exact C7 e b a c h
theorem A8{f:Type}(b c:Nat):∀(a:List (Nat×f))(d:f),look c (lA b a)=aa d->look c a=aa d
 |[],_,h=>by grind[lA]
 |(g,k)::a,d,h=>by
  simp only[lA]at h;simp only[look];split at h;rename_i i;by_cases e:g=c;subst e;exfalso;have:∀a:List (Nat×f),look b (lA b a)=none:=by
   intro a;induction a with
   |nil=>rfl
   |cons l a j=>
    grind[lA,look]
  grind;rw[if_neg e];exact A8 b c a d h;simp only[look]at h;split at h;grind;rename_i e;rw[if_neg e];exact A8 b c a d h
theorem St.mL{E:ar}{s:AS}{t:Array Value}(st:St E s t)(ks a:List Nat):St E {env:=k1 ks s.env,bx:=k1 a s.bx,hp:=s.hp} t where
 bM:=st.bM
 hp:=st.hp
 env:=λk v h=>st.env k v (C7 _ _ _ _ h)
 bx:=λk cs h=>st.bx k cs (C7 _ _ _ _ h)
theorem St.drop(a:St Y L eJ)(b:bS)(c:Operand):St Y (qA b c L) eJ:=by
 unfold qA;split;split;exact{bM:=a.bM,hp:=a.hp,env:=λd e h=>a.env d e (A8 _ _ _ _ h),bx:=a.bx};exact a;exact a
theorem A9(h:uW U o=ad)(c:o[N]?=aa B):(∀a,B.dst=aa a->a<U)/\∀b∈B.after,Region.binds .any b=ad->b.on<N:=by
 unfold uW at h;rw[eQ]at h;have:=h (B,N) (by
  grind)
 grind[Array.all_eq_true_iff_forall_mem]
theorem FL:∀(n:Nat)(a:List Nat),a.Nodup->(∀b∈a,b<n)->Z a<=n
 |0,a,_,h=>by
  rcases a with _|⟨b,a⟩;simp;exact absurd (h b (by simp)) (OF b)
 |n+1,a,c,h=>by
  by_cases d:n∈a;have:=FL n (a.erase n) (c.erase n) (by grind);grind;have:=FL n a c (by grind);omega
theorem PG(m:uW U o=ad):∀(c b:Nat)(listed:Array Bool)(done:List Nat),listed.size=o.size->(∀i,i<o.size->(listed.getD i ad=ad<->i∈done))->done.Nodup->(∀i∈done,i<o.size)->o.size<=Z done+c->
 pL o done (Region.linearise.go .any o c b listed [])
 |0,b,listed,done,y,f,w,u,r=>by
  simp only[Region.linearise.go,arJ,pL];intro i j;by_cases e:i∈done;exact e;exfalso;have p:(i::done).Nodup:=by grind
  have:=FL o.size (i::done) p (by
   grind)
  grind
 |c+1,b,listed,done,y,f,w,u,r=>by
  simp only[Region.linearise.go];change pL o done (match(Region.ready .any o listed)[b%Z (Region.ready .any o listed)]? with
   |aa i=>Region.linearise.go .any o c (b/Z (Region.ready .any o listed)) (listed.setIfInBounds i ad) [i]
   |ae=>[].reverse)
  rcases j:(Region.ready .any o listed)[b%Z (Region.ready .any o listed)]? with _|i;have F:Region.ready .any o listed=[]:=by
   rcases G:Region.ready .any o listed with _|⟨H,I⟩;rfl;grind[Nat.mod_lt]
  simp only[arJ,pL];intro i;induction i using Nat.strongRecOn with
  |_ i A=>
   intro k;by_cases e:i∈done;exact e;exfalso;have d:o[i]?=aa o[i]:=by simp[k]
   have:i∈Region.ready .any o listed:=by
    rw[mem_ready];refine⟨?_,o[i],d,λa h g=>?_⟩;cases s:listed.getD i ad
    rfl;exact absurd ((f i k).1 s) e;have v:=(A9 m d).2 a h g;have q:=A a.on v (by omega);have:=(f a.on (by omega)).2 q;have z:a.on<listed.size:=by omega
    simpa[z]using this
   grind
  simp only[];rw[linearise_go_acc,List.reverse_singleton,OQ];have l:=qp j;rw[mem_ready]at l;let⟨C,B,d,D⟩:=l;have E:i<o.size:=(kZ.1 d).1;have x:i∉done:=by grind
  refine⟨x,⟨B,d,λa h g=>?_⟩,?_⟩;grind;refine PG m c _ _ (i::done) (by grind) (λn t=>?_) (by grind) (λn t=>?_) (by simp;omega);by_cases a:i=n;simp_all;simp_all;omega;grind
theorem PH(b:uW U o=ad)(a:Nat):pL o [] (Region.linearise .any o a):=
 PG b o.size a _ [] (by simp) (by simp_all) .nil (by simp) (by simp)
theorem C8:∀{b done:List Nat},pL o done b->∀a∈b,a<o.size
 |[],_,_,_,h=>by cases h
 |j::b,done,h,a,hi=>by
  let⟨_,⟨e,d,_⟩,c⟩:=h;rcases b6.1 hi with rfl|hi;grind;exact C8 c a hi
end
variable{rk:Int}{rL:K -> b0}{oR:b0}
section
variable{P:Program}{G:Nat->Option (List AV)}
theorem PI:∀(a c:List (Int×Int)),(a.map (·.1)).Nodup->∀b,gi b (a.foldl (λc d=>oX d.1 d.2 c) c)=match gi b a with|aa g=>aa g|ae=>gi b c
 |[],c,_,b=>by simp[gi]
 |(f,g)::a,c,h,b=>by
  simp only[ej,k0]at h;rw[np,PI a _ h.2 b,FD];by_cases e:f=b;subst e;have:gi f a=none:=by
   have i:=h.1;clear h;induction a with
   |nil=>rfl
   |cons d a j=>
    grind[gi]
  grind[gi];simp[gi,e]
theorem JO:∀{a:List (Int×Int)}{c d:Int},gi c a=aa d->∃b:Nat,a[b]?=aa (c,d)
 |(g,i)::a,c,d,h=>by
  simp only[gi]at h;split at h;rename_i e;subst e;injection h with h;subst h;exact⟨0,rfl⟩;let⟨b,f⟩:=JO h;exact⟨b+1,f⟩
theorem PJ:∀{a:List (Int×Int)}{b:Int},gi b a=ae->∀(i:Nat)(c:Int),a[i]?≠aa (b,c)
 |(f,g)::a,b,h,i,c,d=>by
  simp only[gi]at h;split at h;cases h
  rename_i e;rcases i with _|i;grind;exact PJ h i c d
theorem acb(h:(ey.map (·.1)).Nodup)(a:ey[U]?=aa (f,ca))(b:ey[N]?=aa (f,rk)):U=N:=by
 have c:(ey.map (·.1))[U]?=aa f:=by simp[a]
 have d:(ey.map (·.1))[N]?=aa f:=by simp[b]
 grind[List.getElem?_eq_some_iff,List.getElem?_inj]
theorem JP{f:ar}:∀{ks vs:List AV}{b:List (Int×Int)}{a:List MapEntry},nums ks vs=aa b->RL f ks (a.map (·.key))->RL f vs (a.map (·.val))->a.map (·.key)=b.map (λe=>Value.int .i64 e.1)/\a.map (·.val)=b.map (λe=>Value.int .i64 e.2)
 |ks,vs,b,a,h,c,i=>by
  unfold nums at h;split at h;injection h with h;subst h;rcases a with _|⟨d,a⟩;grind;cases c
  rename_i q ks r vs;simp only[dq]at h;obtain⟨p,m,rfl⟩:=h;cases a with
  |nil=>cases c
  |cons d a=>
   simp only[ej]at c i⊢;cases c with
   |cons _ _ _ _ g n=>
   cases i with
   |cons _ _ _ _ j o=>
   let⟨k,l⟩:=JP m n o;rw[k,l];generalize d.key=s at g;generalize d.val=t at j;cases g;cases j
   grind
  cases h
theorem qC(h:U<s.tmps.size):(s.put (aa U) bA).eval (.tmp U)=bA:=by
 simp[Act.put,Act.eval,h]
theorem qD(h:N≠U):(s.put (aa U) bA).eval (.tmp N)=s.eval (.tmp N):=by
 simp[Act.put,Act.eval,CC h]
theorem tZ(h:Fm m bu=ad)(a:U∈bu):(s.put (aa U) bA).eval m=s.eval m:=by
 cases m with
 |tmp b=>grind[qD,Fm]
 |_=>rfl
theorem St.qE{E:ar}{s:AS}{a:Act}(st:St E s a.tmps){d:Nat}{u:Value}(h:look d s.env=ae):St E s (a.put (aa d) u).tmps where
 bM:=st.bM
 hp:=st.hp
 env:=λk v b=>by
  have c:d≠k:=by grind
  have:=st.env k v b;simp_all[Act.put]
 bx:=st.bx
theorem JQ(a:Nat):∀b:List (Nat×K),look a (lA a b)=ae
 |[]=>rfl
 |(d,e)::b=>by
  simp only[lA];split;exact JQ a b;rename_i c;simp only[look];rw[if_neg c];exact JQ a b
theorem JR:∀(c:List Nat)(b:List (Nat×K)),(∀a e,look a (lJ c b)=aa e->look a b=aa e)/\∀a∈c,look a (lJ c b)=ae
 |[],b=>⟨λ_ _ h=>h,λ_ h=>by cases h⟩
 |d::c,b=>by
  let⟨g,i⟩:=JR c b;refine⟨λa e h=>g a e (A8 d a _ e h),λa f=>?_⟩;show look a (lA d (lJ c b))=ae;rcases b6.1 f with rfl|f;exact JQ a _;cases j:look a (lA d (lJ c b))with
  |none=>rfl
  |some e=>grind[A8]
theorem wl{Q:Exit->Act->World->Prop}{w:World}{a:Next}(c:B.guard=ae)(e:(execOp s.eval B).run P w=.ok a eI)(d:a=.value bA\/a=.skip/\bA=undef)(h:wpList P o Q lz (s.put B.dst bA) eI):wpList P o Q (B::lz) s w:=by
 refine wpList_plain c λf b=>?_;unfold Oper.wp;rw[e];rcases d with rfl|⟨rfl,rfl⟩;exact b _ _ h;exact b _ _ h
theorem C9(o:St Y L eJ){r:Nat}(j:cX Y.w eI (λa=>a=r))(B:¬Y.S ad r)(J:∀id i,Y.h id≠aa (r,i))(I:∀f,Y.bx f≠aa r):St (Y.wd eI) L eJ:=by
 have g:=o.bM;have l:Rm Y (Y.wd eI):=⟨λ_ _ h=>h,λt a h=>j.block a (g.iK a (g.iJ t a h)) λc=>B (c▸g.iJ t a h),c7 _,λid D _ h=>⟨D,h,hP.refl _ _⟩⟩;have m:∀id a i,Y.h id=aa (a,i)->eI.heap[a]?=Y.w.heap[a]?:=λid a i c=>j.block a (g.dJ id a i c).1 (by grind);refine⟨?_,o.hp,λf E h=>?_,λf p h=>?_⟩;exact{
  iJ:=g.iJ
  iK:=λa h=>jM (g.iK a h) j.size
  dJ:=λid a i c=>⟨jM (g.dJ id a i c).1 j.size,(g.dJ id a i c).2⟩
  j0:=g.j0
  blt:=λf a c=>⟨jM (g.blt f a c).1 j.size,(g.blt f a c).2⟩
  mN:=g.mN
  gL:=λid u h=>by
   have:=g.gL id u h;cases u with
   |arr H N n=>exact⟨this.1,this.2.imp (λh=>h) λ⟨a,p,q,b,d,e,k,s⟩=>⟨a,p,q,b,(m id a _ b).trans d,e,RL.gV l k,s⟩⟩
   |mp G K vs=>
    let⟨a,n,clock,b,d,e,k,s⟩:=this;exact⟨a,n,clock,b,(m id a _ b).trans d,RL.gV l e,RL.gV l k,s⟩
   |fm M=>
    let⟨a,n,clock,v,b,d,e⟩:=this;exact⟨a,n,clock,v,b,(m id a _ b).trans d,e⟩
   |iH L pos=>
    let⟨a,F,b,d,e⟩:=this;exact⟨a,F,b,(m id a _ b).trans d,e⟩}
 rcases o.env f E h with A|⟨C,off,a,x,y,z⟩;exact .inl (R.gV l A);exact .inr ⟨C,off,a,x,y,z⟩;let⟨a,vs,q,b,d,e,k⟩:=o.bx f p h;exact⟨a,vs,q,b,(j.block a (g.blt f a b).1 (by grind)).trans d,RL.gV l e,k⟩
theorem Fr.C9{E0 E:ar}(f:Fr E0 E){r:Nat}(a:cX E.w eI (λb=>b=r))(hr:E0.w.heap.size<=r):Fr E0 (E.wd eI)where
 os:=a.os.trans f.os
 output:=a.output.trans f.output
 tape:=⟨a.tape.1.trans f.tape.1,ix f.tape.2 a.tape.2⟩
 size:=ix f.size a.size
 pM:=f.pM
 pN:=f.pN
 heap:=λb hb h1 h2=>(a.block b (jM hb f.size) (by omega)).trans (f.heap b hb h1 h2)
 la:=f.la
 kJ:=f.kJ
 o4:=f.o4
 rO:=f.rO
theorem JS(c:St Y L eJ)(t:L.hp[U]?=aa gF)(s:gF.CL=ad)(q:Y.h U=aa (N,z))(x:cX Y.w eI (λa=>a=N)){d:Array MapEntry}{clock:Nat}{f:List (Int×Int)}(v:z=0)(k:eI.heap[N]?=aa (.map d clock))
 (e:d.toList.map (·.key)=ey.map (λj=>Value.int .i64 j.1))(u:d.toList.map (·.val)=ey.map (λj=>Value.int .i64 j.2))(r:∀o,gi o ey=gi o f):
 ∃b,b.w=eI/\b.h=Y.h/\b.S=Y.S/\b.bx=Y.bx/\St b {L with hp:=L.hp.set U (.fm f)} eJ/\Fr Y b:=by
 subst v;have l:=t;rw[c.hp]at l;have m:cX Y.w eI (λa=>∃z,Y.h U=aa (a,z)):=by grind
 let⟨i,p⟩:=ar.sX c.bM (id:=U) (j:=.fm f) (e:=Y.h U) m l (by cases gF<;>simp[Obj.CL]at s<;>simp[hP])
  (λa z g=>⟨by grind,.inl ⟨z,g⟩⟩)
  (λi=>⟨N,d,clock,ey,by simp[ar.bW,q],k,e,u,r⟩)
 refine⟨Y.bW eI U (.fm f) (Y.h U),rfl,by grind[ar.bW],rfl,rfl,?_,i⟩;have:=St.mono c i p (λ_ _ h=>h) (λn a e=>m.block a (c.bM.blt n a e).1 λ⟨A,g⟩=>(c.bM.blt n a e).2.2 _ _ g);simpa[ar.bW,c.hp]using this
theorem PK{c:b0}(h:x.map rL=[oR,c]):∃a b,x=[a,b]/\rL a=oR/\rL b=c:=by
 match x,h with
 |[a,b],h=>grind
theorem acd{f g e:b0}(h:x.map rL=[oR,f,g,e]):∃a b c d,x=[a,b,c,d]/\rL a=oR/\rL b=f/\rL c=g/\rL d=e:=by
 match x,h with
 |[a,b,c,d],h=>grind
theorem ace{i j f g:b0}(h:x.map rL=[oR,i,j,f,g]):∃a b c d e,x=[a,b,c,d,e]/\rL a=oR/\rL b=i/\rL c=j/\rL d=f/\rL e=g:=by
 match x,h with
 |[a,b,c,d,e],h=>simp at h;grind
theorem rP{op:Op}(h:AY B=(op,fZ)):B.op=op/\B.dst=fZ:=by
 simp_all[AY,Prod.fst,Prod.snd]
theorem acf(o:St Y L s.tmps){id:Nat}(l:L.hp[id]?=aa gF)(d:gF.nums=aa ey)(m:RT Y (.b8 id) bA):
 ∃a b clock c,bA=.map (aa a)/\Y.h id=aa (a,0)/\Y.w.heap[a]?=aa (.map b clock)/\b.toList.map (·.key)=c.map (λk=>Value.int .i64 k.1)/\b.toList.map (·.val)=c.map (λk=>Value.int .i64 k.2)/\(∀n,gi n c=gi n ey)/\gF.CL=true:=by
 cases gF with
 |mp t u vs=>
  let⟨a,b,clock,e,f,g,i,j,_⟩:=zn o l m;let⟨p,q⟩:=JP d i j;exact⟨a,b,clock,ey,e,f,g,p,q,λ_=>rfl,rfl⟩
 |fm v=>
  let⟨a,b,clock,c,e,f,g,i,j,r⟩:=Pm o l m;injection d with d;subst d;exact⟨a,b,clock,c,e,f,g,i,j,r,rfl⟩
 |_=>cases d
structure PM(E:ar)(s:AS)(a:Act)(l:List Nat)(j it:Nat)(g:Operand)(r bm bt n:Nat)(es:Array MapEntry)(L F:List (Int×Int))(a':Act)(w':World)(E':ar)(seen:Array Nat)(Lc:List (Int×Int))(ec:Array MapEntry)(cc c1:Nat):Prop where
 w:E'.w=w'
 st:St E' {env:=lJ l s.env,bx:=s.bx,hp:=s.hp.set j (.fm Lc)} a'.tmps
 fr:Fr E E'
 h:E'.h=E.h
 S:E'.S=E.S
 bx:E'.bx=E.bx
 size:a'.tmps.size=a.tmps.size
 defers:a'.defers=a.defers
 it:a'.eval (.tmp it)=.pointer (aa ⟨r,0,ae⟩)
 g:a'.eval g=.map (aa bt)
 iter:w'.heap[r]?=aa (.mapIter (aa bm) n seen c1)
 c1:n<=c1
 src:w'.heap[bm]?=aa (.map es n)
 Da:w'.heap[bt]?=aa (.map ec cc)
 keys:ec.toList.map (·.key)=Lc.map (λp=>Value.int .i64 p.1)
 bH:ec.toList.map (·.val)=Lc.map (λp=>Value.int .i64 p.2)
 now:∀x,(∃i v,L[i]?=aa (x,v)/\seen.contains i=ad/\gi x Lc=aa v)\/((∀i v,L[i]?=aa (x,v)->seen.contains i=ab)/\gi x Lc=gi x F)
theorem acg{w:World}(n:P.underlying u=aa (.map cu kk))(k:P.underlying cu=aa (.int rj)){b:Array MapEntry}{clock:Nat}(f:w.heap[U]?=aa (.map b clock))(t:b.toList.map (·.key)=ey.map (λc=>Value.int .i64 c.1))(x:b.toList.map (·.val)=ey.map (λc=>Value.int .i64 c.2))(a d:Int):
 ∃i o,(Instr.mapUpdate u (.map (aa U)) (.int .i64 a) (.int .i64 d)).run P w=.ok () {w with heap:=w.heap.setIfInBounds U (.map i o)}/\i.toList.map (·.key)=(oX a d ey).map (λc=>Value.int .i64 c.1)/\i.toList.map (·.val)=(oX a d ey).map (λc=>Value.int .i64 c.2):=by
 have m:(Instr.checkKey ab 10000 cu (.int .i64 a)).run P w=.ok () w:=by
  unfold Instr.checkKey;simp[run_underlying k]
 rcases JI rj a b.toList ey 0 t x with⟨p,j,y⟩|⟨l,v0,p,j,⟨h,q,s⟩,z⟩;have g:(Instr.findKey cu (.int .i64 a) b.toList).run P w=.ok ae w:=Go.MapKept.run_findKey k j;refine⟨b.push {key:=.int .i64 a,val:=.int .i64 d,born:=clock},clock+1,?_,by grind,by grind⟩;simp only[Instr.mapUpdate,Sem.run_bind,run_underlying n,Result.andThen_ok,Go.MapKept.run_getObj_map f,m,g];exact Go.MapKept.run_setObj_map _ f
 have g:(Instr.findKey cu (.int .i64 a) b.toList).run P w=.ok (aa (0+l,.int .i64 v0)) w:=Go.MapKept.run_findKey k j;simp only[e]at g;have r:b[l]?=aa h:=by simpa using q
 have v:(Instr.keyThatStays (.int .i64 a) (.int .i64 a)).run P w=.ok (.int .i64 a) w:=by simp[Instr.keyThatStays,Instr.sameBits]
 refine⟨b.modify l λh=>{h with key:=.int .i64 a,val:=.int .i64 d},clock,?_,?_,?_⟩;simp only[Instr.mapUpdate,Sem.run_bind,run_underlying n,Result.andThen_ok,Go.MapKept.run_getObj_map f,m,g,r,kf,nr,s,v];exact Go.MapKept.run_setObj_map _ f;grind[tY,List.map_set];grind[tY,List.map_set]
theorem ach{a:List MapEntry}(m:a.map (·.key)=ey.map (λb=>Value.int .i64 b.1))(n:a.map (·.val)=ey.map (λb=>Value.int .i64 b.2))(l:a.map (·.born)=ay U):∀c∈a,∃g v0,ey[c.born]?=aa (g,v0)/\c.key=.int .i64 g/\c.val=.int .i64 v0:=λc o=>by
 let⟨b,h⟩:=List.getElem?_of_mem o;have i:(a.map (·.born))[b]?=aa c.born:=by rw[sN,h]<;>rfl
 have d:(a.map (·.key))[b]?=aa c.key:=by rw[sN,h]<;>rfl
 have e:(a.map (·.val))[b]?=aa c.val:=by rw[sN,h]<;>rfl
 rw[l]at i;rw[m,sN]at d;rw[n,sN]at e;let⟨p,j⟩:=fH.1 i;rw[CD]at j;subst j;simp only[dq]at d e;let⟨⟨g,v0⟩,k,d⟩:=d;let⟨q,f,e⟩:=e;rw[k]at f;injection f with f;subst f;exact⟨g,v0,k,d.symm,e.symm⟩
theorem PN(h:M[U]?=aa gF)(a:Obj):(M.set U a)[U]?=aa a:=by
 grind
set_option maxHeartbeats 4000000 in
theorem aci{g:Operand}(H:CQ P cz=aa (m,g,bu))(t:xH (l G L m) (l G L g) L.hp=aa M)(st:St Y L s.tmps)(hl:dz G Y)(kw:gK s.tmps.size cz=ad):
 cz.wp P (FJ Y s .norm {env:=lJ bu L.env,bx:=L.bx,hp:=M}) s Y.w:=by
 unfold CQ at H;split at H
 case h_2=>cases H
 case h_1 awj awO t7 awk awP cs av4 agg Pi awQ awm r3=>
 split at H
 case h_2=>cases H
 case h_1 ci awJ avU A it awl k q F u e g4 f x awW O z Q d5 c2 awN K av1 B av2 awR N D E ha X bv el=>
 simp only at H;split at H
 case isFalse=>cases H
 case isTrue z2=>
 obtain⟨⟨rfl,Id,rfl,rfl,rfl,rfl,rfl,rfl,rfl,rfl,rfl,rfl,rfl,rfl,rfl,rfl⟩,kl,awe,J,wr,ws,fn⟩:=z2;simp only[e7,eG]at H;let⟨rfl,rfl,rfl⟩:=H;let⟨awy,awz,f2,hu,hw⟩:=PK ha;let⟨aig,awA,ds,hx,hH⟩:=PK X;let⟨awB,awC,awD,awE,awF,aR,hO,h1,h3,h4,ii⟩:=ace bv;let⟨awG,awH,ob,awI,cc,io,ip,iG,i0⟩:=acd el;let⟨alt,lw⟩:=rP hu;let⟨awK,l0⟩:=rP hw;let⟨md,f8⟩:=rP hx;let⟨mk,f9⟩:=rP hH;let⟨awL,mp⟩:=rP hO;let⟨and,ms⟩:=rP h1
 let⟨app,mt⟩:=rP h3;let⟨arm,m0⟩:=rP h4;let⟨arr,m1⟩:=rP ii;let⟨ask,m2⟩:=rP io;let⟨atR,m3⟩:=rP ip;let⟨at8,m4⟩:=rP iG;let⟨awM,at9⟩:=rP i0;rw[f2,ds,aR,cc]at fn;simp only[hG,dR,oF,AO,ba,I5,y4]at fn;let⟨ul,un,g8,g9,up,us,ut,v4,v5,v6,v9,wd,gc⟩:=fn;simp only[gK,uW,ba,eQ]at kw
 have p:∀{r:Array Oper}{a2:Oper}{d9:Nat},(∀f∈r.toList.zipIdx,Option.all (· <s.tmps.size) f.1.dst=ad/\(f.1.after.all λe=> !Region.binds .any e||y (e.on<f.2))=ad)->a2∈r.toList->a2.dst=aa d9->d9<s.tmps.size:=by
  intro r a2 d9 f1 If z3;obtain⟨a0,EQ,rfl⟩:=sO If;have:=(f1 (r.toList[a0],a0) (by grind)).1;rw[z3]at this;simpa using this
 let⟨ge,go,_,a3,d4⟩:=kw;have sp:A<s.tmps.size:=p ge (by grind) lw;have av3:u<s.tmps.size:=p ge (by rw[f2];simp) l0;have g2:q<s.tmps.size:=p go (by rw[ds];simp) f8;have s2:F<s.tmps.size:=p go (by rw[ds];simp) f9;have ty:x<s.tmps.size:=p a3 (by rw[aR];simp) mp;have t0:O<s.tmps.size:=p a3 (by rw[aR];simp) ms;have t1:Q<s.tmps.size:=p a3 (by rw[aR];simp) mt;have t2:K<s.tmps.size:=p a3 (by grind) m0
 have t3:B<s.tmps.size:=p a3 (by rw[aR];simp) m1;have sz:N<s.tmps.size:=p d4 (by rw[cc];simp) m2;have s0:D<s.tmps.size:=p d4 (by rw[cc];simp) m3;have s1:E<s.tmps.size:=p d4 (by rw[cc];simp) m4;clear p ge go a3 d4 ha X bv el hu hw hx hH hO h1 h3 h4 ii io ip iG i0 Id;unfold xH at t;split at t
 case h_2=>cases t
 case h_1 a0 v FS Do=>
 split at t
 case h_2=>cases t
 case h_1 PP vs a2 IR dl=>
 split at t
 case h_2=>cases t
 case h_1 ai az wn wf=>
 split at t
 case isFalse=>cases t
 case isTrue fy=>
 let⟨fy,H1⟩:=fy;injection t with t;subst t;let⟨d,i,clock,NE,i5,es,i9,Os,At⟩:=zn st IR (FS▸dM st hl ci);let⟨av8,bD⟩:=At rfl;let⟨jp,Pa⟩:=JP wn i9 Os;let⟨bt,g5,g3,g1,awh,cb,hs,ke,ls,AM,Fd⟩:=acf st dl wf (Do▸dM st hl c2);let⟨Rd,av0,awn,Op,awi,_⟩:=JJ wr;let⟨awp,awS,awo,Or,Nm,_⟩:=JJ ws;have xs:d≠bt:=λe=>fy (st.bM.j0 a0 v d 0 0 i5 (e▸cb));have awb:Z PP=Z ai:=by
  have X:=i9.length;have bv:=congrArg List.length jp;simp only[jX]at X bv;omega
 have awg:i.size=clock:=by
  have X:=congrArg List.length bD;simp at X;omega
 have Lc:∀f∈i.toList,f.born<clock:=λf f6=>by
  have:f.born∈i.toList.map (·.born):=List.mem_map_of_mem f6;rw[bD,iz]at this;omega
 have GT:(i.toList.map (·.born)).Nodup:=by rw[bD];exact E7
 have wt:=ach jp Pa bD;let⟨r,f1⟩:∃r,r=Y.w.heap.size:=⟨_,rfl⟩;let⟨R,hm⟩:∃R,R=Y.w.alloc (.mapIter (aa d) clock #[] clock):=⟨_,rfl⟩;have kx:¬Y.S ad r:=λh=>by have:=st.bM.iK r h;omega
 have d0:∀id cl,Y.h id≠aa (r,cl):=λid cl e=>by have:=(st.bM.dJ id r cl e).1;omega
 have lc:∀z,Y.bx z≠aa r:=λz e=>by have:=(st.bM.blt z r e).1;omega
 have ho:d≠r:=λe=>d0 a0 0 (e▸i5);have fd:bt≠r:=λe=>d0 v 0 (e▸cb);have j:=JR [A,u,q,F,x,O,Q,K,B,N,D,E] L.env;refine wp_seq (wp_region_list ?_);rw[f2];apply wl ul (eI:=Y.w) (a:=.value (s.eval ci)) (bA:=s.eval ci) (by simp[execOp,alt]) (.inl rfl);rw[lw];have v1:(s.put (aa A) (s.eval ci)).eval (.tmp A)=.map (aa d):=by rw[qC sp,NE]
 refine wl un (eI:=R) (a:=.value (.pointer (aa ⟨r,0,ae⟩))) (bA:=.pointer (aa ⟨r,0,ae⟩)) (by
  have:=run_range_map (P:=P) Y.w avU Rd av0 d i clock Op es;simp_all[execOp]) (.inl rfl) ?_
 rw[l0];apply wpList_nil;show Code.wp P (.block t7 _) _ _ _;let⟨co,he⟩:∃co,co=(s.put (aa A) (s.eval ci)).put (aa u) (.pointer (aa ⟨r,0,ae⟩)):=⟨_,rfl⟩;rw[<-he];have avS:St Y {env:=lJ [A,u,q,F,x,O,Q,K,B,N,D,E] L.env,bx:=L.bx,hp:=L.hp} s.tmps:={bM:=st.bM,hp:=st.hp,env:=λz d5 h=>st.env z d5 (j.1 z d5 h),bx:=st.bx};have n7:St Y {env:=lJ [A,u,q,F,x,O,Q,K,B,N,D,E] L.env,bx:=L.bx,hp:=L.hp} co.tmps:=by
  rw[he];exact(avS.qE (j.2 A (by simp))).qE (j.2 u (by simp))
 have d3:cX Y.w R (λU=>U=r):=by rw[hm];exact cX.alloc _ _ _
 have ex:R.heap[bt]?=aa (.map g5 g3):=(d3.block bt (kZ.1 hs).1 fd).trans hs;have hn:R.heap[d]?=aa (.map i clock):=(d3.block d (kZ.1 es).1 ho).trans es;have ld:R.heap[r]?=aa (.mapIter (aa d) clock #[] clock):=by rw[hm,f1];exact heap_alloc_new _ _
 let⟨gt,hk,hj,hg,hh,n8,g7⟩:=JS (C9 n7 d3 kx d0 lc) (U:=v) dl Fd (N:=bt) cb (eI:=R) (cX.refl _ _) rfl ex ke ls (f:=g1) (λ_=>rfl);have g6:Fr Y gt:=((Fr.refl Y).C9 d3 (by omega)).trans g7;have g0:PM Y L s [A,u,q,F,x,O,Q,K,B,N,D,E] v u c2 r d bt clock i ai az co R gt #[] g1 g5 g3 clock:={
  w:=hk,st:=n8,fr:=g6,h:=hj,S:=hg,bx:=hh
  size:=by grind[kr]
  defers:=by grind[nx]
  it:=by grind[qC,kr]
  g:=by grind[tZ]
  iter:=ld,c1:=c7 _,src:=hn,Da:=ex,keys:=ke,bH:=ls
  now:=λf=>.inr ⟨λ_ _ _=>by simp,AM f⟩}
 clear n7 n8 g7 g6 ex hn ld hk hj hg hh v1;refine wp_block (wp_loop (λrt d7=>∃n seen V ec cs c1,PM Y L s [A,u,q,F,x,O,Q,K,B,N,D,E] v u c2 r d bt clock i ai az rt d7 n seen V ec cs c1) (λ_ d7=>match d7.heap[r]? with|aa (.mapIter _ _ seen _)=>(leftOf i seen).size|_=>0) ⟨_,_,_,_,_,_,g0⟩ ?_);clear g0;rintro d6 W ⟨n,seen,V,ec,cs,c1,I⟩;obtain rfl:=I.w;have Lz:¬n.S ad r:=by rw[I.S];exact kx
 have LT:∀id cl,n.h id≠aa (r,cl):=by rw[I.h];exact d0
 have LE:∀z,n.bx z≠aa r:=by rw[I.bx];exact lc
 refine wp_seq (wp_region_list ?_);rw[ds];rcases Go.run_next_at (P:=P) n.w aig.type r d clock c1 seen i clock I.iter I.src Lc I.c1 with⟨Fn,ce⟩|⟨e,z4,w1,d1,ce⟩;refine wl g8 (eI:=n.w) (a:=.value (.tuple #[.bool ab])) (bA:=.tuple #[.bool ab]) (by simp[execOp,md,I.it,ce]) (.inl rfl) ?_;rw[f8];have v2:(d6.put (aa q) (.tuple #[.bool ab])).eval (.tmp q)=.tuple #[.bool ab]:=qC (by rw[I.size];exact g2)
 apply wl g9 (eI:=n.w) (a:=.value (.bool ab)) (bA:=.bool ab) (by simp[execOp,mk,v2,Instr.extract]) (.inl rfl);rw[f9];apply wpList_nil;show Code.wp P (.seq (.cond _ _ _) _) _ _ _;refine wp_seq (wp_cond_false (qC (by rw[kr,I.size];exact s2)) (wp_exit ?_));simp only[Exit.then,Exit.inBlock,if_true];have av7:=Go.all_seen i seen Fn;have z9:∀f,gi f V=gi f (ai.foldl (λaz lt=>oX lt.1 lt.2 az) az):=by
  intro f;rw[PI ai az H1];rcases I.now f with⟨a0,d5,EQ,-,i4⟩|⟨GE,i4⟩;grind[gi,absurd,PJ,JO,acb];cases AC:gi f ai with
  |none=>exact i4
  |some B=>
   let⟨f7,i6⟩:=JO AC;have awd:f7<Z ai:=(fH.1 i6).1;have awa:f7∈i.toList.map (·.born):=by rw[bD,iz];omega
   grind
 let⟨rx,X,bv,el,av5,ok,t8⟩:=JS I.st (U:=v) (gF:=.fm V) (PN dl _) rfl (N:=bt) (by rw[I.h];exact cb) (eI:=n.w) (cX.refl _ _) rfl I.Da I.keys I.bH z9;simp only[I6]at ok;refine⟨rfl,rx,X,(ok.qE (j.2 q (by simp))).qE (j.2 F (by simp)),I.fr.trans t8,?_,?_⟩;rw[kr,kr,I.size];rw[nx,nx,I.defers];let⟨i1,av9⟩:=Go.mem_left z4;let⟨a,v0,av6,i2,i3⟩:=wt e i1;simp only[k0,b6,jN,or_false,not_or]at kl
 let⟨_,⟨So,ST,awr,aws,awt,awu,awv,aww,awx,awq⟩,_,_,⟨SW,_⟩,⟨WF,_⟩,⟨WP,_⟩,⟨abs,acc,_⟩,⟨acl,act,_⟩,⟨adc,add⟩,UV,_⟩:=kl;rw[i2,i3]at ce;let⟨c,em⟩:∃c,c=Go.ChangeMaps.setBlock w1 r (.mapIter (aa d) clock (seen.push e.born) clock):=⟨_,rfl⟩;rw[<-em]at ce;have M2:r<n.w.heap.size:=(kZ.1 I.iter).1;have f4:w1.heap=n.w.heap:=by rcases d1 with rfl|rfl<;>rfl
 have d2:cX n.w c (λU=>U=r):=by
  rw[em];refine⟨by rcases d1 with rfl|rfl<;>rfl,by rcases d1 with rfl|rfl<;>rfl,by rcases d1 with rfl|rfl<;>exact⟨rfl,by first|exact c7 _|exact AP _⟩,by simp[Go.ChangeMaps.setBlock,f4],λU ww Hx=>?_⟩;simp only[Go.ChangeMaps.setBlock,f4];grind
 have f3:c.heap[d]?=aa (.map i clock):=(d2.block d (kZ.1 I.src).1 ho).trans I.src;have le:c.heap[bt]?=aa (.map ec cs):=(d2.block bt (kZ.1 I.Da).1 fd).trans I.Da;have f0:c.heap[r]?=aa (.mapIter (aa d) clock (seen.push e.born) clock):=by
  rw[em];simp only[Go.ChangeMaps.setBlock,f4];rw[arK,if_pos rfl,if_pos M2]
 have z5:=Go.run_entry_at (P:=P) c r d clock seen i clock e f0 f3 i1 GT;rw[i2,i3]at z5;apply wl g8 (eI:=c) (a:=.value (.tuple #[.bool ad,.int .i64 a,.int .i64 v0])) (bA:=.tuple #[.bool ad,.int .i64 a,.int .i64 v0]) (by simp[execOp,md,I.it,ce]) (.inl rfl);rw[f8];let⟨a4,aj⟩:∃a4,a4=d6.put (aa q) (.tuple #[.bool ad,.int .i64 a,.int .i64 v0]):=⟨_,rfl⟩;rw[<-aj]
 have aux:a4.tmps.size=s.tmps.size:=by rw[aj,kr,I.size]
 have avV:a4.eval (.tmp q)=.tuple #[.bool ad,.int .i64 a,.int .i64 v0]:=by rw[aj];exact qC (by rw[I.size];exact g2)
 apply wl g9 (eI:=c) (a:=.value (.bool ad)) (bA:=.bool ad) (by simp[execOp,mk,avV,Instr.extract]) (.inl rfl);rw[f9];let⟨a5,aA⟩:∃a5,a5=a4.put (aa F) (.bool ad):=⟨_,rfl⟩;rw[<-aA];have m5:a5.tmps.size=s.tmps.size:=by rw[aA,kr,aux]
 apply wpList_nil;show Code.wp P (.seq (.cond _ _ _) _) _ _ _;refine wp_seq (wp_cond_true (by grind[qC]) (wp_skip ?_));show Code.wp P (.block agg _) _ _ _;refine wp_block (wp_seq (wp_region_list ?_));rw[aR];have Pi:a5.eval (.tmp u)=.pointer (aa ⟨r,0,ae⟩):=by
  rw[aA,qD ST,aj,qD So,I.it]
 apply wl up (eI:=c) (a:=.value (.tuple #[.int .i64 a,.int .i64 v0])) (bA:=.tuple #[.int .i64 a,.int .i64 v0]) (by simp_all[execOp]) (.inl rfl);rw[mp];let⟨a6,aF⟩:∃a6,a6=a5.put (aa x) (.tuple #[.int .i64 a,.int .i64 v0]):=⟨_,rfl⟩;rw[<-aF];have m6:a6.tmps.size=s.tmps.size:=by rw[aF,kr,m5]
 have op:a6.eval (.tmp x)=.tuple #[.int .i64 a,.int .i64 v0]:=by rw[aF];exact qC (by rw[m5];exact ty)
 apply wl us (eI:=c) (a:=.value (.int .i64 a)) (bA:=.int .i64 a) (by simp[execOp,and,op,Instr.extract]) (.inl rfl);rw[ms];let⟨a9,ak⟩:∃a9,a9=a6.put (aa O) (.int .i64 a):=⟨_,rfl⟩;rw[<-ak];have m7:a9.tmps.size=s.tmps.size:=by rw[ak,kr,m6]
 have avW:a9.eval (.tmp x)=.tuple #[.int .i64 a,.int .i64 v0]:=by rw[ak,qD SW,op]
 apply wl ut (eI:=c) (a:=.value (.int .i64 v0)) (bA:=.int .i64 v0) (by simp[execOp,app,avW,Instr.extract]) (.inl rfl);rw[mt];let⟨bb,am⟩:∃bb,bb=a9.put (aa Q) (.int .i64 v0):=⟨_,rfl⟩;rw[<-am];have m8:bb.tmps.size=s.tmps.size:=by rw[am,kr,m7]
 have avX:bb.eval (.tmp O)=.int .i64 a:=by rw[am,qD WF,ak];exact qC (by rw[m6];exact t0)
 apply wl v4 (eI:=c) (a:=.value (.int .i64 a)) (bA:=.int .i64 a) (by simp[execOp,arm,avX]) (.inl rfl);rw[m0];let⟨be,au⟩:∃be,be=bb.put (aa K) (.int .i64 a):=⟨_,rfl⟩;rw[<-au];have m9:be.tmps.size=s.tmps.size:=by rw[au,kr,m8]
 have avY:be.eval (.tmp Q)=.int .i64 v0:=by rw[au,qD WP,am];exact qC (by rw[m7];exact t1)
 apply wl v5 (eI:=c) (a:=.value (.int .i64 v0)) (bA:=.int .i64 v0) (by simp[execOp,arr,avY]) (.inl rfl);rw[m1];let⟨bi,ax⟩:∃bi,bi=be.put (aa B) (.int .i64 v0):=⟨_,rfl⟩;rw[<-ax];have ne:bi.tmps.size=s.tmps.size:=by rw[ax,kr,m9]
 apply wpList_nil;show Code.wp P (.region _ _ _) _ _ _;apply wp_region_list;rw[cc];have os:bi.eval c2=.map (aa bt):=by
  rw[ax,tZ J (by simp),au,tZ J (by simp),am,tZ J (by simp),ak,tZ J (by simp),aF,tZ J (by simp),aA,tZ J (by simp),aj,tZ J (by simp),I.g]
 apply wl v6 (eI:=c) (a:=.value (.map (aa bt))) (bA:=.map (aa bt)) (by simp[execOp,ask,os]) (.inl rfl);rw[m2];let⟨bm,af⟩:∃bm,bm=bi.put (aa N) (.map (aa bt)):=⟨_,rfl⟩;rw[<-af];have nl:bm.tmps.size=s.tmps.size:=by rw[af,kr,ne]
 have u8:bm.eval (.tmp K)=.int .i64 a:=by rw[af,qD acc,ax,qD abs,au];exact qC (by rw[m8];exact t2)
 apply wl v9 (eI:=c) (a:=.value (.int .i64 a)) (bA:=.int .i64 a) (by simp[execOp,atR,u8]) (.inl rfl);rw[m3];let⟨br,ah⟩:∃br,br=bm.put (aa D) (.int .i64 a):=⟨_,rfl⟩;rw[<-ah];have n6:br.tmps.size=s.tmps.size:=by rw[ah,kr,nl]
 have avZ:br.eval (.tmp B)=.int .i64 v0:=by rw[ah,qD act,af,qD acl,ax];exact qC (by rw[m9];exact t3)
 apply wl wd (eI:=c) (a:=.value (.int .i64 v0)) (bA:=.int .i64 v0) (by simp[execOp,at8,avZ]) (.inl rfl);rw[m4];let⟨C,ac⟩:∃C,C=br.put (aa E) (.int .i64 v0):=⟨_,rfl⟩;rw[<-ac];have avR:C.tmps.size=s.tmps.size:=by rw[ac,kr,n6]
 have awT:C.eval (.tmp N)=.map (aa bt):=by rw[ac,qD add,ah,qD adc,af];exact qC (by rw[ne];exact sz)
 have awU:C.eval (.tmp D)=.int .i64 a:=by rw[ac,qD UV,ah];exact qC (by rw[nl];exact s0)
 have awV:C.eval (.tmp E)=.int .i64 v0:=by rw[ac];exact qC (by rw[n6];exact s1)
 let⟨ek,d8,Ok,i8,lm⟩:=acg (P:=P) Or Nm le I.keys I.bH a v0;let⟨T,eq⟩:∃T:World,T={c with heap:=c.heap.setIfInBounds bt (.map ek d8)}:=⟨_,rfl⟩;rw[<-eq]at Ok;apply wl gc (eI:=T) (a:=.skip) (bA:=undef) (by simp_all[execOp]) (.inr ⟨rfl,rfl⟩);rw[at9];apply wpList_nil;have z0:bt<c.heap.size:=(kZ.1 le).1;have f5:cX c T (λcz=>cz=bt):=by
  rw[eq];refine⟨rfl,rfl,⟨rfl,c7 _⟩,by simp,λU ww Hx=>?_⟩;show(c.heap.setIfInBounds bt _)[U]?=_;grind
 have li:T.heap[bt]?=aa (.map ek d8):=by
  rw[eq];show(c.heap.setIfInBounds bt _)[bt]?=_;rw[arK,if_pos rfl,if_pos z0]
 have i7:T.heap[r]?=aa (.mapIter (aa d) clock (seen.push e.born) clock):=(f5.block r (kZ.1 f0).1 (CC fd)).trans f0;have Ne:T.heap[d]?=aa (.map i clock):=(f5.block d (kZ.1 f3).1 xs).trans f3;let⟨gU,g4,t4,t5,t6,ol,t9⟩:=JS (C9 I.st d2 Lz LT LE) (U:=v) (gF:=.fm V) (PN dl _) rfl (N:=bt) (by show n.h v=_;rw[I.h];exact cb) (eI:=T) f5 rfl li i8 lm (f:=oX a v0 V) (λ_=>rfl);simp only[I6]at ol
 have awc:=λz Fi=>j.2 z Fi;have avT:St gU {env:=lJ [A,u,q,F,x,O,Q,K,B,N,D,E] L.env,bx:=L.bx,hp:=L.hp.set v (.fm (oX a v0 V))} C.tmps:=by
  have pl:=ol.qE (a:=d6) (u:=.tuple #[.bool ad,.int .i64 a,.int .i64 v0]) (j.2 q (by simp));rw[<-aj]at pl;have pp:=pl.qE (u:=.bool ad) (j.2 F (by simp));rw[<-aA]at pp;have ps:=pp.qE (u:=.tuple #[.int .i64 a,.int .i64 v0]) (j.2 x (by simp));rw[<-aF]at ps;have pu:=ps.qE (u:=.int .i64 a) (j.2 O (by simp));rw[<-ak]at pu;have qr:=pu.qE (u:=.int .i64 v0) (j.2 Q (by simp));rw[<-am]at qr
  have rc:=qr.qE (u:=.int .i64 a) (j.2 K (by simp));rw[<-au]at rc;have rd:=rc.qE (u:=.int .i64 v0) (j.2 B (by simp));rw[<-ax]at rd;have rg:=rd.qE (u:=.map (aa bt)) (j.2 N (by simp));rw[<-af]at rg;have ro:=rg.qE (u:=.int .i64 a) (j.2 D (by simp));rw[<-ah]at ro;have pm:=ro.qE (u:=.int .i64 v0) (j.2 E (by simp));rw[<-ac]at pm;exact pm
 refine⟨⟨gU,seen.push e.born,oX a v0 V,ek,d8,clock,{
  w:=g4,st:=avT,fr:=(I.fr.C9 d2 (by omega)).trans t9,h:=t4.trans I.h,S:=t5.trans I.S,bx:=t6.trans I.bx
  size:=avR
  defers:=by
   show C.defers=s.defers;rw[ac,nx,ah,nx,af,nx,ax,nx,au,nx,am,nx,ak,nx,aF,nx,aA,nx,aj,nx,I.defers]
  it:=by
   show C.eval _=_;grind[qD]
  g:=by
   show C.eval _=_;rw[ac,tZ J (by simp),ah,tZ J (by simp),af,tZ J (by simp),os]
  iter:=i7,c1:=c7 _,src:=Ne,Da:=li,keys:=i8,bH:=lm
  now:=λf=>?_}⟩,?_⟩
 by_cases f6:a=f;grind[FD];rw[FD,if_neg f6];rcases I.now f with⟨f7,v1,i6,awf,Eq⟩|⟨GE,Eq⟩;grind;grind;show(match T.heap[r]? with|aa (.mapIter _ _ seen _)=>(leftOf i seen).size|_=>0)<(match n.w.heap[r]? with|aa (.mapIter _ _ seen _)=>(leftOf i seen).size|_=>0);rw[i7,I.iter];simp_all[Go.left_shrinks]
end
variable{mD:Code}{ki:AS}{jw:fg}{fq:List Obj}
section
variable{P:Program}{G:Nat->Option (List AV)}{An:Nat->bS}{X:fu}
theorem acj(m:St Y L s.tmps){r:ResultVar}{v:AV}(h:xQ P L r=aa v):
 ∃n,((match r with|.tmp a=>pure (s.tmps.getD a undef)|.cell c a=>do loadVar a (<-asAddr (s.tmps.getD c undef))):Sem Value).run P Y.w=.ok n Y.w/\R Y v n:=by
 have env:∀a,RT Y ((look a L.env).getD .undef) (s.tmps.getD a undef):=by
  intro a;rcases l:look a L.env with _|v;exact .inl (.undef _);exact m.env a v l
 cases r with
 |tmp a=>
  simp[xQ]at h;subst h;simp_all[R.pl]
 |cell c a=>
  simp only[xQ,dq]at h;obtain⟨E,h,rfl⟩:=h;have f:=env c;unfold oZ at h;rcases j:pJ L ((look c L.env).getD .undef)with _|q;grind;let⟨i,off⟩:=q;simp only[j]at h;split at h
  case isFalse=>simp at h
  case isTrue d=>
  simp at h;subst h;let⟨y,g,vs,A,B,x,t,D,p,o⟩:=Ju m f j;let⟨z,k⟩:=sK.1 d.2.2;let⟨b,e⟩:=info_of_underlying k;rw[jy e]at d;have l:Z ((i.drop off).take b.size)=b.size:=by simp;omega
  have u:=Js (P:=P) t (g+off) e k (by omega) d.2.1;refine⟨if ft P a then .agg ((vs.toList.drop (g+off)).take b.size).toArray else((vs.toList.drop (g+off)).take b.size).headD undef,by simp only[x,asAddr,Sem.run_bind,Sem.run_pure,Result.andThen_ok,u],R.pl (.inl ?_)⟩;rw[jy e];refine Fv ?_ ?_ (by grind);have C:=RL.take b.size (RL.drop off p);grind[lf,List.drop_drop];intro F f;apply o
  rw[<-vU,<-lf _ (Z i) _ _ (by omega)]at f;grind
theorem JT{a:ar}{b:AS}{d:Act}(i:St a b d.tmps):∀{rs:List ResultVar}{vs:List AV},wg P b rs=aa vs->
 ∃c,(rs.mapM (λr=>match r with|.tmp e=>pure (d.tmps.getD e undef)|.cell j e=>do loadVar e (<-asAddr (d.tmps.getD j undef))):Sem (List Value)).run P a.w=.ok c a.w/\RL a vs c
 |[],vs,h=>by
  simp[wg]at h;subst h;exact⟨[],by simp,.nil⟩
 |r::rs,vs,h=>by
  simp only[wg]at h;rcases f:xQ P b r with _|v;grind;rcases g:wg P b rs with _|p;grind;simp[f,g]at h;subst h;let⟨m,n,k⟩:=acj i f;let⟨c,o,l⟩:=JT i g;refine⟨m::c,?_,.cons _ _ _ _ k l⟩;simp_all
theorem JU(l:St Y L s.tmps){fn:Func}{r:AV}(h:xR P fn L=aa r):∃g,(results fn s.tmps).run P Y.w=.ok g Y.w/\R Y r g:=by
 unfold xR at h;have key:∀b:List Value,(fn.results.toList.mapM (λr=>match r with|.tmp a=>pure (s.tmps.getD a undef)|.cell c a=>do loadVar a (<-asAddr (s.tmps.getD c undef))):Sem (List Value)).run P Y.w=.ok b Y.w->
  (results fn s.tmps).run P Y.w=.ok (if h:b.toArray.size=1 then b.toArray[0]else .tuple b.toArray) Y.w:=by
  intro b e;unfold results;rw[Array.mapM_eq_mapM_toList];simp only[Sem.run_bind,map_eq_pure_bind,Sem.run_pure];have k:=e
  rw[show(λr:ResultVar=>(match r with|.tmp a=>pure (s.tmps.getD a undef)|.cell c a=>do loadVar a (<-asAddr (s.tmps.getD c undef)):Sem Value))=(λm:ResultVar=>(match m with|.tmp a=>pure (s.tmps.getD a undef)|.cell c a=>do loadVar a (<-asAddr (s.tmps.getD c undef)):Sem Value))from rfl]at k
  apply Eq.trans (congrArg (λr=>(Result.andThen (Result.andThen r λs i=>Result.ok s.toArray i) λs i=>Result.ok (if h:s.size=1 then s[0]else Value.tuple s) i)) k);rfl
 split at h;rename_i g f;simp at h;subst h;let⟨b,e,d⟩:=JT l f;cases d with
 |cons _ u _ v q n=>
  cases n
  grind
 rename_i vs p f;simp at h;subst h;let⟨b,e,d⟩:=JT l f;have o:Z b≠1:=by
  intro j;rw[d.length]at j;rcases vs with _|⟨m,t⟩;simp at j;simp_all
 refine⟨.tuple b.toArray,by grind,.aB _ _ (by omega)⟩;simp at h
theorem RL.n0{e:ar}:∀(k:Nat){c:List AV}{d:List Value},RL e c d->∀(pre:List Value)(post:List Value),Z pre=k->∀a b,look a (n0 k c)=aa b->RT e b ((pre++d++post).toArray.getD a undef)
 |_,_,_,.nil,_,_,_,a,b,h=>by simp[AM.n0,look]at h
 |k,_,_,.cons l j c d m i,pre,post,g,a,b,h=>by
  simp only[AM.n0,look]at h;split at h;rename_i f;subst f;simp at h;subst h
  left
  simp_all;have:=RL.n0 (k+1) i (pre++[j]) post (by simp[g]) a b h;grind
theorem JV{E:ar}{args:List AV}(g:Good E)(a:RL E args hN)(n:Nat):St E {env:=n0 0 args,bx:=[],hp:=E.H} (hN.toArray++Array.replicate (n -hN.toArray.size) undef)where
 bM:=g
 hp:=rfl
 env:=λk v h=>by
  have:=RL.n0 0 a [] (dh (n -hN.toArray.size) undef) rfl k v h;have e:hN.toArray++Array.replicate (n -hN.toArray.size) undef=([]++hN++dh (n -hN.toArray.size) undef).toArray:=by
   rw[<-oH];simp
  rw[e];exact this
 bx:=by grind[look]
variable(P G An X)
def l9(c:Array Oper)(h:List Oper)(i j:AS):Prop:=
 ∀(a:ar)(b:Act)(Q:Exit->Act->World->Prop)(d:List Nat),gJ c d=h->(∀g∈d,g<c.size)->St a i b.tmps->dz G a->uW b.tmps.size c=ad->(∀e f,n5 a j b e f->Q .normal e f)->wpOps P c Q d b a.w
def MC(c:Code)(e:AS)(d:fg)(f:AS):Prop:=
 ∀(a:ar)(b:Act),St a e b.tmps->dz G a->gK b.tmps.size c=ad->C6 P c (FJ a b d f) b a.w
variable{P G An X}
theorem JW:l9 P G o [] L L:=λa b Q g d e f _ _ c=>by
 have:=Py d e;subst this;exact c b a.w ⟨a,rfl,f,Fr.refl a,rfl,rfl⟩
theorem PQ(p:gh o L B=aa ab)(r:l9 P G o lz (gn B.dst (.aB [],L)) n):l9 P G o (B::lz) L n:=λa d Q x i k c f l g=>by
 obtain⟨w,s,rfl,b,j⟩:=C4 i k;have q:=C3 c p;have h:=(A9 l b).1;simp only[wpOps,b,q,e6,if_false];have t:=c.C2 (fZ:=B.dst) (c:=.aB []) (bA:=undef) (.inl (.aB [] #[] .nil)) h;exact r a (d.put B.dst undef) Q s j (by grind) t f (by grind[kr])
  (λe u m=>g e u (m.trans (Fr.refl a) (kr _ _ _) (nx _ _ _)))
theorem JX{f:bS}{r:AV×AS}(x:gh o L B=aa ad)(t:aW P G f L B.dst B.op=aa r)(z:l9 P G o lz (gn B.dst r) n):l9 P G o (B::lz) L n:=λH h Q K l p a c s j=>by
 obtain⟨J,A,rfl,d,m⟩:=C4 l p;have y:=C3 a x;have k:=(A9 s d).1;let⟨O,N⟩:=r;let⟨M,E,g,v,q,w,D,b⟩:=Pt a c t;simp only[wpOps,d,y,if_true];refine .inl ?_;have C:=D.C2 (fZ:=B.dst) w k;have e:=z g (h.put B.dst E) Q A m (by grind) C (c.mono b a.bM) (by grind[kr])
  (λi F u=>j i F (u.trans b (kr _ _ _) (nx _ _ _)))
 unfold Oper.wp;rw[v];rcases q with rfl|⟨rfl,rfl⟩;exact e;exact e
theorem PT{args d:List AV}{g r:AV}(R:gh o L B=aa ad)(I:B.op=.call dV)(x:jc P G L dV=aa (U,args))
 (E:dd≠.res)(v:qz L dd args d)(K:jz P G U d [] g M)(ai:aM M .res g r)(F:dd=.cd->NB r)(T:l9 P G o lz (gn B.dst (r,L)) n):l9 P G o (B::lz) L n:=λi k Q au A D a b H s=>by
 obtain⟨am,V,rfl,f,C⟩:=C4 A D;have S:=C3 a R;have y:=(A9 H f).1;let⟨w,z⟩:=K;let⟨Y,N,O⟩:=Px a b I x w;simp only[wpOps,f,S,if_true];refine .inl ?_;unfold Oper.wp;rw[N,Oper.upon_enter];apply Calls.mono (z (i.dZ dd) Y (Pz a.bM dd) (λ_=>rfl) rfl (PC a E v O) (b.Jo (PA dd)));intro m h c;cases m with
 |returned Z=>
  let⟨ac,aj,p,q,ah,u⟩:=c;let⟨j,ak,X,e,t⟩:=PE a p q u (by grind) F;have W:=X.C2 (fZ:=B.dst) (.inl t) y;have:=T j (k.put B.dst Z) Q V C (by grind) W (b.mono e a.bM) (by grind[kr])
   (λl h J=>s l h (J.trans e (kr _ _ _) (nx _ _ _)))
  grind
 |panicked _=>exact c.elim
 |outgrown=>exact c.elim
theorem PU{args:List AV}{r:AV}(K:gh o L B=aa ad)(F:B.op=.call dV)(x:jc P G L dV=aa (U,args))
 (H:jz P G U (args.map AV.pl) L.hp r M)(O:l9 P G o lz (gn B.dst (r.pl,{L with hp:=M})) n):l9 P G o (B::lz) L n:=λd k Q af A D a b E t=>by
 obtain⟨ac,S,rfl,f,C⟩:=C4 A D;have N:=C3 a K;have y:=(A9 E f).1;let⟨w,z⟩:=H;let⟨V,I,J⟩:=Px a b F x w;simp only[wpOps,f,N,if_true];refine .inl ?_;unfold Oper.wp;rw[I,Oper.upon_enter];apply Calls.mono (z d.zp V (ab8 a.bM) (λ_=>rfl) a.hp.symm (RL.gV (ab9 d) J.pl) (b.Jo rfl));intro m i c;cases m with
 |returned h=>
  let⟨W,Y,p,q,s,v⟩:=c;let⟨j,Z,g,e,u⟩:=aca a p q v;rw[s]at g;have T:=g.C2 (fZ:=B.dst) (c:=r.pl) (.inl (R.pl (.inl u))) y;have:=O j (k.put B.dst h) Q S C (by grind) T (b.mono e a.bM) (by grind[kr])
   (λl i hp=>t l i (hp.trans e (kr _ _ _) (nx _ _ _)))
  grind
 |panicked _=>exact c.elim
 |outgrown=>exact c.elim
theorem PV(a:Array Oper):∀n,n<=a.size->gJ a (ay n)=a.toList.take n
 |0,_=>by simp[gJ]
 |n+1,h=>by
  have b:=PV a n (by omega);grind[gJ,List.range_succ,List.take_succ_eq_append_getElem]
theorem JY(a:Array Oper):gJ a (ay a.size)=a.toList:=by
 simp[PV,gT]
theorem PW{a:bS}{id:Nat}(j:l9 P G o o.toList L n):MC P G (.region id o ab) L .norm (sW a n):=λb d k h m=>by
 apply wp_region;apply j b d _ (ay o.size) (JY o) (by grind) k h (by grind[gK]);intro l p i;let⟨c,e,f,g⟩:=i;exact⟨rfl,c,e,f.mL _ _,g⟩
theorem PX{i:bS}(s:P.follows .mixedOrders=ad){id:Nat}(v:∀g,pL o [] g->l9 P G o (gJ o g) L n):MC P G (.region id o ad) L .norm (sW i n):=λa c b r t=>by
 have f:uW c.tmps.size o=true:=by simpa[gK]using t
 refine wp_region_draw λy=>?_;simp only[Region.schedule,s,AQ,if_true];have e:=PH f y;let⟨d,k⟩:=ar.Jw (eI:={a.w with drawn:=a.w.drawn+1}) b.bM ⟨rfl,rfl,⟨rfl,AP _⟩,c7 _,λ_ _ _=>rfl⟩;have x:St (a.wd {a.w with drawn:=a.w.drawn+1}) L c.tmps:=by
  have:=St.mono b d k (λ_ _ h=>h) (λ_ _ _=>rfl);simpa[ar.wd,<-b.hp]using this
 apply v _ e _ c _ _ rfl (C8 e) x (r.mono d b.bM) f;intro A z u;let⟨j,l,m,p,q⟩:=u;exact⟨rfl,j,l,m.mL _ _,d.trans p,q⟩
theorem PY(h:MC P G cz L .norm n)(k:MC P G mD n jw ki):MC P G (.seq cz mD) L jw ki:=λe g d b c=>by
 simp only[gK,ba]at c;refine wp_seq (wp_mono (h e g d b c.1).wp ?_);rintro j i w1 ⟨rfl,f,rfl,p,a,o,l⟩;apply wp_mono (k f i p (b.mono a d.bM) (by grind)).wp;rintro j q r ⟨rfl,m⟩;cases jw<;>exact⟨rfl,m.trans a o l⟩
theorem PZ(h:MC P G cz L jw n)(j:jw≠.norm):MC P G (.seq cz mD) L jw n:=λc d f e a=>by
 simp only[gK,ba]at a;refine wp_seq (wp_mono (h c d f e a.1).wp ?_);rintro i g w1 ⟨rfl,b⟩;cases jw with
 |norm=>grind
 |exit id=>exact⟨rfl,b⟩
 |ret=>exact⟨rfl,b⟩
theorem P0{b:bS}(g:l G L m=.bool T)(h:MC P G (if T then cz else mD) (qA b m L) jw n):MC P G (.cond m cz mD) L jw n:=λf c e d a=>by
 simp only[gK,ba]at a;have i:=R.zl (g▸dM e d m);apply wp_cond i;have j:gK c.tmps.size (if T then cz else mD)=true:=by cases T;exact a.2;exact a.1
 exact(h f c (e.drop b m) d j).wp
theorem P1{id:Nat}(h:MC P G cz L jw n)(j:jw≠.exit id):MC P G (.block id cz) L jw n:=λc d f e b=>by
 simp only[gK]at b;refine wp_block (wp_mono (h c d f e b).wp ?_);rintro i g w1 ⟨rfl,a⟩;cases jw with
 |norm=>exact⟨rfl,a⟩
 |exit k=>
  simp only[fg.FI,Exit.inBlock];rw[if_neg (by grind)];exact⟨rfl,a⟩
 |ret=>exact⟨rfl,a⟩
theorem P2{id:Nat}(h:MC P G cz L (.exit id) n):MC P G (.block id cz) L .norm n:=λb c f d a=>by
 simp only[gK]at a;refine wp_block (wp_mono (h b c f d a).wp ?_);rintro i g w1 ⟨rfl,e⟩;simp only[fg.FI,Exit.inBlock,if_true];exact⟨rfl,e⟩
theorem P3(h:MC P G cz L .norm n)(m:MC P G (.loop cz) (Fp L n) jw ki):MC P G (.loop cz) L jw ki:=λi a g e r=>by
 have s:gK a.tmps.size cz=true:=by simpa[gK]using r
 intro b f c;obtain⟨y,k,w1,⟨rfl,j,rfl,w,d,v,q⟩,o⟩:=(h i a g e s).wp b (.inLoop cz::f) c;have u:=m j k (w.mL _ _) (e.mono d g.bM) (by grind);obtain⟨z,l,x,⟨rfl,t⟩,p⟩:=u b f c;exact⟨_,l,x,⟨rfl,t.trans d v q⟩,.of_steps (Steps.trans o (.one step_inLoop)) p⟩
theorem P4(h:MC P G cz L jw n)(i:jw≠.norm):MC P G (.loop cz) L jw n:=λb a o f j=>by
 have k:gK a.tmps.size cz=true:=by simpa[gK]using j
 intro d m e;obtain⟨p,c,w1,⟨rfl,l⟩,g⟩:=(h b a o f k).wp d (.inLoop cz::m) e;refine⟨_,c,w1,⟨rfl,l⟩,.pass (x:=.inLoop cz) rfl (λ_ _=>.inl ?_) g⟩;cases jw<;>simp[fg.FI]at i⊢
theorem P5(h:MC P G cz L jw n):MC P G (.scope cz) L jw n:=λb c f d a=>by
 simp only[gK]at a;refine wp_scope_straight (wp_mono (h b c f d a).wp ?_);rintro i g w1 ⟨rfl,e⟩;cases jw<;>exact⟨rfl,e⟩
theorem P6{fn:Func}{args:List AV}{r:AV}(k:P.funcs[U]?=aa fn)(j:fn.body=aa cz)(s:(fn.name== "runtime.NumGoroutine")=ab)(A:Z args<=fn.ntmps)(B:gK fn.ntmps cz=ad)
 (h:MC P G cz {env:=n0 0 args,bx:=[],hp:=M} jw L)(t:jw=.norm\/jw=.ret)(u:xR P fn L=aa r):jz P G U args M r L.hp:=by
 refine⟨⟨fn,cz,k,j,s⟩,λe b g z o i n=>?_⟩;apply calls_of_wp k j;have D:(b.toArray++Array.replicate (fn.ntmps -b.toArray.size) undef).size=fn.ntmps:=by
  have:=i.length;simp;omega
 have l:=JV g i fn.ntmps;rw[o]at l;have v:=(h e {tmps:=b.toArray++Array.replicate (fn.ntmps -b.toArray.size) undef,defers:=[]} l n (by grind)).wp;apply wp_mono v;rintro y f w1 ⟨rfl,a,rfl,d,m,C,q⟩;let⟨c,x,p⟩:=JU d u;have hp:f.defers=[]/\∃c,(results fn f.tmps).run P a.w=.ok c a.w/\C5 e L.hp r (.returned c) a.w:=⟨q,c,x,a,rfl,m,d.bM,d.hp.symm,p⟩;rcases t with rfl|rfl<;>exact hp
theorem P7{g:Operand}(a:CQ P cz=aa (m,g,bu))(c:xH (l G L m) (l G L g) L.hp=aa M):MC P G cz L .norm {env:=lJ bu L.env,bx:=L.bx,hp:=M}:=λf i e b d=>by
 have h:=aci a c e b d;cases cz with
 |loop j=>cases a
 |_=>exact h
theorem ack(A:P.follows .mixedOrders=ad)(z:∀U args M r fq,X U args M r fq->jz P G U args M r fq){args:List AV}{r:AV}(h:k5 P G An X U args M r fq):jz P G U args M r fq:=by
 refine k5.rec (motive_1:=λd x y c l _=>l9 P G x y c l) (motive_2:=λd m c n l _=>MC P G m c n l) (motive_3:=λU args M r fq _=>jz P G U args M r fq)
  ?_ ?_ ?_ ?_ ?_ ?_ ?_ ?_ ?_ ?_ ?_ ?_ ?_ ?_ ?_ ?_ ?_ ?_ ?_ ?_ ?_ ?_ ?_ h
 grind[JW];grind[PQ];grind[JX];grind[PT];grind[PU];intro d c a k b e f;exact wp_skip ⟨rfl,a,rfl,b,Fr.refl a,rfl,rfl⟩;intro d w c a k b e f;exact wp_label ⟨rfl,a,rfl,b,Fr.refl a,rfl,rfl⟩;grind[id,PW];grind[id,PX];grind[PY];grind[PZ];grind[P0];grind[id,P1];grind[id,P2];grind[P3];grind[P4];intro d id c a k b e f;exact wp_exit ⟨rfl,a,rfl,b,Fr.refl a,rfl,rfl⟩
 intro d c a k b e f;exact wp_ret ⟨rfl,a,rfl,b,Fr.refl a,rfl,rfl⟩;grind[P5];intro d k c C l n s p t _ v a o b e f;exact v a o ⟨b.bM,t.trans b.hp,λi j h=>b.env i j (s i j h),λi j h=>b.bx i j (p i j h)⟩ e f;intro d m c B g w fq q u;exact P7 q u;grind[P6];grind
end
inductive Cl where
 |pure|rd|jd|box
 deriving DecidableEq
def Ba(a:Program)(b:Array TypeId):Cl:=
 match(b[0]?).bind a.underlying with
 |aa (.slice _)|aa .string|aa (.array _ _)=>.pure
 |_=>.rd
def aC(d:Program)(b:bS)(e:Oper->Bool)(a:Oper):Cl:=
 match a.op with
 |.move _|.pick ..|.build ..|.binOp ..|.unOp ..|.convert ..|.makeInterface ..|.makeFunc ..|.field ..|.index ..|.extract ..|.typeAssert ..=>.pure
 |.assign _=>if(a.dst.bind (look · b.acc)).isSome then .jd else .pure
 |.buildSlice _ f _=>if f≠0/\a.dst.any (· ∈b.own)=ad then .jd else .pure
 |.load ..|.nilCheck _|.fieldAddr ..|.indexAddr ..|.lookup ..|.slice ..=>.rd
 |.alloc _=>if a.dst.any (· ∈b.lb)then .box else .jd
 |.box ..=>if a.dst.any (· ∈b.lb)then .box else if a.dst.any (· ∈b.own)then .jd else .pure
 |.call c=>
  match c.callee with
  |.builtin .len=>Ba d c.argTypes
  |.builtin .min|.builtin .max=>.pure
  |.builtin _=>.jd
  |_=>if e a then .jd else .rd
 |_=>.jd
variable{cH:Oper -> Bool}
section
variable{P:Program}{G:Nat->Option (List AV)}{A:bS}
theorem acm(h:∀a,m=.tmp a->look a n.env=look a L.env):l G n m=l G L m:=by
 cases m with
 |tmp a=>grind[l]
 |_=>rfl
theorem acn{a:AV}(c:n.hp=L.hp)(d:∀b off,a=.lp b off->look b n.bx=look b L.bx):pJ n a=pJ L a:=by
 cases a<;>simp[pJ,c]
 grind
theorem P8{b:AV}(d:n.hp=L.hp)(c:∀a off,b=.lp a off->look a n.bx=look a L.bx):oZ P n u b=oZ P L u b:=by
 simp[oZ,acn d c]
theorem JZ{a:AV}(b:n.hp=L.hp):mM n U a=mM L U a:=by
 simp_all[mM]
theorem aco{a:AV}(b:n.hp=L.hp):v7 P n u a U=v7 P L u a U:=by
 simp[v7,JZ b]
theorem acp{c b:AV}(a:n.hp=L.hp):rN P n u c b=rN P L u c b:=by
 unfold rN;simp only[JZ a,a]
theorem acq{a:AV}(b:n.hp=L.hp):wa n a=wa L a:=by
 simp[wa,b]
theorem acr{c b:AV}{ok:Bool}(a:n.hp=L.hp):uU P n u c b ok=uU P L u c b ok:=by
 simp[uU,acq a,a]
theorem P9{a:AV}(b:n.hp=L.hp):l8 P n u a=l8 P L u a:=by
 simp[l8,b]
theorem acs{a:AV}{c b:Option AV}(d:n.hp=L.hp):nt P n u a c b=(nt P L u a c b).map λr=>(r.1,n):=by
 unfold nt;cases a with
 |aq=>
  grind
 |dL=>
  grind
 |str e=>
  grind
 |sl f h=>
  simp only
  repeat' split
  all_goals grind
 |q id g off len=>
  simp only[d]
  repeat' split
  all_goals grind
 |_=>rfl
def Ag(c:Array Oper)(b:Oper)(d e:AS):Prop:=∀a∈b.looksAt c,look a e.env=look a d.env
theorem Ag.op{g:Array Oper}{c:Oper}{d e:AS}(h:Ag g c d e):∀a∈c.op.operands,l G e a=l G d a:=λa i=>
 acm λb f=>h b (by
  subst f;exact OR _ (xE.2 ⟨.tmp b,by grind,rfl⟩))
theorem Ag.wanted(h:Ag o B L n):gh o n B=gh o L B:=by
 unfold gh;rcases b:B.guard with _|a;rfl;let⟨d,w⟩:=a;simp only;rcases c:(o[d]?).bind (·.dst)with _|k;rfl;simp only;rw[h k (List.mem_append_right _ (by simp[b,c]))]
def o6(d:Array Oper)(c:Oper)(e:AS)(b:Nat):Prop:=∃a∈c.looksAt d,∃off,look a e.env=aa (.lp b off)
theorem acu{off:Nat}(h:l G L m=.lp U off):∃c,m=.tmp c/\look c L.env=aa (.lp U off):=by
 cases m with
 |tmp c=>
  simp only[l]at h;rcases e:look c L.env with _|v;grind;grind
 |const v=>
  simp only[l]at h;rcases b:rM v with _|a;grind;simp[b]at h;subst h;exfalso;unfold rM at b;split at b;simp at b;unfold ofValue at b;grind
 |global g=>
  grind[l]
 |func d=>simp[l]at h
theorem o6.of(c:m∈B.op.operands){off:Nat}(h:l G L m=.lp U off):o6 o B L U:=by
 obtain⟨a,rfl,b⟩:=acu h;exact⟨a,OR _ (xE.2 ⟨.tmp a,by grind,rfl⟩),off,b⟩
def jA(a:AS)(r:Option (AV×AS)):Option (AV×AS):=r.map λr=>(r.1,a)
theorem Qa:∀{parts:List (Nat×AV)}{a r:List (List AV)},lI U a parts=aa r->r.length=Z a
 |[],a,r,h=>by grind[lI]
 |(b,c)::parts,a,r,h=>by
  simp only[lI]at h;split at h;have:=Qa h;grind;simp at h
theorem acv{own:Bool}{parts:List (Nat×AV)}(f:U=0\/own=ab):tT P own n u U parts=(tT P own L u U parts).map λr=>(r.1,n):=by
 unfold tT;split
 case h_2=>rfl
 case h_1 b g=>
 split
 case isFalse=>rfl
 case isTrue d=>
 split
 case h_2=>rfl
 case h_1 i h=>
 split
 case isFalse=>rfl
 case isTrue e=>
 split
 case h_2=>rfl
 case h_1 c a=>
 have:=Qa a;grind
theorem acw(b:∀a∈B.op.operands,l G n a=l G L a)(d:aC P A cH B=.pure):aW P G A n B.dst B.op=jA n (aW P G A L B.dst B.op):=by
 unfold aC at d;generalize J:B.op=op at b d⊢;cases op<;>simp only[Op.operands,reduceCtorEq]at b d
 case move a=>simp[aW,jA,b]
 case pick f t q=>
  simp[aW,jA,b];grind
 case build e j=>
  have:(j.toList.map λc=>(c.1,l G n c.2))=j.toList.map λc=>(c.1,l G L c.2):=sP λc p=>by
   rw[b c.2 (by simp;exact⟨c.1,by simpa using p⟩)]
  simp only[aW,fT,jA,this,tP];rfl
 case binOp q e a O K=>simp[aW,fT,jA,b]<;>rfl
 case unOp M e a=>simp[aW,fT,jA,b]<;>rfl
 case convert t q a=>simp[aW,fT,jA,b]<;>rfl
 case makeInterface e a=>
  simp[aW,jA,b];grind
 case makeFunc u first cap=>
  have v:first.toList.map (λa=>(l G n a).pl)=first.toList.map (λa=>(l G L a).pl):=sP λa i=>by rw[b a (by simp[E8.1 i])]
  have w:cap.toList.map (λa=>(l G n a).pl)=cap.toList.map (λa=>(l G L a).pl):=sP λa i=>by rw[b a (by simp[E8.1 i])]
  simp only[aW,jA,v,w];grind
 case field e a u=>simp[aW,fT,jA,b]<;>rfl
 case index e a C=>simp[aW,fT,jA,b]<;>rfl
 case extract a C=>
  simp[aW,jA,b];grind
 case typeAssert a N e ok=>
  simp[aW,jA,b];grind
 case assign a=>
  split at d;simp at d;rename_i o;simp only[aW,jA];grind
 case box E a=>
  split at d;simp at d;rename_i o;split at d;simp at d;rename_i I;simp at b;simp only[aW,jA,b];grind
 case buildSlice e s j=>
  split at d;simp at d;rename_i o;have:(j.toList.map λc=>(c.1,l G n c.2))=j.toList.map λc=>(c.1,l G L c.2):=sP λc p=>by
   rw[b c.2 (by simp;exact⟨c.1,by simpa using p⟩)]
  have z:s=0\/(B.dst.any λa=>y (a∈A.own))=false:=by
   by_cases k:s=0;exact .inl k;exact .inr (by simpa usingλh=>o ⟨k,h⟩)
  simp only[aW,jA,this];exact acv z
 case call f=>
  have m:f.args.toList.map (l G n)=f.args.toList.map (l G L):=sP λa i=>b a (by
   simp only[Call.operands];split<;>simp[E8.1 i])
  split at d
  ·rename_i g
   simp only[aW,g,m];unfold kq jA;split;rename_i D a H x F;simp only[tP];have r:Ba P f.argTypes=.pure:=d;unfold Ba at r;have k:f.argTypes[0]?=aa D:=by
    have:=congrArg List.toArray x;simp at this;rw[this]<;>rfl
   simp only[k,CG]at r;unfold l8;grind
   all_goals grind
  rename_i g;simp only[aW,g,m];unfold kq jA;split<;>first|grind|(simp[tP]<;>rfl)
  rename_i g;simp only[aW,g,m];unfold kq jA;split<;>first|grind|(simp[tP]<;>rfl)
  simp at d;grind
 grind
theorem acx(a:∀b∈B.op.operands,l G n b=l G L b)(e:n.hp=L.hp)(C:∀c,o6 o B L c->look c n.bx=look c L.bx)(d:aC P A cH B=.rd):aW P G A n B.dst B.op=jA n (aW P G A L B.dst B.op):=by
 have f:∀b∈B.op.operands,∀c off,l G L b=.lp c off->look c n.bx=look c L.bx:=by grind[o6.of]
 unfold aC at d;generalize D:B.op=op at a d f⊢;cases op<;>simp only[Op.operands,reduceCtorEq]at a d f
 case load g b=>
  simp only[I7,b6,jN,or_false,forall_eq]at a f;simp only[aW,fT,jA,a,P8 e f,tP];rfl
 case nilCheck b=>
  simp only[I7,b6,jN,or_false,forall_eq]at a;simp only[aW,fT,jA,a];split;rfl;simp only[JZ e,tP]<;>rfl
 case fieldAddr g b u=>
  simp only[I7,b6,jN,or_false,forall_eq]at a;simp only[aW,fT,jA,a,aco e,tP]<;>rfl
 case indexAddr g b E=>
  simp at a;simp only[aW,fT,jA,a.1,a.2,acp e,tP]<;>rfl
 case lookup g s c ok=>
  simp at a;simp only[aW,fT,jA,a.1,a.2,acr e,tP]<;>rfl
 case slice g b i h t=>
  have k:=a b (by simp);cases t with
  |some s=>
   simp only[aW,jA,k];grind
  |none=>
  have r:i.map (l G n)=i.map (l G L):=by
   rcases i with _|y;rfl;grind
  have q:h.map (l G n)=h.map (l G L):=by
   rcases h with _|y;rfl;grind
  simp only[aW,jA,k,r,q];grind[acs]
 case call j=>
  have m:j.args.toList.map (l G n)=j.args.toList.map (l G L):=by simp_all[Call.operands]
  split at d
  ·rename_i p
   simp only[aW,p,m];unfold kq jA;split;simp only[P9 e,tP]<;>rfl
   all_goals grind
  simp at d;simp at d;simp at d;rename_i v w x z;simp only[aW];rfl
 case assign=>grind
 case buildSlice=>grind
 case alloc=>grind
 grind
def ny(a:AS)(r:Option (AV×AS)):Option (AV×AS):=r.map λr=>(r.1,{r.2 with env:=a.env})
theorem acy{c a:AV}(d:n.hp=L.hp)(f:n.bx=L.bx):o1 P n u c a=ny n (o1 P L u c a):=by
 have e:∀b,o0 n b a=o0 L b a:=by intro b;unfold o0;simp only[d]
 unfold o1 ny;simp only[e,d]
 repeat' split
 all_goals grind
theorem Qb(a:∀x∈B.op.operands,l G n x=l G L x)(b:n.hp=L.hp)(e:n.bx=L.bx)(d:aC P A cH B=.jd):aW P G A n B.dst B.op=ny n (aW P G A L B.dst B.op):=by
 unfold aC at d;generalize v:B.op=op at a d⊢;cases op<;>simp only[Op.operands,reduceCtorEq]at a d
 case assign x=>
  simp only[aW,ny];split;grind;simp[a];cases n;grind
 case buildSlice c y j=>
  have:(j.toList.map λf=>(f.1,l G n f.2))=j.toList.map λf=>(f.1,l G L f.2):=by grind[List.map_congr_left]
  simp only[aW,ny,this];unfold tT;simp only[b]
  repeat' split
  all_goals first|rfl|(simp[e];done)|(simp_all;done)|(cases n;simp_all)
 case alloc o=>
  split at d;simp at d;rename_i q;simp only[aW,ny];grind
 case box o x=>
  split at d;simp at d;rename_i q;split at d;rename_i u;simp at a;simp only[aW,ny,a];grind;grind
 case makeMap c r=>
  have t:zj P G n c r=zj P G L c r:=by
   rcases r with _|x;rfl;simp only[zj,a x (by simp)]
  simp only[aW,ny];grind
 case makeSlice c w g=>
  simp at a;simp only[aW,ny,a.1,a.2];unfold zg;simp only[b]
  repeat' split
  all_goals grind
 case store c x D=>
  simp at a;simp only[aW,ny,a.1,a.2];unfold vZ;simp only[b,e]
  repeat' split
  all_goals grind
 case mapUpdate c h i k=>
  simp at a;simp only[aW,ny,a.1,a.2.1,a.2.2];unfold xM;simp only[b]
  repeat' split
  all_goals grind
 case insert c h i k=>
  simp at a;simp only[aW,ny,a.1,a.2.1,a.2.2];unfold xM;simp only[b]
  repeat' split
  all_goals grind
 case mapEntry c h i=>
  simp at a;simp only[aW,ny,a.1,a.2];unfold zi;simp only[b]
  repeat' split
  all_goals first|rfl|(simp[e];done)|(simp_all;done)|(cases n;simp_all)
 case entryStore c h C k=>
  simp at a;simp only[aW,ny,a.1,a.2.1,a.2.2];unfold AU;simp only[b]
  repeat' split
  all_goals grind
 case call g=>
  have p:g.args.toList.map (l G n)=g.args.toList.map (l G L):=by simp_all[Call.operands]
  simp only[aW,ny];split
  ·rename_i m s
   simp only[p];unfold kq;split;simp only[P9 b,tP]
   congr 1
   funext z
   cases n;simp_all
   ·split
    exact acy b e
    ·unfold tU
     simp only[b]
     repeat' split
     all_goals first|rfl|(simp[e];done)|(simp_all;done)|(cases n;simp_all)
   ·repeat' split
    all_goals first|rfl|(simp[e];done)|(simp_all;done)|(cases n;simp_all)
   ·unfold AX
    simp only[b]
    repeat' split
    all_goals first|rfl|(simp[e];done)|(simp_all;done)|(cases n;simp_all)
   ·unfold AW
    simp only[b]
    repeat' split
    all_goals first|rfl|(simp[e];done)|(simp_all;done)|(cases n;simp_all)
   grind;grind;rfl
  rfl
 case range c x=>
  simp only[I7,b6,jN,or_false,forall_eq]at a;simp only[aW,ny,a,b,sU];split;rw[tP]
  congr 1
  grind;rfl
 case next x m=>
  simp only[I7,b6,jN,or_false,forall_eq]at a;simp only[aW,ny,a,b,sU];split;rw[tP]
  congr 1
  grind;rfl
 all_goals first|rfl|(simp at d;done)
end
section
variable{P:Program}{G:Nat->Option (List AV)}{An:Nat->bS}{X:fu}{A:bS}
variable(P G An X)in
 inductive er(hc:Oper->Bool)(A:bS)(ops:Array Oper)(o:Oper)(s:AS):AS->Prop
 |skip (hw:gh ops s o=aa ab):er hc A ops o s (gn o.dst (.aB [],s))
 |op (r:AV×AS) (hw:gh ops s o=aa ad) (ho:aW P G A s o.dst o.op=aa r):er hc A ops o s (gn o.dst r)
 |uX (c:Call) (f:Nat) (m:Md) (args args':List AV) (r0 r:AV) (hp0:List Obj) (hh:hc o=ab) (hw:gh ops s o=aa ad) (ho:o.op=.call c) (hcl:jc P G s c=aa (f,args))
  (hm:m≠.res) (ha:qz s m args args') (hr:k5 P G An X f args' [] r0 hp0) (hs:aM hp0 .res r0 r) (hn:m=.cd->NB r):er hc A ops o s (gn o.dst (r,s))
 |uY (c:Call) (f:Nat) (args:List AV) (r:AV) (hp':List Obj) (hh:hc o=ad) (hw:gh ops s o=aa ad) (ho:o.op=.call c) (hcl:jc P G s c=aa (f,args))
  (hr:k5 P G An X f (args.map AV.pl) s.hp r hp'):er hc A ops o s (gn o.dst (r.pl,{s with hp:=hp'}))
theorem er.cons(h:er P G An X cH A o B L n)(c:n4 P G An X A o lz n ki):n4 P G An X A o (B::lz) L ki:=by
 cases h with
 |skip a=>exact .skip _ _ _ _ _ _ a c
 |op r a b=>exact .op _ _ _ _ _ _ r a b c
 |uX d e t args i u r q k a b f l j g s m=>exact .uX _ _ _ _ _ _ d e t args i u r q a b f l j g s m c
 |uY d e args r p k a b f g=>exact .uY _ _ _ _ _ _ d e args r p a b f g c
theorem Bb(c b:K)(h:U≠N):∀a:List (Nat×K),put U c (put N b a)=put N b (put U c a)
 |[]=>by
  grind[put,absurd]
 |(e,w)::a=>by
  have d:=Bb c b h a;grind[put,absurd]
def jf(a:Nat):List (Nat×AV)->Bool
 |[]=>ad
 |(_,c)::b=> !c.gI a&&jf a b
theorem qF:∀{a:List (Nat×AV)},jf U a=ad->oY U a=a
 |[],_=>rfl
 |(b,c)::a,h=>by
  simp only[jf,ba,hv]at h;simp[oY,h.1,qF h.2]
theorem xV{c:AV}(b:c.gI U=ab):∀{a:List (Nat×AV)},jf U a=ad->jf U (put N c a)=ad
 |[],_=>by simp[put,jf,b]
 |(d,e)::a,h=>by
  simp only[jf,ba,hv]at h;simp only[put];split;grind[jf];split;grind[jf];simp[jf,h.1,xV b h.2]
theorem Bc{off:Nat}:∀{a:List (Nat×AV)},jf U a=ad->look N a≠aa (.lp U off)
 |[],_=>by simp[look]
 |(b,c)::a,h=>by
  simp only[jf,ba,hv]at h;simp only[look];split;grind[AV.gI];exact Bc h.2
theorem A1.ag{b c:AV}(g:n.hp=L.hp)(f:∀a off,b=.lp a off->look a n.bx=look a L.bx)(h:A1 L dd b c):A1 n dd b c:=by
 cases h with
 |of _ _ _ h=>exact .of _ _ _ (by grind)
 |lp a off d e i h=>exact .lp a off d e (by grind) (by grind)
theorem qz.ag(e:n.hp=L.hp):∀{a bs:List AV},(∀c∈a,∀b off,c=.lp b off->look b n.bx=look b L.bx)->qz L dd a bs->qz n dd a bs
 |_,_,_,.nil=>.nil
 |_,_,d,.cons _ _ _ _ h g=>.cons _ _ _ _ (h.ag e (d _ (by simp))) (qz.ag e (λc f=>d c (by simp[f])) g)
theorem Qc(d:∀a∈dV.operands,l G n a=l G L a)(h:n.hp=L.hp):jc P G n dV=jc P G L dV:=by
 have e:dV.args.toList.map (l G n)=dV.args.toList.map (l G L):=sP λa k=>d a (by
  simp only[Call.operands];split<;>simp[E8.1 k])
 unfold jc;cases f:dV.callee with
 |value o=>
  grind[Call.operands]
 |invoke r name=>
  have g:=d r (by simp[Call.operands,f]);simp only[e,g];cases p:l G L r with
  |iface s c=>
   have j:∀b,oZ P n b c.pl=oZ P L b c.pl:=λb=>P8 h (λq off i=>by cases c<;>simp[AV.pl]at i);simp only[j]
  |_=>rfl
 |builtin m=>rfl
theorem Qd{a:AV}{off:Nat}:a.pl≠.lp U off:=by cases a<;>simp[AV.pl]
theorem acz{args:List AV}(h:jc P G L dV=aa (U,args)){a:AV}(d:a∈args){off:Nat}(c:a=.lp N off):∃b∈dV.operands,l G L b=.lp N off:=by
 have j:∀a∈dV.args.toList.map (l G L),a=.lp N off->∃b∈dV.operands,l G L b=.lp N off:=by
  intro a d c;obtain⟨b,i,rfl⟩:=cy.1 d;refine⟨b,?_,c⟩;simp only[Call.operands];split<;>simp[E8.1 i]
 have k:∀(f:List AV),a∈f.map AV.pl->False:=by
  intro f g;let⟨m,_,e⟩:=cy.1 g;rw[c]at e;exact Qd e
 unfold jc at h;split at h;grind
 ·split at h
  case h_2=>simp at h
  grind[Option.some.injEq,Prod.mk.injEq,Qd]
 simp at h
def et(a:Option Tmp)(c:AV)(b:AS):AS:=gn a (c,b)
theorem rQ(a:Option Tmp)(c:AV)(b:AS):(et a c b).hp=b.hp:=by cases a<;>rfl
theorem rR(a:Option Tmp)(c:AV)(b:AS):(et a c b).bx=b.bx:=by cases a<;>rfl
theorem J0(a:Option Tmp)(c:AV)(b:AS)(hp:List Obj)(bx:List (Nat×List AV)):et a c {b with hp:=hp,bx:=bx}={et a c b with hp:=hp,bx:=bx}:=by cases a<;>rfl
theorem wj(d:Option Tmp)(b:AV)(a:AS)(h:d≠aa U):look U (et d b a).env=look U a.env:=by
 rcases d with _|d;rfl;simp only[et,gn,fQ];grind
theorem FM{d e:Option Tmp}(b a:AV)(f:AS)(h:∀c,d=aa c->e≠aa c):et d b (et e a f)=et e a (et d b f):=by
 rcases d with _|d;rfl;rcases e with _|e;rfl;have g:d≠e:=λi=>h d rfl (by rw[i]);simp only[et,gn];rw[Bb b a g]
theorem acA{op:BinOp}{a:AV}(h:kp op rj f ca=aa a)(b:Nat):a.gI b=false:=by
 unfold kp at h;split at h<;>first|(simp at h;subst h;rfl)|(split at h<;>simp at h;subst h;rfl)|simp at h
theorem acB{op:BinOp}{b c:List UInt8}{a:AV}(h:v8 op b c=aa a)(d:Nat):a.gI d=false:=by
 unfold v8 at h;split at h<;>first|(simp at h;subst h;rfl)|simp at h
theorem acC{op:BinOp}{c d b:AV}(h:tS P op u c d=aa b)(a:Nat):b.gI a=false:=by
 unfold tS at h;split at h;split at h;split at h<;>simp at h;subst h;rfl
 split at h<;>simp at h;subst h;rfl
 grind[acA];exact acB h a;split at h<;>simp at h<;>subst h<;>rfl
 split at h;split at h;split at h<;>simp at h<;>subst h<;>rfl
 simp at h;simp at h;split at h<;>simp at h
 subst h;rfl;simp at h
theorem sY(a:AV)(b:Nat):a.pl.gI b=false:=by cases a<;>rfl
theorem J1{a b:AV}(h:mM L U a=aa b)(c:b.gI N=ad):∃off,a=.lp N off:=by
 cases a<;>simp[mM]at h
 grind[AV.gI];grind[AV.gI];grind[AV.gI]
theorem Qe{c a:AV}(h:l8 P L u c=aa a)(b:Nat):a.gI b=false:=by
 unfold l8 at h;split at h<;>first|(simp at h;subst h;rfl)|(split at h<;>simp at h;subst h;rfl)|simp at h
theorem acD{e a:AV}{d b:Option AV}(h:nt P L u e d b=aa (a,n))(c:Nat):a.gI c=false:=by
 unfold nt at h
 repeat' split at h
 all_goals first|(simp at h;done)|(simp at h;rw[<-h.1]<;>rfl)
theorem acE{e:AV}(c:aC P A cH B=.pure\/aC P A cH B=.rd)(h:aW P G A L B.dst B.op=aa (e,n))(w:e.gI U=ad):o6 o B L U:=by
 have no:e.gI U=ab->o6 o B L U:=by grind
 unfold aC at c;generalize v:B.op=op at h c;have z:∀a∈op.operands,∀off,l G L a=.lp U off->o6 o B L U:=by grind[o6.of]
 cases op<;>simp only[reduceCtorEq,or_self,or_false,false_or]at c
 case move a=>simp[aW]at h;grind[sY]
 case assign a=>
  simp only[aW]at h;split at h;split at h<;>simp at h<;>exact no (by rw[<-h.1]<;>rfl)
  simp at h;exact no (by rw[<-h.1];exact sY _ _)
 case pick j i d=>
  simp only[aW]at h;grind[sY]
 case build b r=>
  simp only[aW]at h;let⟨h,_⟩:=lK h;apply no;unfold zf at h;split at h;split at h;simp only[dq]at h;obtain⟨_,_,rfl⟩:=h;rfl;simp at h;split at h;simp only[dq]at h;obtain⟨_,_,rfl⟩:=h;rfl;simp at h;simp at h
 case buildSlice b E r=>
  apply no;simp only[aW]at h;unfold tT at h;split at h;split at h;split at h;split at h;split at h;split at h;simp at h;rw[<-h.1]<;>rfl
  split at h<;>simp at h<;>rw[<-h.1]<;>rfl
  simp at h;simp at h;simp at h;simp at h;simp at h
 case load b a=>
  simp only[aW]at h;let⟨h,_⟩:=lK h;simp only[dq]at h;grind[sY]
 case nilCheck a=>
  simp only[aW]at h;split at h;simp at h;exact no (by rw[<-h.1]<;>rfl);let⟨h,_⟩:=lK h;grind[J1,Op.operands]
 case fieldAddr b a f=>
  simp only[aW]at h;let⟨h,_⟩:=lK h;unfold v7 at h;grind[J1,Op.operands]
 case indexAddr b a g=>
  simp only[aW]at h;let⟨h,_⟩:=lK h;unfold rN at h;split at h;grind[J1,Op.operands];split at h;split at h;split at h;split at h<;>simp at h;exact no (by rw[<-h]<;>rfl)
  simp at h;simp at h;split at h;split at h;split at h<;>simp at h;exact no (by rw[<-h]<;>rfl)
  simp at h;simp at h;simp at h;simp at h
 case binOp d b a J F=>
  simp only[aW]at h;grind[lK,acC]
 case unOp H b a=>
  simp only[aW]at h;let⟨h,_⟩:=lK h;apply no;unfold nw at h;split at h<;>simp at h<;>subst h<;>rfl
 case convert i d a=>
  simp only[aW]at h;let⟨h,_⟩:=lK h;apply no;unfold xJ at h;split at h;simp at h;subst h;rfl;simp at h;subst h;rfl;split at h;split at h<;>simp at h;subst h;rfl
  simp at h;simp at h
 case makeInterface b a=>
  simp only[aW]at h;apply no;split at h<;>simp at h;rw[<-h.1]<;>rfl
 case makeFunc f first cap=>
  simp only[aW]at h;apply no;split at h<;>simp at h;rw[<-h.1]<;>rfl
 case field b a f=>
  simp only[aW]at h;let⟨h,_⟩:=lK h;simp only[dq]at h;grind[sY]
 case index b a g=>
  simp only[aW]at h;let⟨h,_⟩:=lK h;simp only[dq]at h;grind[sY]
 case lookup b C x ok=>
  simp only[aW]at h;let⟨h,_⟩:=lK h;simp only[dq]at h;grind[sY]
 case extract a g=>
  simp only[aW]at h;grind[sY]
 case typeAssert a I b ok=>
  simp only[aW]at h;grind[sY]
 case slice b a y t D=>
  simp only[aW]at h;split at h;split at h<;>simp at h;exact no (by rw[<-h.1]<;>rfl)
  split at h;grind[acD];cases h
 case call j=>
  simp only[aW]at h;split at h;rename_i d m;unfold kq at h;rw[m]at c;split at h;simp only[dq,eG]at h;grind[Qe];simp at c;simp at c;simp at c;simp at c;simp only[dq,eG]at h;obtain⟨_,h,rfl,_⟩:=h;obtain⟨_,_,_,_,_,rfl⟩:=Pn h;exact no rfl;simp only[dq,eG]at h;obtain⟨_,h,rfl,_⟩:=h;obtain⟨_,_,_,_,_,rfl⟩:=Po h;exact no rfl;simp at h;simp at h
 case alloc=>grind
 case box s a=>
  split at c;simp at c;rename_i q;simp only[aW]at h;split at h;rename_i k p;have u:k∉A.lb:=by simpa[p]using q
  split at h
  skip
  split at h;grind;injection h with h;injection h with h _;exact no (by rw[<-h]<;>rfl);simp at h;simp at h
 all_goals simp[aW]at h
theorem Qf{c a:AV}(h:aM M dd c a)(b:Nat):a.gI b=false:=by
 cases h<;>rfl
theorem pP(h:er P G An X cH A o B L n)(k:aC P A cH B=.pure\/aC P A cH B=.rd):
 ∃g,n=et B.dst g L/\(∀a,Ag o B L a->(aC P A cH B=.pure\/a.hp=L.hp/\∀b,o6 o B L b->look b a.bx=look b L.bx)->er P G An X cH A o B a (et B.dst g a))/\∀b,g.gI b=ad->o6 o B L b:=by
 cases h with
 |skip j=>exact⟨.aB [],rfl,λa d _=>.skip (by rw[d.wanted];exact j),λb x=>by cases x⟩
 |op r j f=>
  let⟨g,N⟩:=r;have key:∀a,Ag o B L a->(aC P A cH B=.pure\/a.hp=L.hp/\∀b,o6 o B L b->look b a.bx=look b L.bx)->aW P G A a B.dst B.op=aa (g,a):=by
   intro a d c;rcases k with k|k;rw[acw d.op k,f]<;>rfl
   rcases c with c|c;grind;rw[acx (o:=o) d.op c.1 c.2 k,f]<;>rfl
  have m:=key L (λ_ _=>rfl) (by grind);rw[f]at m;simp at m;subst m;exact⟨g,rfl,λa d c=>.op (g,a) (by rw[d.wanted];exact j) (key a d c),by grind[acE]⟩
 |uX p s E args v F r C t j f e y w u m z=>
  refine⟨r,rfl,λa d c=>?_,by grind[Qf]⟩;have I:B.op.operands=p.operands:=by rw[f]<;>rfl
  have D:aC P A cH B≠.pure:=by
   unfold aC;rw[f];simp only;split;rename_i i;unfold jc at e;rw[i]at e;simp at e;rename_i i;unfold jc at e;rw[i]at e;simp at e;rename_i i;unfold jc at e;rw[i]at e;simp at e;simp;split<;>simp
  have c:=c.resolve_left D;have H:∀q∈p.operands,l G a q=l G L q:=λq M=>d.op q (by grind);refine .uX p s E args v F r C t (by rw[d.wanted];exact j) f (by grind[Qc]) y (qz.ag c.1 (λg K b off i=>?_) w) u m z;grind[acz,o6.of]
 |uY p s args r J t j f e u=>
  grind[aC,jc]
theorem Qg{c:AV}(b:aC P A cH B=.jd)(h:aW P G A L B.dst B.op=aa (c,n)):n.env=L.env:=by
 have:=Qb (P:=P) (G:=G) (A:=A) (cH:=cH) (B:=B) (L:=L) (n:=L) (λ_ _=>rfl) rfl rfl b;rw[h]at this;simp[ny]at this;have a:=congrArg AS.env this;exact a
theorem FN(h:er P G An X cH A o B L n)(F:aC P A cH B≠.box):
 ∃b g k,n=et B.dst b {L with hp:=g,bx:=k}/\∀a,Ag o B L a->a.hp=L.hp->a.bx=L.bx->er P G An X cH A o B a (et B.dst b {a with hp:=g,bx:=k}):=by
 have rd:(aC P A cH B=.pure\/aC P A cH B=.rd)->∃b g k,n=et B.dst b {L with hp:=g,bx:=k}/\∀a,Ag o B L a->a.hp=L.hp->a.bx=L.bx->er P G An X cH A o B a (et B.dst b {a with hp:=g,bx:=k}):=by
  intro z;let⟨b,v,p,_⟩:=pP h z;refine⟨b,L.hp,L.bx,v,λa d e f=>?_⟩;have:=p a d (.inr ⟨e,λQ _=>by rw[f]⟩);rw[<-e,<-f];exact this
 cases u:aC P A cH B with
 |pure=>grind
 |rd=>grind
 |box=>grind
 |jd=>
  cases h with
  |skip j=>exact⟨.aB [],L.hp,L.bx,rfl,λa d e f=>by rw[<-e,<-f];exact .skip (by rw[d.wanted];exact j)⟩
  |op r j i=>
   let⟨b,c⟩:=r;have t:=Qg u i;refine⟨b,c.hp,c.bx,?_,λa d e f=>?_⟩;have:c={L with hp:=c.hp,bx:=c.bx}:=by cases c;simp at t;simp[t]
   rw[<-this]<;>rfl
   have p:=Qb (G:=G) (A:=A) d.op e f u;rw[i]at p;have w:aW P G A a B.dst B.op=aa (b,{a with hp:=c.hp,bx:=c.bx}):=by rw[p]<;>rfl
   exact .op (b,{a with hp:=c.hp,bx:=c.bx}) (by rw[d.wanted];exact j) w
  |uX m s R args C S r M e j i x I E y N J=>
   grind[aC,jc]
  |uY m s args r g e j i x y=>
   refine⟨r.pl,g,L.bx,rfl,λa d H f=>?_⟩;have K:B.op.operands=m.operands:=by rw[i]<;>rfl
   have D:∀q∈m.operands,l G a q=l G L q:=λq O=>d.op q (by grind);have:=er.uY (P:=P) (G:=G) (An:=An) (X:=X) (A:=A) (ops:=o) (o:=B) (s:=a) m s args r g e (by rw[d.wanted];exact j) i (by grind[Qc]) (by grind);rw[<-f];exact this
theorem zq(h:er P G An X cH A o B L n)(e:aC P A cH B=.box)(C:B.guard=ae):
 ∃a g,B.dst=aa a/\n={env:=put a (.lp a 0) (oY a L.env),bx:=put a g L.bx,hp:=L.hp}/\∀b,Ag o B L b->er P G An X cH A o B b {env:=put a (.lp a 0) (oY a b.env),bx:=put a g b.bx,hp:=b.hp}:=by
 have m:∀b,gh o b B=aa true:=by grind[gh]
 cases h with
 |skip j=>grind
 |op r j c=>
  unfold aC at e;generalize F:B.op=op at e c;cases op<;>simp only[reduceCtorEq]at e
  case alloc q=>
   split at e;rename_i i;simp only[aW]at c;split at c;rename_i g a M d;have v:a∈A.lb:=by simpa[d]using i
   split at c;rename_i x;simp at c;subst c;refine⟨a,g,d,by simp[gn,d],λb k=>?_⟩;have:=er.op (P:=P) (G:=G) (An:=An) (X:=X) (hc:=cH) (A:=A) (ops:=o) (o:=B) (s:=b) (.lp a 0,{env:=oY a b.env,bx:=put a g b.bx,hp:=b.hp}) (m b) (by simp_all[aW]);grind[gn];grind;grind;grind
  case box q f=>
   split at e;rename_i i;simp only[aW]at c;split at c;rename_i a d;have v:a∈A.lb:=by simpa[d]using i
   split at c;rename_i x;simp at c;subst c;refine⟨a,(l G L f).pl.cells,d,by simp[gn,d],λb k=>?_⟩;have K:l G b f=l G L f:=k.op f (by grind[Op.operands]);have:=er.op (P:=P) (G:=G) (An:=An) (X:=X) (hc:=cH) (A:=A) (ops:=o) (o:=B) (s:=b) (.lp a 0,{env:=oY a b.env,bx:=put a (l G L f).pl.cells b.bx,hp:=b.hp}) (m b) (by simp_all[aW]);grind[gn];grind;grind;grind
  case assign=>grind
  case buildSlice=>grind
  grind[Ba]
 |uX p s N args y O r I u j c t D z w J E=>
  grind[aC,Ba]
 |uY p s args r H u j c t w=>
  grind[aC,Ba]
def wk(P:Program)(A:bS)(c:Oper->Bool)(d:Array Oper)(a b:Oper):Bool:=
 Oper.apart d a b&&
 match aC P A c a,aC P A c b with
 |.pure,.box=>b.guard.isNone
 |.rd,.box=>b.guard.isNone
 |.box,.pure=>a.guard.isNone
 |.box,.rd=>a.guard.isNone
 |.box,.box=>a.guard.isNone&&b.guard.isNone
 |.pure,_=>ad
 |_,.pure=>ad
 |.rd,.rd=>ad
 |_,_=>ab
def zr(P:Program)(A:bS)(c:Oper->Bool)(b:Oper)(d:AS):Prop:=aC P A c b=.box->∀a,b.dst=aa a->jf a d.env=ad
theorem FO{c:Oper}(h:∀a,B.dst=aa a->a∉c.looksAt o)(d:AV)(b:AS):Ag o c b (et B.dst d b):=λf e=>
 by grind[wj]
theorem Ag.symm(h:Ag o B L n):Ag o B n L:=λb a=>(h b a).symm
theorem swap{b:Oper}(r:er P G An X cH A o B L n)(p:er P G An X cH A o b n ki)(C:wk P A cH o B b=ad)(F:zr P A cH B L)(H:zr P A cH b L):
 ∃d,er P G An X cH A o b L d/\er P G An X cH A o B d ki:=by
 unfold wk at C;rw[ba]at C;let⟨Q,am⟩:=C;let⟨y,ah,ai⟩:=Oper.apart_spec Q;have plain:aC P A cH B≠.box->aC P A cH b≠.box->(aC P A cH B=.pure\/aC P A cH b=.pure\/aC P A cH B=.rd/\aC P A cH b=.rd)->∃d,er P G An X cH A o b L d/\er P G An X cH A o B d ki:=by
  intro Z ac T;rcases T with hp|hp|⟨hp,v⟩;obtain⟨k,rfl,i,_⟩:=pP r (.inl hp);obtain⟨h,M,E,rfl,j⟩:=FN p ac;refine⟨_,j L (FO y k L).symm (by rw[rQ]) (by rw[rR]),?_⟩;have:=i (et b.dst h {L with hp:=M,bx:=E}) (λc f=>by grind[wj]) (.inl hp);grind[FM,J0];obtain⟨k,M,E,rfl,i⟩:=FN r Z;obtain⟨h,rfl,j,_⟩:=pP p (.inl hp);refine⟨_,j L (λc f=>by grind[wj]) (.inl hp),?_⟩
  have:=i (et b.dst h L) (λc f=>by grind[wj]) (by rw[rQ]) (by rw[rR]);grind[J0,FM];obtain⟨k,rfl,i,_⟩:=pP r (.inr hp);obtain⟨h,rfl,j,_⟩:=pP p (.inr v);refine⟨_,j L (FO y k L).symm (by grind[rQ,rR]),?_⟩;have:=i (et b.dst h L) (λc f=>by grind[wj]) (by grind[rQ,rR]);grind[FM]
 have aj:aC P A cH B=.box->B.guard=ae->(aC P A cH b=.pure\/aC P A cH b=.rd)->∃d,er P G An X cH A o b L d/\er P G An X cH A o B d ki:=by
  intro l t v;obtain⟨a,m,s,rfl,i⟩:=zq r l t;have g:=F l a s;rw[qF g]at p;obtain⟨h,rfl,j,D⟩:=pP p v;have K:∀c∈b.looksAt o,look c (put a (AV.lp a 0) L.env)=look c L.env:=by grind[fQ]
  have u:∀c,o6 o b {env:=put a (AV.lp a 0) L.env,bx:=put a m L.bx,hp:=L.hp} c->c≠a:=by
   rintro c ⟨N,J,off,x⟩ rfl;rw[K N J]at x;exact Bc g x
  have U:h.gI a=false:=by
   cases z:h.gI a
   rfl;exact absurd rfl (u a (D a z))
  refine⟨_,j L (λc f=>(K c f).symm) (.inr ⟨rfl,λc f=>by rw[fQ,if_neg (u c f)]⟩),?_⟩;have:=i (et b.dst h L) (λc f=>by grind[wj]);have q:jf a (et b.dst h L).env=true:=by
   rcases Y:b.dst with _|e;exact g;exact xV U g
  rw[qF q,rR,rQ]at this;have e:({env:=put a (.lp a 0) (et b.dst h L).env,bx:=put a m L.bx,hp:=L.hp}:AS)=et b.dst h {env:=put a (.lp a 0) L.env,bx:=put a m L.bx,hp:=L.hp}:=by
   rcases Y:b.dst with _|e;rfl;grind[et,gn,Bb]
  rw[e]at this;exact this
 have af:aC P A cH b=.box->b.guard=ae->(aC P A cH B=.pure\/aC P A cH B=.rd)->∃d,er P G An X cH A o b L d/\er P G An X cH A o B d ki:=by
  intro l t v;obtain⟨k,rfl,i,D⟩:=pP r v;obtain⟨a,m,s,rfl,j⟩:=zq p l t;have g:=H l a s;have u:∀c,o6 o B L c->c≠a:=by
   rintro c ⟨N,J,off,x⟩ rfl;exact Bc g x
  have V:k.gI a=false:=by
   cases z:k.gI a
   rfl;exact absurd rfl (u a (D a z))
  have q:jf a (et B.dst k L).env=true:=by
   rcases W:B.dst with _|e;exact g;exact xV V g
  have O:=j L (FO y k L).symm;refine⟨_,O,?_⟩;rw[qF q,rR,rQ];rw[qF g];have:=i {env:=put a (.lp a 0) L.env,bx:=put a m L.bx,hp:=L.hp} (λc f=>by grind[fQ]) (.inr ⟨rfl,λc f=>by rw[fQ,if_neg (u c f)]⟩);have e:({env:=put a (.lp a 0) (et B.dst k L).env,bx:=put a m L.bx,hp:=L.hp}:AS)=et B.dst k {env:=put a (.lp a 0) L.env,bx:=put a m L.bx,hp:=L.hp}:=by
   rcases W:B.dst with _|e;rfl;grind[et,gn,Bb]
  rw[e];exact this
 have ak:aC P A cH B=.box->aC P A cH b=.box->B.guard=ae->b.guard=ae->∃d,er P G An X cH A o b L d/\er P G An X cH A o B d ki:=by
  intro l I t S;obtain⟨a,m,s,rfl,i⟩:=zq r l t;obtain⟨e,w,R,rfl,j⟩:=zq p I S;have g:=F l a s;have q:=H I e R;have au:a≠e:=by grind
  refine⟨_,j L (λc f=>?_),?_⟩;rw[qF g];grind[fQ];have:=i {env:=put e (AV.lp e 0) (oY e L.env),bx:=put e w L.bx,hp:=L.hp} (λc f=>by
   rw[qF q];grind[fQ])
  simp only[qF g,qF q]at this⊢;have ax:jf a (put e (AV.lp e 0) L.env)=true:=xV (by grind[AV.gI]) g;have az:jf e (put a (AV.lp a 0) L.env)=true:=by grind[xV,AV.gI]
  simp_all[qF,Bb,CC]
 grind[Option.isNone_iff_eq_none]
theorem Qh{b d a:AV}(h:o1 P L u b d=aa (a,n))(c:Nat):a.gI c=false:=by
 unfold o1 at h
 repeat' split at h
 all_goals first|(simp at h;done)|(simp at h;rw[<-h.1]<;>rfl)
theorem acF{j:AV}(a:aC P A cH B=.jd)(h:aW P G A L B.dst B.op=aa (j,n))(p:Nat):j.gI p=false:=by
 unfold aC at a;generalize u:B.op=op at h a;cases op<;>simp only[reduceCtorEq]at a
 case assign c=>
  simp only[aW]at h;split at h;split at h<;>simp at h<;>rw[<-h.1]<;>rfl
  grind[sY]
 case buildSlice b x y=>
  simp only[aW]at h;unfold tT at h
  repeat' split at h
  all_goals first|(simp at h;done)|(simp at h;rw[<-h.1]<;>rfl)
 case alloc l=>
  split at a;simp at a;rename_i f;simp only[aW]at h;split at h;rename_i C d v e;have m:d∉A.lb:=by simpa[e]using f
  split at h;simp at h;rw[<-h.1]<;>rfl
  simp at h;simp at h
 case box l c=>
  split at a;simp at a;rename_i f;split at a;rename_i o;simp only[aW]at h;split at h;rename_i d e;have m:d∉A.lb:=by simpa[e]using f
  have t:d∈A.own:=by simpa[e]using o
  split at h;simp at h;rw[<-h.1]<;>rfl
  simp at h;simp at h;grind
 case makeMap b r=>
  simp only[aW]at h;split at h<;>simp at h;rw[<-h.1]<;>rfl
 case makeSlice b w k=>
  simp only[aW]at h;unfold zg at h
  repeat' split at h
  all_goals first|(simp at h;done)|(simp at h;rw[<-h.1]<;>rfl)
 case store b c z=>
  simp only[aW,dq,eG]at h;obtain⟨_,_,rfl,_⟩:=h;rfl
 case mapUpdate b i g c=>
  simp only[aW,dq,eG]at h;obtain⟨_,_,rfl,_⟩:=h;rfl
 case insert b i g c=>
  simp only[aW,dq,eG]at h;obtain⟨_,_,rfl,_⟩:=h;rfl
 case entryStore b i g c=>
  simp only[aW,dq,eG]at h;obtain⟨_,_,rfl,_⟩:=h;rfl
 case mapEntry b i g=>
  simp only[aW]at h;unfold zi at h
  repeat' split at h
  all_goals first|(simp at h;done)|(simp at h;rw[<-h.1]<;>rfl)
 case call k=>
  simp only[aW]at h;split at h
  ·unfold kq at h
   split at h;simp only[dq,eG]at h;grind[Qe]
   ·split at h
    grind[Qh]
    ·unfold tU at h
     repeat' split at h
     all_goals first|(simp at h;done)|(simp at h;rw[<-h.1]<;>rfl)
   split at h<;>simp at h
   rw[<-h.1]<;>rfl
   simp only[dq,eG]at h;obtain⟨_,_,rfl,_⟩:=h;rfl;simp only[dq,eG]at h;obtain⟨_,_,rfl,_⟩:=h;rfl;grind;grind;simp at h
  simp at h
 case range b c=>
  simp only[aW]at h;split at h;simp only[sU,dq,eG]at h;obtain⟨q,h,rfl,_⟩:=h;unfold wb at h;split at h<;>simp at h
  rw[<-h]<;>rfl
  simp at h
 case next c s=>
  simp only[aW]at h;split at h;simp only[sU,dq,eG]at h;obtain⟨q,h,rfl,_⟩:=h;unfold tX at h;split at h;split at h;split at h<;>simp at h<;>rw[<-h]<;>rfl
  simp at h;simp at h;simp at h
 all_goals simp[aW]at h
theorem Qi(i:er P G An X cH A o B L n)(u:aC P A cH B=.box->B.guard=ae)(I:B.dst≠aa U)(d:jf U L.env=ad):jf U n.env=true:=by
 have put:∀(a:AV)(b:List (Nat×AV))(hp:List Obj)(bx:List (Nat×List AV)),a.gI U=ab->jf U b=ad->jf U (et B.dst a {env:=b,bx:=bx,hp:=hp}).env=true:=by
  intro a b hp bx z e;rcases Q:B.dst with _|k;exact e;exact xV z e
 cases c:aC P A cH B with
 |pure=>
  obtain⟨a,rfl,_,l⟩:=pP i (.inl c);refine put a _ _ _ ?_ d;cases j:a.gI U
  rfl;let⟨D,_,off,w⟩:=l U j;grind[absurd,Bc]
 |rd=>
  obtain⟨a,rfl,_,l⟩:=pP i (.inr c);refine put a _ _ _ ?_ d;cases j:a.gI U
  rfl;let⟨D,_,off,w⟩:=l U j;grind[absurd,Bc]
 |box=>
  obtain⟨b,V,e,rfl,_⟩:=zq i c (u c);have M:b≠U:=by grind
  have hp:∀f:List (Nat×AV),jf U f=ad->jf U (oY b f)=true:=by
   intro f;induction f with
   |nil=>intro _;rfl
   |cons E f C=>
    let⟨k,T⟩:=E;intro h;simp only[jf,ba,hv]at h;simp only[oY,jf,ba,hv];refine⟨?_,C h.2⟩;split;rfl;exact h.1
  grind[xV,AV.gI]
 |jd=>
  cases i with
  |skip m=>exact put _ _ _ _ rfl d
  |op r m g=>
   let⟨a,p⟩:=r;have e:=Qg c g;have:=put a p.env p.hp p.bx (acF c g U) (by rw[e];exact d);exact this
  |uX q s R args F S r O v m g t J H x y K=>exact put r _ _ _ (Qf y U) d
  |uY q s args r N v m g t x=>exact put r.pl _ _ _ (sY _ _) d
variable(P G An X A)in
 inductive qG(hc:Oper->Bool)(ops:Array Oper):List Nat->AS->AS->Prop
 |nil (s:AS):qG hc ops [] s s
 |cons (i:Nat) (o:Oper) (rest:List Nat) (s s1 s':AS) (ho:ops[i]?=aa o) (h:er P G An X hc A ops o s s1) (t:qG hc ops rest s1 s'):qG hc ops (i::rest) s s'
theorem qG.ops:∀{c:List Nat}{a b:AS},qG P G An X A cH o c a b->n4 P G An X A o (gJ o c) a b
 |_,_,_,.nil a=>.nil _ _ _
 |_,_,_,.cons f g d a j b e h i=>by
  have:gJ o (f::d)=g::gJ o d:=by simp[gJ,e]
  rw[this];exact h.cons (qG.ops i)
structure zs(P:Program)(A:bS)(hc:Oper->Bool)(ops:Array Oper):Prop where
 guard:∀(i:Nat)(o:Oper),ops[i]?=aa o->aC P A hc o=.box->o.guard=ae
 slot:∀(i j:Nat)(o o':Oper),ops[i]?=aa o->ops[j]?=aa o'->i≠j->aC P A hc o=.box->∀d,o.dst=aa d->o'.dst≠aa d
def ma(P:Program)(A:bS)(b:Oper->Bool)(e:Array Oper)(d:List Nat)(f:AS):Prop:=∀c∈d,∀a,e[c]?=aa a->zr P A b a f
def Qj(P:Program)(A:bS)(d:Oper->Bool)(a:Array Oper)(e f:Nat):Prop:=∀b c,a[e]?=aa b->a[f]?=aa c->wk P A d a b c=ad
theorem ma.step(c:zs P A cH o)(m:U∉bu)(g:o[U]?=aa B)(h:er P G An X cH A o B L n)(l:ma P A cH o bu L):ma P A cH o bu n:=by
 intro a f j i d b e;have p:a≠U:=λk=>m (k▸f);exact Qi h (c.guard U B g) (c.slot a U j B i g p d b e) (l a f j i d b e)
theorem Qk(n:zs P A cH o):∀{b l:List Nat}{c d:AS},U∉b->b.Nodup->(∀a∈b,Qj P A cH o U a)->ma P A cH o (U::b) c->qG P G An X A cH o (U::(b++l)) c d->qG P G An X A cH o (b++U::l) c d
 |[],_,_,_,_,_,_,_,h=>h
 |a::b,l,c,d,B,s,q,f,h=>by
  cases h with
  |cons _ i _ _ F _ g u y=>
   cases y with
   |cons _ j _ _ x _ e v z=>
    let⟨k,m,p⟩:=swap u v (q a (by simp) i j g e) (f U (by simp) i g) (f a (by simp) j e);have t:=k0.1 s;have C:a≠U:=by grind
    have r:ma P A cH o (U::b) k:=ma.step n (bu:=U::b) (U:=a) (by grind) e m (λw D=>f w (by
     grind))
    exact .cons a j _ c k d e m (Qk n (by grind) t.2 (by grind) r (.cons U i _ k x d g p z))
inductive pQ(c:Nat->Nat->Prop):List Nat->List Nat->Prop
 |nil:pQ c [] []
 |cons (i:Nat) (L α β:List Nat) (hα:∀a∈α,c i a) (h:pQ c L (α++β)):pQ c (i::L) (α++i::β)
theorem pQ.mem{d:Nat->Nat->Prop}:∀{b c:List Nat},pQ d b c->∀a,a∈c<->a∈b
 |_,_,.nil,a=>Iff.rfl
 |_,_,.cons f b g i e h,a=>by
  have:=pQ.mem h a;simp only[dt,b6]at this⊢;constructor;rintro(h|h|h);exact .inr (this.1 (.inl h));exact .inl h;exact .inr (this.1 (.inr h));rintro(h|h);exact .inr (.inl h);rcases this.2 h with h|h;exact .inl h;exact .inr (.inr h)
theorem pQ.run(b:zs P A cH o):∀{a k:List Nat}{d g:AS},pQ (Qj P A cH o) a k->k.Nodup->a.Nodup->ma P A cH o a d->qG P G An X A cH o a d g->qG P G An X A cH o k d g
 |_,_,_,_,.nil,_,_,_,h=>h
 |_,_,d,g,.cons e a r J E n,j,C,i,h=>by
  cases h with
  |cons _ H _ _ q _ m p I=>
   have l:=k0.1 C;have F:(r++J).Nodup:=by
    have:=j;rw[tQ]at this⊢;let⟨u,v,w⟩:=this;exact⟨u,(k0.1 v).2,λs x t b=>w s x t (by simp[b])⟩
   have z:e∉r:=by
    rw[tQ]at j;exactλB=>j.2.2 e B e (by simp) rfl
   have y:ma P A cH o a q:=ma.step b l.1 m p (λf c=>i f (by simp[c]));have D:=pQ.run b n F l.2 y I;refine Qk b z (by grind) E (λf c=>?_) (.cons e H _ d q g m p D);rcases b6.1 c with rfl|c;exact i _ (by simp);exact i f (by simp[(pQ.mem n f).1 (by simp[c])])
inductive pR(ops:Array Oper):Nat->Nat->Prop
 |hy (j:Nat) (o:Oper) (e:Edge) (ho:ops[j]?=aa o) (he:e∈o.after) (hb:Region.binds .any e=ad):pR ops e.on j
 |trans (i k j:Nat) (h:pR ops i k) (h':pR ops k j):pR ops i j
def xW(a:Array Nat):List Edge->Nat
 |[]=>0
 |e::b=>if Region.binds .any e then(2^e.on|||a.getD e.on 0)|||xW a b else xW a b
def zt:List Oper->Array Nat->Array Nat
 |[],a=>a
 |o::r,a=>zt r (a.push (xW a o.after.toList))
theorem Ql{g:Array Oper}{i:Array Nat}{c:Nat}{d:Oper}(f:g[c]?=aa d)(j:∀m a,(i.getD m 0).testBit a=ad->pR g a m):∀{b:List Edge},(∀e∈b,e∈d.after)->∀a,(xW i b).testBit a=ad->pR g a c
 |[],_,a,h=>by simp[xW]at h
 |e::b,l,a,h=>by
  simp only[xW]at h;have n:=Ql f j (b:=b) (by grind) a;split at h;rename_i k;rw[arL,arL]at h;simp only[h5]at h;rcases h with(h|h)|h;rw[Nat.testBit_two_pow]at h;simp at h;subst h;exact .hy c d e f (l e (by simp)) k;exact .trans a e.on c (j _ _ h) (.hy c d e f (l e (by simp)) k);grind;grind
theorem J2{d:Array Oper}:∀(r:List Oper)(b:Array Nat),(∀a,r[a]?=d[b.size+a]?)->(∀a c,(b.getD a 0).testBit c=ad->pR d c a)->∀a c,((zt r b).getD a 0).testBit c=ad->pR d c a
 |[],b,_,f=>f
 |o::r,b,g,f=>by
  simp only[zt];have i:d[b.size]?=aa o:=by have:=g 0;simpa using this.symm
  refine J2 r _ (λa=>by have:=g (a+1);grind) (λa c h=>?_);rcases I2 a b.size with e|e|e;simp_all[Array.getElem?_push,Nat.ne_of_lt];subst e;have:(b.push (xW b o.after.toList)).getD b.size 0=xW b o.after.toList:=by simp
  grind[Ql];grind
def FP(P:Program)(A:bS)(e:Oper->Bool)(a:Array Oper):Bool:=
 let g:=zt a.toList #[]
 (ay a.size).all λd=>(ay a.size).all λc=>
  match a[c]?,a[d]? with
  |aa b,aa f=>(!y (c<d)||(g.getD d 0).testBit c||wk P A e a b f)&&
   (!y (aC P A e b=.box)||(b.guard.isNone&&(y (c=d)||b.dst.isNone||b.dst !=f.dst)))
  |_,_=>ad
theorem acG{done:List Nat}(i:o[U]?=aa B)(f:∀a∈B.after,Region.binds .any a=ad->a.on∈done)(e:∀b∈done,∀N,pR o N b->N∈done)(h:pR o N z):z=U->N∈done:=by
 induction h with
 |hy z n a j g d=>
  grind
 |trans N m z h c k l=>
  grind
theorem J3:∀{e done:List Nat},pL o done e->(∀b∈done,∀a,pR o a b->a∈done)->∀c b d,e=c++b::d->∀a,pR o a b->a∈done\/a∈c
 |[],_,_,_,c,b,d,h,_,_=>by simp at h
 |y::p,done,g,k,c,b,d,h,a,f=>by
  let⟨_,⟨q,m,l⟩,i⟩:=g;have n:∀a,pR o a y->a∈done:=by grind[acG]
  rcases c with _|⟨r,j⟩;grind;simp at h;let⟨rfl,h⟩:=h;rcases J3 i (by grind) j b d h a f with h1|h1;grind;grind
theorem J4:∀{b done:List Nat},pL o done b->b.Nodup/\(∀a∈b,a∉done)/\∀a,a<o.size->a∈done\/a∈b
 |[],done,h=>⟨.nil,by simp,λa d=>.inl (h a d)⟩
 |y::j,done,h=>by
  let⟨i,_,c⟩:=h;let⟨e,f,g⟩:=J4 c;grind
theorem Qm{r:Array Oper}{l:Nat->Nat->Prop}:∀(a c:List Nat),a.Pairwise (· <·)->c.Nodup->(∀b,b∈c<->b∈a)->(∀i∈a,∀b∈a,i<b->l i b\/pR r i b)->(∀f e j,c=f++e::j->∀i∈a,pR r i e->i∈f)->pQ l a c
 |[],c,_,_,g,_,_=>by
  have:c=[]:=by simp_all[aaR]
  subst this;exact .nil
 |i::a,c,x,v,g,o,H=>by
  have q:=AR.1 x;have E:i∉a:=by grind
  obtain⟨k,s,rfl⟩:=E9 ((g i).2 (by simp));have p:=v;rw[tQ]at p;let⟨J,A,L⟩:=p;have K:=k0.1 A;have F:i∉k:=by grind
  refine .cons i a k s (λd m=>?_) (Qm a (k++s) q.2 ?_ (λb=>?_) (λe y C z=>o e (by simp[y]) C (by simp[z])) ?_);have n:d∈i::a:=(g d).1 (by simp[m]);have w:d≠i:=by grind
  have u:d∈a:=by
   rcases b6.1 n with h|h;exact absurd h w;exact h
  rcases o i (by simp) d n (q.1 d u)with h|h;exact h;exfalso;obtain⟨f,j,rfl⟩:=E9 m;grind;grind;grind;intro f e j h I G D;rcases List.append_eq_append_iff.1 h with⟨M,rfl,t⟩|⟨B,rfl,t⟩;grind;cases B with
  |nil=>
   grind
  |cons O N=>
   grind
theorem acH(r:FP P A cH o=ad)(B:ma P A cH o (ay o.size) L)(h:qG P G An X A cH o (ay o.size) L n):∀i,pL o [] i->n4 P G An X A o (gJ o i) L n:=by
 intro i s;have p:∀a b c d,o[a]?=aa c->o[b]?=aa d->(a<b->((zt o.toList #[]).getD b 0).testBit a=ad\/wk P A cH o c d=ad)/\(aC P A cH c=.box->c.guard=ae/\(a≠b->c.dst=ae\/c.dst≠d.dst)):=by
  intro a b c d l m;have e:a<o.size:=(kZ.1 l).1;have k:b<o.size:=(kZ.1 m).1;unfold FP at r;simp only[eQ]at r;have:=r b (iz.2 k) a (iz.2 e);simp only[l,m,ba,h5,hv,decide_eq_false_iff_not,decide_eq_true_eq,I5,bne_iff_ne,ne_eq]at this;refine⟨λu=>?_,λt=>?_⟩;grind;grind
 let⟨x,K,I⟩:=J4 s;have C:∀b,b∈i<->b∈ay o.size:=λb=>⟨λh=>iz.2 (C8 s b h),λh=>(I b (iz.1 h)).resolve_left (by simp)⟩;have t:zs P A cH o:={
  guard:=λa g f q=>((p a a g g f f).2 q).1
  slot:=λa b g w f v D q J j=>by
   have:=((p a b g w f v).2 q).2 D;rcases this with h|h;rw[j]at h;cases h;rw[j]at h;exactλy=>h y.symm}
 refine(pQ.run t (Qm (r:=o) _ i (aaS) x C ?_ ?_) x E7 B h).ops;intro a e b k u;let⟨c,l⟩:∃c,o[a]?=aa c:=⟨o[a]'(iz.1 e),by simp[iz.1 e]⟩;let⟨d,m⟩:∃d,o[b]?=aa d:=⟨o[b]'(iz.1 k),by simp[iz.1 k]⟩;rcases((p a b _ _ l m).1 u)with h|h;exact .inr (J2 o.toList #[] (λE=>by simp) (λE a h=>by simp at h) b a h);refine .inl λg w f v=>?_;grind;intro F c H z a e j
 exact(J3 s (by simp) F c H z a j).resolve_left (by simp)
end
end AM
end Go
