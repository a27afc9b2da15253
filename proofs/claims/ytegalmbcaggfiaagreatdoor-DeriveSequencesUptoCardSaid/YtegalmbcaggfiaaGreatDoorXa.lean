/- The law DeriveSequencesUptoCardSaid: part 1 of 14 of the proof. No condition. -/
import Derived.Calls
import Derived.Laws.AppendOwn
import Derived.Laws.IdiomCopy
import Derived.Deep.MidRow
import Derived.Deep.AppendSrc
import Derived.Laws.StructEq
import Derived.Laws.Cover3
import Derived.Great.BuildSlice
import Derived.Laws.MakeOwn
import Derived.Laws.Tables
import Derived.Laws.RangeAny
import Derived.MapKept
import Derived.Lib.AppendZerosOnto
import Derived.Lib.ConvBytes
import Derived.Orders
import Derived.Scope
import Derived.Maps.RangeRun
set_option maxRecDepth 100000
open List renaming length->Z,range->ay,replicate->db,drop_append->aaA,drop_succ_cons->arl,getElem?_range->art,getElem?_set->ari,headD_cons->arq,length_replicate->arp,map_eq_singleton_iff->aaH,mem_replicate->aru,mem_toArray->IW,reverse_nil->arv,size_toArray->arn,take_append->arh,take_left->aaG,toList_toArray->Ow
open Option renaming some->aa,none->ae,bind_none->ars,bind_some->Ct,map_map->tI
open Bool renaming true->ad,false->ab
open Decidable renaming decide->y
open Int renaming ofNat->cu
open Array renaming getElem?_setIfInBounds->arw,size_append->aaF,toArray_toList->ark,toList_append->IS,toList_inj->oB
open Nat renaming add_mul->sJ,le_antisymm->arf,le_mul_of_pos_right->aaE,mul_one->IT,not_lt_zero->Ol,testBit_or->arx,zero_mul->Ou
open Ne renaming symm->Cq
open Std.Legacy.Range renaming forIn_eq_forIn_range'->arj
namespace Go
abbrev AA:=@List.all_nil
abbrev AB:=@Nat.le_succ
abbrev AD:=@Bool.true_or
abbrev AE:=@List.pairwise_cons
abbrev Cr:=@List.getElem_range
abbrev Cs:=@List.cons.injEq
abbrev Cv:=@Bool.and_false
abbrev E1:=@Int.lt_or_le
abbrev E2:=@List.findIdx?_cons
abbrev E3:=@Bool.not_not
abbrev E5:=@List.find?_eq_none
abbrev E6:=@List.getElem_take
abbrev E7:=@List.contains_eq_mem
abbrev ET:=@List.take_append_of_le_length
abbrev EU:=@List.nodup_range
abbrev EW:=@Array.mem_toList_iff
abbrev EX:=@List.append_of_mem
abbrev EY:=@List.filter_cons
abbrev EZ:=@Function.comp_def
abbrev I0:=@Bool.or_eq_false_iff
abbrev I1:=@List.filter_filter
abbrev I2:=@List.any_eq_true
abbrev I3:=@List.length_eq_zero_iff
abbrev I5:=@List.perm_append_comm
abbrev I6:=@List.find?_some
abbrev I7:=@Bool.and_eq_false_iff
abbrev I9:=@List.filter_eq_nil_iff
abbrev IQ:=@Nat.lt_trichotomy
abbrev IU:=@Option.isNone_iff_eq_none
abbrev IV:=@List.set_set
abbrev IX:=@List.filter_sublist
abbrev IY:=@List.getElem?_set_self
abbrev IZ:=@List.map_drop
abbrev OA:=@List.mem_append_left
abbrev OB:=@List.filterMap_cons
abbrev OC:=@Bool.or_false
abbrev OD:=@Bool.not_eq_false'
abbrev OE:=@List.map_take
abbrev OF:=@List.getElem_drop
abbrev OG:=@List.mem_or_eq_of_mem_set
abbrev OH:=@List.getElem?_append_right
abbrev OI:=@List.perm_ext_iff_of_nodup
abbrev Om:=@List.take_one
abbrev On:=@List.set_cons_succ
abbrev Oo:=@List.set_append_right
abbrev Oq:=@Nat.min_eq_left
abbrev Ot:=@Nat.sub_self
abbrev Ov:=@List.take_succ_cons
abbrev Ox:=@List.take_take
abbrev Oy:=@List.drop_take
abbrev Oz:=@List.singleton_append
abbrev a:=@Int.ofNat_lt
abbrev aa0:=@List.set_eq_take_append_cons_drop
abbrev aa1:=@List.pairwise_map
abbrev aaB:=@List.length_set
abbrev aaC:=@List.range_eq_range'
abbrev aaD:=@List.take_zero
abbrev aaI:=@Nat.lt_or_ge
abbrev aaJ:=@List.eq_nil_iff_forall_not_mem
abbrev aaK:=@List.pairwise_lt_range
abbrev aaL:=@List.getElem_append_left
abbrev aaM:=@Bool.and_assoc
abbrev aaN:=@Nat.lt_succ_self
abbrev aaO:=@List.any_cons
abbrev aaP:=@List.any_nil
abbrev aaT:=@Int.not_lt
abbrev aaU:=@List.findIdx?_append
abbrev aaV:=@List.flatMap_cons
abbrev aaW:=@List.nodup_iff_pairwise_ne
abbrev aaX:=@List.mem_flatMap
abbrev aaZ:=@List.foldl_map
abbrev arM:=@Int.tdiv_eq_ediv_of_nonneg
abbrev arN:=@List.pairwise_iff_getElem
abbrev arO:=@List.pairwise_append
abbrev arR:=@List.idxOf_lt_length_of_mem
abbrev arT:=@List.mem_of_find?_eq_some
abbrev arV:=@Nat.lt_or_eq_of_le
abbrev arX:=@List.drop_of_length_le
abbrev aro:=@List.replicate_succ'
abbrev b5:=@List.mem_cons
abbrev bc:=@Bool.and_eq_true
abbrev bp:=@List.getElem_mem
abbrev bu:=@List.getElem?_eq_getElem
abbrev c5:=@Nat.le_refl
abbrev cZ:=@Bool.true_and
abbrev cn:=@Nat.lt_irrefl
abbrev cy:=@List.mem_map
abbrev dK:=@List.nil_append
abbrev dU:=@List.take_length
abbrev de:=@List.getElem?_cons_zero
abbrev dj:=@Option.map_eq_some_iff
abbrev dm:=@List.mem_append
abbrev e:=@Nat.zero_add
abbrev e1:=@Option.some.injEq
abbrev eE:=@Prod.mk.injEq
abbrev eF:=@List.getElem?_cons_succ
abbrev eL:=@List.all_eq_true
abbrev eN:=@Int.toNat_natCast
abbrev eU:=@List.length_nil
abbrev eZ:=@Bool.false_eq_true
abbrev eg:=@List.map_cons
abbrev fM:=@List.getElem?_eq_some_iff
abbrev fW:=@Nat.add_zero
abbrev gP:=@List.take_of_length_le
abbrev gY:=@List.append_assoc
abbrev gZ:=@Bool.not_eq_true'
abbrev gy:=@List.length_append
abbrev hD:=@List.cons_append
abbrev hE:=@List.map_append
abbrev hW:=@List.length_take
abbrev hX:=@Bool.or_eq_true
abbrev iP:=@Nat.le_trans
abbrev iQ:=@Bool.eq_iff_iff
abbrev iu:=@List.take_succ_eq_append_getElem
abbrev iw:=@List.mem_range
abbrev jL:=@Nat.lt_of_lt_of_le
abbrev jM:=@List.not_mem_nil
abbrev jW:=@List.length_singleton
abbrev kD:=@List.length_cons
abbrev kY:=@Array.getElem?_eq_some_iff
abbrev kZ:=@List.nodup_cons
abbrev kc:=@List.length_map
abbrev kd:=@Option.map_some
abbrev kf:=@List.mem_iff_getElem
abbrev l3:=@Bool.false_or
abbrev l4:=@List.mem_filter
abbrev l5:=@List.mem_singleton
abbrev ll:=@List.drop_zero
abbrev my:=@Nat.mul_le_mul_right
abbrev nR:=@Option.getD_some
abbrev ni:=@List.foldl_cons
abbrev nj:=@List.map_nil
abbrev oA:=@List.getElem?_append_left
abbrev oC:=@List.drop_eq_getElem_cons
abbrev oD:=@Option.isSome_some
abbrev oz:=@List.all_cons
abbrev pA:=@List.length_filter_le
abbrev pz:=@List.getD_eq_getElem?_getD
abbrev q4:=@Nat.succ_mul
abbrev q5:=@List.length_drop
abbrev q6:=@Bool.not_false
abbrev qj:=@List.mem_of_getElem?
abbrev qk:=@List.drop_length
abbrev ql:=@List.ext_getElem
abbrev qm:=@List.findIdx?_eq_some_iff_getElem
abbrev qn:=@List.perm_append_comm_assoc
abbrev sH:=@Option.isSome_iff_exists
abbrev sI:=@List.mem_of_mem_take
abbrev sK:=@List.getElem?_map
abbrev sL:=@List.getElem_of_mem
abbrev sM:=@List.map_congr_left
abbrev sN:=@Bool.not_true
abbrev sO:=@List.append_nil
abbrev tH:=@List.eq_nil_of_length_eq_zero
abbrev tJ:=@List.nodup_append
abbrev uI:=@List.drop_eq_nil_of_le
abbrev uJ:=@List.mem_flatten
abbrev uK:=@List.range_succ
abbrev vL:=@Nat.zero_le
abbrev vM:=@List.drop_drop
abbrev vO:=@List.take_append_drop
abbrev vP:=@List.map_map
abbrev vR:=@List.getElem?_set_ne
abbrev xo:=@List.flatten_cons
abbrev xp:=@List.flatten_append
abbrev xq:=@List.getElem_map
abbrev xr:=@List.mem_filterMap
abbrev xt:=@List.nodup_nil
abbrev xu:=@Classical.byContradiction
abbrev yP:=@Bool.and_true
abbrev yQ:=@Array.length_toList
abbrev yR:=@List.ext_getElem?
abbrev yS:=@List.filter_append
abbrev yT:=@List.findIdx?_eq_none_iff
abbrev yU:=@List.set_cons_zero
abbrev yV:=@Bool.not_eq_true
abbrev yW:=@List.find?_range_eq_some
abbrev yX:=@List.set_getElem_self
abbrev yZ:=@List.foldl_append
namespace AM
inductive AV where
 |int(k:IntKind)(n:Int)
 |bool(b:Bool)
 |str(s:List UInt8)
 |agg(cs:List AV)
 |aB(vs:List AV)
 |aq
 |dG
 |oO
 |sl(cb:Bool)(es:List (List AV))
 |q(id g off len:Nat)
 |ih(ks vs:List AV)
 |b7(id:Nat)
 |pB(id:Nat)
 |ptr(id g idx off:Nat)
 |aH(cb:Bool)(cs:List AV)(off:Nat)
 |lp(k off:Nat)
 |gE
 |fn(f:Nat)(first cap:List AV)
 |fN
 |iface(t:Nat)(v:AV)
 |jX
 |undef
 deriving Inhabited
inductive Obj where
 |arr(g sz:Nat)(es:List (List AV))
 |mp(fl:Bool)(ks vs:List AV)
 |iD(s:List UInt8)(pos:Nat)
 |fm(l:List (Int×Int))
def Obj.Cw:Obj->Bool
 |.mp _ _ _|.fm _=>ad
 |_=>ab
def gi(a:Int):List (Int×Int)->Option Int
 |[]=>ae
 |(b,d)::c=>if b=a then aa d else gi a c
def oP(a b:Int):List (Int×Int)->List (Int×Int)
 |[]=>[(a,b)]
 |(c,e)::d=>if c=a then(a,b)::d else(c,e)::oP a b d
def nums:List AV->List AV->Option (List (Int×Int))
 |[],[]=>aa []
 |.int .i64 a::b,.int .i64 c::vs=>(nums b vs).map ((a,c)::·)
 |_,_=>ae
def Obj.nums:Obj->Option (List (Int×Int))
 |.mp _ a vs=>AM.nums a vs
 |.fm b=>aa b
 |_=>ae
def xv(h j:AV)(b:List Obj):Option (List Obj):=
 match h,j with
 |.b7 e,.b7 c=>
  match b[e]?,b[c]? with
  |aa (.mp ad g vs),aa i=>
   match AM.nums g vs,i.nums with
   |aa d,aa a=>if e≠c/\(d.map (·.1)).Nodup then aa (b.set c (.fm (d.foldl (λa f=>oP f.1 f.2 a) a)))else ae
   |_,_=>ae
  |_,_=>ae
 |_,_=>ae
structure AS where
 env:List (Nat×AV)
 bx:List (Nat×List AV)
 hp:List Obj
structure bR where
 mI:List Nat
 cs:List Nat
 lb:List Nat
 acc:List (Nat×Nat)
 own:List Nat
 ord:List (Nat×List Nat)
variable{K:Type}
def look(a:Nat):List (Nat×K)->Option K
 |[]=>ae
 |(b,d)::c=>if b=a then aa d else look a c
def lz(a:Nat):List (Nat×K)->List (Nat×K)
 |[]=>[]
 |(b,d)::c=>if b=a then lz a c else(b,d)::lz a c
def put(a:Nat)(c:K):List (Nat×K)->List (Nat×K)
 |[]=>[(a,c)]
 |(b,e)::d=>if a<b then(a,c)::(b,e)::d else if a=b then(a,c)::d else(b,e)::put a c d
def k0(a:List Nat):List (Nat×K)->List (Nat×K)
 |[]=>[]
 |(b,d)::c=>if b∈a then(b,d)::k0 a c else k0 a c
def AV.gF(b:Nat):AV->Bool
 |.lp a _=>a==b
 |_=>ab
def oQ(a:Nat):List (Nat×AV)->List (Nat×AV)
 |[]=>[]
 |(c,b)::d=>(c,if b.gF a then .undef else b)::oQ a d
def AV.pl:AV->AV
 |.lp _ _=>.undef
 |v=>v
def AV.isNil:AV->Bool
 |.aq=>ad
 |.dG=>ad
 |_=>ab
def AV.Cx:AV->Option Bool
 |.aq=>aa ad
 |.dG=>aa ab
 |.sl _ (_::_)=>aa ab
 |_=>ae
def AV.bU:AV->Bool
 |.agg _|.aB _|.lp _ _|.undef=>ab
 |_=>ad
def AV.cells:AV->List AV
 |.agg a=>a
 |v=>[v]
def qo(agg:Bool)(a:List AV):AV:=if agg then .agg a else a.headD .undef
def y0:TypeDesc->Bool
 |.struct _|.array _ _=>ad
 |_=>ab
section
variable(P:Program)
def bh(a:TypeId):Nat:=((P.info? a).map (·.size)).getD 0
def uL(a:TypeId):Nat:=((P.info? a).map (·.bytes)).getD 0
def fp(b:TypeId):Bool:=
 match P.underlying b with
 |aa a=>y0 a
 |ae=>ab
def ofValue:Value->Option AV
 |.bool a=>aa (.bool a)
 |.int b c=>aa (.int b c)
 |.string d=>aa (.str d.data.toList)
 |.pointer ae=>aa .gE
 |.slice ae 0 0=>aa .aq
 |.nilFunc=>aa .fN
 |.nilIface=>aa .jX
 |.map ae=>aa .oO
 |_=>ae
def xw:List Value->Option (List AV)
 |[]=>aa []
 |v::vs=>
  match ofValue v,xw vs with
  |aa a,aa b=>aa (a::b)
  |_,_=>ae
def qp(a:TypeId):Option (List AV):=
 match(P.info? a).bind (·.zero)with
 |aa b=>xw b.cells.toList
 |ae=>ae
def rF:Value->Option AV
 |.agg a=>(xw a.toList).map .agg
 |v=>ofValue v
def sP(a:TypeId):Option AV:=((P.info? a).bind (·.zero)).bind rF
variable(G:Nat->Option (List AV))
def l(c:AS):Operand->AV
 |.tmp d=>(look d c.env).getD .undef
 |.const e=>(rF e).getD .undef
 |.global g=>match G g with|aa a=>.aH ab a 0|ae=>.undef
 |.func b=>.fn b [] []
def pD(b:AS):AV->Option (List AV×Nat)
 |.lp f off=>(look f b.bx).map λa=>(a,off)
 |.aH _ a off=>aa (a,off)
 |.ptr id g e off=>
  match b.hp[id]? with
  |aa (.arr d _ c)=>if d=g then(c[e]?).map λa=>(a,off)else ae
  |_=>ae
 |_=>ae
def oR(d:AS)(a:TypeId)(c:AV):Option AV:=
 match pD d c with
 |aa (b,off)=>if off+bh P a<=Z b/\(fp P a=ab->bh P a=1)/\(P.underlying a).isSome=ad then aa (qo (fp P a) ((b.drop off).take (bh P a)))else ae
 |ae=>ae
def eV(a:List AV)(off:Nat)(new:List AV):List AV:=a.take off++new++a.drop (off+Z new)
def vS(a:AS)(h:TypeId)(i k:AV):Option AS:=
 let new:=k.pl.cells
 if Z new=bh P h/\new.all AV.bU=ad/\(P.info? h).isSome=ad then
  match i with
  |.lp f off=>
   match look f a.bx with
   |aa b=>if off+Z new<=Z b then aa {a with bx:=put f (eV b off new) a.bx}else ae
   |ae=>ae
  |.ptr id g e off=>
   match a.hp[id]? with
   |aa (.arr d j c)=>
    if d=g then
     match c[e]? with
     |aa b=>if off+Z new<=Z b then aa {a with hp:=a.hp.set id (.arr d j (c.set e (eV b off new)))}else ae
     |ae=>ae
    else ae
   |_=>ae
  |_=>ae
 else ae
def mJ(h:AS)(a:Nat):AV->Option AV
 |.lp f off=>aa (.lp f (off+a))
 |.aH b c off=>aa (.aH b c (off+a))
 |.ptr id g e off=>
  match h.hp[id]? with
  |aa (.arr d _ _)=>if d=g then aa (.ptr id g e (off+a))else ae
  |_=>ae
 |_=>ae
def vT(e:AS)(f:TypeId)(b:AV)(c:Nat):Option AV:=
 match P.underlying f with
 |aa (.struct d)=>match d[c]? with|aa a=>if 0<bh P a.type then mJ e a.offset b else ae|ae=>ae
 |_=>ae
def rG(d:AS)(l:TypeId)(e j:AV):Option AV:=
 match P.underlying l,j with
 |aa (.array len b),.int _ a=>if 0<=a/\a<len/\0<bh P b then mJ d (a.toNat*bh P b) e else ae
 |aa (.slice b),.int _ a=>
  match e with
  |.sl f h=>
   if 0<=a then
    match h[a.toNat]? with
    |aa c=>if Z c=bh P b/\0<bh P b then aa (.aH f c 0)else ae
    |ae=>ae
   else ae
  |.q id g off len=>
   if 0<=a/\a<len then
    match d.hp[id]? with
    |aa (.arr i k _)=>if i=g/\k=bh P b/\0<bh P b then aa (.ptr id g (off+a.toNat) 0)else ae
    |_=>ae
   else ae
  |_=>ae
 |_,_=>ae
def E9(a:TypeId)(b:List AV)(off:Nat):Option AV:=
 if off+bh P a<=Z b/\(fp P a=ab->bh P a=1)/\(P.underlying a).isSome=ad then aa (qo (fp P a) ((b.drop off).take (bh P a)))else ae
def Cy(e:TypeId)(f:AV)(c:Nat):Option AV:=
 match P.underlying e,f with
 |aa (.struct d),.agg b=>match d[c]? with|aa a=>E9 P a.type b a.offset|ae=>ae
 |_,_=>ae
def Cz(e:TypeId)(f c:AV):Option AV:=
 match P.underlying e,f,c with
 |aa .string,.str d,.int _ a=>if 0<=a then(d[a.toNat]?).map λb=>.int .u8 b.toNat else ae
 |_,_,_=>ae
def eO(c:Nat)(b:Nat):Option AV->Option Nat
 |ae=>aa b
 |aa (.int _ a)=>if 0<=a/\a<=c then aa a.toNat else ae
 |_=>ae
def nm(c:AS)(f:TypeId)(o:AV)(e d:Option AV):Option (AV×AS):=
 match o with
 |.dG=>
  match P.underlying f,eO 0 0 d,eO 0 0 e with
  |aa (.slice a),aa _,aa _=>if 0<bh P a then aa (.dG,c)else ae
  |_,_,_=>ae
 |.aq=>
  match P.underlying f,eO 0 0 d,eO 0 0 e with
  |aa (.slice a),aa _,aa _=>if 0<bh P a then aa (.aq,c)else ae
  |_,_,_=>ae
 |.str j=>
  match P.underlying f,eO (Z j) (Z j) d with
  |aa .string,aa h=>match eO h 0 e with|aa b=>aa (.str ((j.take h).drop b),c)|ae=>ae
  |_,_=>ae
 |.sl k i=>
  match P.underlying f,eO (Z i) (Z i) d with
  |aa (.slice a),aa h=>
   match eO h 0 e with
   |aa b=>if i.all (λl=>Z l==bh P a)/\0<bh P a then aa (.sl k ((i.take h).drop b),c)else ae
   |ae=>ae
  |_,_=>ae
 |.q id g off len=>
  match P.underlying f,eO len len d with
  |aa (.slice a),aa h=>
   match eO h 0 e,c.hp[id]? with
   |aa b,aa (.arr m n _)=>if m=g/\n=bh P a/\0<bh P a then aa (.q id g (off+b) (h -b),c)else ae
   |_,_=>ae
  |_,_=>ae
 |_=>ae
def fZ:List Nat->List AV->List AV->Option Bool
 |[],[],[]=>aa ad
 |0::d,.int e a::b,.int f c::bs=>if e=f then(fZ d b bs).map ((a==c)&&·)else ae
 |1::d,.str a::b,.str c::bs=>(fZ d b bs).map ((a==c)&&·)
 |2::d,.bool a::b,.bool c::bs=>(fZ d b bs).map ((a==c)&&·)
 |_,_,_=>ae
def tK(eq:TypeId->Option (List Nat))(stop:Nat):Nat->List (TypeId×Nat)->Option (List Nat)
 |off,[]=>if off=stop then aa []else ae
 |off,(a,d)::r=>
  if d=off then
   match eq a,tK eq stop (off+bh P a) r with
   |aa b,aa c=>if Z b=bh P a then aa (b++c)else ae
   |_,_=>ae
  else ae
def nn:Nat->TypeId->Option (List Nat)
 |0,_=>ae
 |d+1,a=>
  match P.underlying a with
  |aa (.int _)=>if bh P a=1 then aa [0]else ae
  |aa .string=>if bh P a=1 then aa [1]else ae
  |aa .bool=>if bh P a=1 then aa [2]else ae
  |aa (.struct e)=>if P.stoodInHeld a=ab/\e.toList.all (λb=>b.name != "_")then tK P (nn d) (bh P a) 0 (e.toList.map λb=>(b.type,b.offset))else ae
  |aa (.array g c)=>if(P.info? c).isSome then tK P (nn d) (bh P a) 0 ((ay g).map λf=>(c,f*bh P c))else ae
  |_=>ae
def kE(op:BinOp)(a:IntKind)(c b:Int):Option AV:=
 match op with
 |.add=>aa (.int a (a.wrap (c+b)))
 |.sub=>aa (.int a (a.wrap (c -b)))
 |.mul=>aa (.int a (a.wrap (c*b)))
 |.quo=>if b=0 then ae else aa (.int a (a.wrap (c.tdiv b)))
 |.rem=>if b=0 then ae else aa (.int a (c.tmod b))
 |.and=>aa (.int a (a.wrap (BitVec.ofInt a.bits c&&&BitVec.ofInt a.bits b).toNat))
 |.or=>aa (.int a (a.wrap (BitVec.ofInt a.bits c|||BitVec.ofInt a.bits b).toNat))
 |.xor=>aa (.int a (a.wrap (BitVec.ofInt a.bits c^^^BitVec.ofInt a.bits b).toNat))
 |.andNot=>aa (.int a (a.wrap (BitVec.ofInt a.bits c&&&~~~BitVec.ofInt a.bits b).toNat))
 |.eql=>aa (.bool (c==b))
 |.neq=>aa (.bool (c !=b))
 |.lss=>aa (.bool (c<b))
 |.leq=>aa (.bool (c<=b))
 |.gtr=>aa (.bool (c>b))
 |.geq=>aa (.bool (c>=b))
 |_=>ae
def vU(op:BinOp)(a b:List UInt8):Option AV:=
 match op with
 |.eql=>aa (.bool (a==b))
 |.neq=>aa (.bool (!(a==b)))
 |.lss=>aa (.bool (Op.bytesLess a b))
 |.leq=>aa (.bool (Op.bytesLess a b||a==b))
 |.gtr=>aa (.bool (!(Op.bytesLess a b||a==b)))
 |.geq=>aa (.bool (!Op.bytesLess a b))
 |_=>ae
def tL(op:BinOp)(d:TypeId)(x h:AV):Option AV:=
 match x,h with
 |.int c b,.int f a=>
  match op with
  |.shl=>if a<0 then ae else aa (.int c (c.wrap (b*2^(min a.toNat c.bits))))
  |.shr=>if a<0 then ae else aa (.int c (b.fdiv (2^(min a.toNat c.bits))))
  |_=>if c=f then kE op c b a else ae
 |.str b,.str a=>vU op b a
 |.bool b,.bool a=>
  match P.underlying d,op with
  |aa .bool,.eql=>aa (.bool (b==a))
  |aa .bool,.neq=>aa (.bool (!(b==a)))
  |_,_=>ae
 |.agg e,.agg bs=>
  if Z e=bh P d/\Z bs=bh P d/\P.eqGuardType P.depth d=ab/\fp P d=ad then
   match nn P 100 d with
   |aa g=>
    match op,fZ g e bs with
    |.eql,aa r=>aa (.bool r)
    |.neq,aa r=>aa (.bool (!r))
    |_,_=>ae
   |ae=>ae
  else ae
 |x,.aq=>
  match P.underlying d,op,x.Cx with
  |aa (.slice _),.eql,aa a=>aa (.bool a)
  |_,_,_=>ae
 |_,_=>ae
def np(op:UnOp)(d:AV):Option AV:=
 match op,d with
 |.not,.bool b=>aa (.bool (!b))
 |.neg,.int a c=>aa (.int a (a.wrap (0 -c)))
 |_,_=>ae
def xx(g e:TypeId)(h:AV):Option AV:=
 match P.underlying g,P.underlying e,h with
 |aa (.int _),aa (.int c),.int _ f=>aa (.int c (c.wrap f))
 |aa .string,aa .string,.str a=>aa (.str a)
 |aa .string,aa (.slice b),.str a=>
  match P.underlying b with
  |aa (.int .u8)=>if bh P b=1 then aa (.sl ab (a.map λd=>[.int .u8 d.toNat]))else ae
  |_=>ae
 |_,_,_=>ae
def xy(place:Nat->Option (Nat×Nat))(cells:List AV):List (Nat×AV)->Option (List AV)
 |[]=>aa cells
 |(b,a)::c=>
  match place b with
  |ae=>ae
  |aa (off,size)=>if Z a.pl.cells=size/\off+size<=Z cells/\a.pl.cells.all AV.bU=ad then xy place (eV cells off a.pl.cells) c else ae
def y1(f:TypeId)(parts:List (Nat×AV)):Option AV:=
 match P.underlying f,qp P f with
 |aa (.struct e),aa d=>if e.all λa=>(P.info? a.type).isSome then(xy (λc=>(e[c]?).map λa=>(a.offset,bh P a.type)) d parts).map .agg else ae
 |aa (.array _ b),aa d=>if 0<bh P b then(xy (λc=>aa (c*bh P b,bh P b)) d parts).map .agg else ae
 |_,_=>ae
def lH(d:Nat)(a:List (List AV)):List (Nat×AV)->Option (List (List AV))
 |[]=>aa a
 |(c,b)::e=>if Z b.pl.cells=d/\c<Z a/\b.pl.cells.all AV.bU=ad then lH d (a.set c b.pl.cells) e else ae
def tM(own:Bool)(b:AS)(e:TypeId)(len:Nat)(parts:List (Nat×AV)):Option (AV×AS):=
 match P.underlying e with
 |aa (.slice a)=>
  if len*bh P a<=2^24/\0<bh P a then
   match qp P a with
   |aa d=>
    if Z d=bh P a then
     match lH (bh P a) (db len d) parts with
     |aa c=>
      if c.isEmpty then aa (.dG,b)else if own then aa (.q (Z b.hp) 0 0 len,{b with hp:=b.hp++[.arr 0 (bh P a) c]})else aa (.sl ab c,b)
     |ae=>ae
    else ae
   |ae=>ae
  else ae
 |_=>ae
def oS(h:AS)(b:Nat):AV->Option (List (List AV))
 |.aq=>aa []
 |.dG=>aa []
 |.sl _ a=>if a.all (λe=>Z e==b)then aa a else ae
 |.q id g off len=>
  match h.hp[id]? with
  |aa (.arr f i a)=>if f=g/\i=b/\off+len<=Z a then aa ((a.drop off).take len)else ae
  |_=>ae
 |.str c=>if b=1 then aa (c.map λd=>[.int .u8 d.toNat])else ae
 |_=>ae
def oT(b:AS)(i:TypeId)(d j:AV):Option (AV×AS):=
 match P.underlying i with
 |aa (.slice a)=>
  match qp P a,oS b (bh P a) j with
  |aa k,aa c=>
   if Z k=bh P a/\0<bh P a/\0<uL P a then
    if d.isNil=ad then if Z c*uL P a<=2^47 then aa (.q (Z b.hp) 0 0 (Z c),{b with hp:=b.hp++[.arr 0 (bh P a) c]})else ae else
    match d with
    |.q id g 0 len=>
     match b.hp[id]? with
     |aa (.arr h f e)=>
      if h=g/\len<=Z e/\f=bh P a/\(len+Z c)*uL P a<=2^47 then
       aa (.q id (g+1) 0 (len+Z c),{b with hp:=b.hp.set id (.arr (g+1) f (e.take len++c))})
      else ae
     |_=>ae
    |_=>ae
   else ae
  |_,_=>ae
 |_=>ae
def qq(a:TypeId):Bool:=
 match P.underlying a with
 |aa (.slice _)|aa .string=>ad
 |_=>ab
def y3(c:AS)(h:TypeId)(f e:AV):Option (AV×AS):=
 match P.underlying h,f,e with
 |aa (.slice b),.int _ a,.int _ g=>
  match qp P b with
  |aa d=>
   if Z d=bh P b/\0<bh P b/\a=g/\0<=a/\a*uL P b<=2^47/\a<2^47 then
    aa (.q (Z c.hp) 0 0 a.toNat,{c with hp:=c.hp++[.arr 0 (bh P b) (db a.toNat d)]})
   else ae
  |ae=>ae
 |_,_,_=>ae
def nS(a:TypeId):Option (List Nat):=
 match P.underlying a with
 |aa (.int _)|aa .string=>nn P 100 a
 |aa (.array e c)=>match P.underlying c with|aa (.int _)=>if bh P c=1/\e<=bh P a then nn P 100 a else ae|_=>ae
 |aa (.struct d)=>if d.toList.all (λb=>(match P.underlying b.type with|aa (.int _)=>ad|_=>ab)&&(y (bh P b.type=1)&&y (b.offset<bh P a)))then nn P 100 a else ae
 |_=>ae
def sQ(a:TypeId)(d:List Nat):AV->AV->Option Bool
 |.int e b,.int f c=>if e=f/\d=[0]/\fp P a=ab/\bh P a=1 then aa (b==c)else ae
 |.str b,.str c=>if d=[1]/\fp P a=ab/\bh P a=1 then aa (b==c)else ae
 |.agg b,.agg c=>if fp P a=ad/\Z b=bh P a/\Z c=bh P a then fZ d b c else ae
 |_,_=>ae
def findKey(d:TypeId)(c:List Nat)(b:AV):List AV->Nat->Option (Option Nat)
 |[],_=>aa ae
 |x::e,a=>
  match sQ P d c b x with
  |aa ad=>aa (aa a)
  |aa ab=>findKey d c b e (a+1)
  |ae=>ae
def nT(c:TypeId)(b:List Nat)(a:AV):Bool:=(sQ P c b a a).isSome
def vV(b:AS):AV->Option (List AV×List AV)
 |.ih a vs=>aa (a,vs)
 |.b7 id=>match b.hp[id]? with|aa (.mp _ a vs)=>aa (a,vs)|_=>ae
 |_=>ae
def y4(a:List Obj):AV->Option (List (Int×Int))
 |.b7 id=>match a[id]? with|aa (.fm b)=>aa b|_=>ae
 |_=>ae
def CA(c:List (Int×Int))(b:AV)(ok:Bool):Option AV:=
 match b with
 |.int .i64 d=>aa (match gi d c with|aa a=>if ok then .aB [.int .i64 a,.bool ad]else .int .i64 a|ae=>if ok then .aB [.int .i64 0,.bool ab]else .int .i64 0)
 |_=>ae
def xz(c:TypeId):Bool:=
 match P.underlying c with
 |aa (.map a b)=>
  match nS P a,fp P a,sP P b with
  |aa [0],ab,aa (.int .i64 0)=>ad
  |_,_,_=>ab
 |_=>ab
def uM(e:AS)(f:TypeId)(d a:AV)(ok:Bool):Option AV:=
 match y4 e.hp d with
 |aa l=>if xz P f=ad then CA l a ok else ae
 |ae=>
 match P.underlying f,vV e d with
 |aa (.map b i),aa (k,vs)=>
  match nS P b with
  |aa c=>
   if nT P b c a then
    match findKey P b c a k 0 with
    |aa (aa j)=>match vs[j]? with|aa g=>aa (if ok then .aB [g,.bool ad]else g)|ae=>ae
    |aa ae=>
     match sP P i with
     |aa h=>aa (if ok then .aB [h,.bool ab]else h)
     |ae=>ae
    |ae=>ae
   else ae
  |ae=>ae
 |_,_=>ae
def xA(a:AS)(j:TypeId)(i b g:AV):Option AS:=
 match P.underlying j,i with
 |aa (.map d _),.b7 id=>
  match a.hp[id]?,nS P d with
  |aa (.mp e c vs),aa f=>
   if nT P d f b then
    match findKey P d f b c 0 with
    |aa (aa h)=>aa {a with hp:=a.hp.set id (.mp e c (vs.set h g.pl))}
    |aa ae=>aa {a with hp:=a.hp.set id (.mp e (c++[b]) (vs++[g.pl]))}
    |ae=>ae
   else ae
  |_,_=>ae
 |_,_=>ae
def y5(a:AS)(j:TypeId)(i b:AV):Option (AV×AS):=
 match P.underlying j,i with
 |aa (.map d h),.b7 id=>
  match a.hp[id]?,nS P d with
  |aa (.mp ad c vs),aa f=>
   if nT P d f b then
    match findKey P d f b c 0 with
    |aa (aa e)=>match vs[e]? with|aa k=>aa (.aB [k,.int .i64 e],a)|ae=>ae
    |aa ae=>
     match sP P h with
     |aa g=>aa (.aB [g,.int .i64 (Z c)],{a with hp:=a.hp.set id (.mp ad (c++[b]) (vs++[g]))})
     |ae=>ae
    |ae=>ae
   else ae
  |_,_=>ae
 |_,_=>ae
def AG(a:AS)(d e f:AV):Option AS:=
 match d,e with
 |.b7 id,.int _ (.ofNat c)=>
  match a.hp[id]? with
  |aa (.mp ad b vs)=>if c<Z b then aa {a with hp:=a.hp.set id (.mp ad b (vs.set c f.pl))}else ae
  |_=>ae
 |_,_=>ae
def AH(a:AS)(h:TypeId)(g d:AV):Option AS:=
 match P.underlying h,g with
 |aa (.map b _),.b7 id=>
  match a.hp[id]?,nS P b with
  |aa (.mp i f vs),aa e=>
   if nT P b e d then
    match findKey P b e d f 0 with
    |aa (aa c)=>aa {a with hp:=a.hp.set id (.mp ab (f.eraseIdx c) (vs.eraseIdx c))}
    |aa ae=>aa a
    |ae=>ae
   else ae
  |_,_=>ae
 |_,_=>ae
def l7(e:AS)(f:TypeId)(g:AV):Option AV:=
 match P.underlying f,g with
 |aa .string,.str b=>aa (.int .i64 (Z b))
 |aa (.slice _),.aq=>aa (.int .i64 0)
 |aa (.slice _),.dG=>aa (.int .i64 0)
 |aa (.slice _),.sl _ c=>aa (.int .i64 (Z c))
 |aa (.slice _),.q _ _ _ len=>aa (.int .i64 len)
 |aa (.array d _),_=>aa (.int .i64 d)
 |aa (.map _ _),.b7 id=>match e.hp[id]? with|aa (.mp _ a _)=>aa (.int .i64 (Z a))|_=>ae
 |aa (.map _ _),.ih a _=>aa (.int .i64 (Z a))
 |_,_=>ae
def tN(c:AS)(f g:TypeId)(e h:AV):Option (AV×AS):=
 match P.underlying f,P.underlying g,e,h with
 |aa (.slice a),aa (.int .i64),.aq,.int .i64 b=>
  match qp P a with
  |aa d=>if Z d=bh P a/\0<bh P a/\0<uL P a/\0<b/\b*uL P a<=2^47 then aa (.q (Z c.hp) 0 0 b.toNat,{c with hp:=c.hp++[.arr 0 (bh P a) (db b.toNat d)]})else ae
  |ae=>ae
 |_,_,_,_=>ae
def AI(b:AS)(h:TypeId)(i:AV):Option AS:=
 match P.underlying h,i with
 |aa (.slice c),.q id g off len=>
  match qp P c,b.hp[id]? with
  |aa e,aa (.arr f a d)=>
   if f=g/\Z e=a/\a=bh P c/\0<a then aa {b with hp:=b.hp.set id (.arr g a (d.take off++(db len e++d.drop (off+len))))}else ae
  |_,_=>ae
 |_,_=>ae
def tO:List AV->Option AV
 |[.int c a,.int _ b]=>aa (.int c (if b<a then b else a))
 |_=>ae
def sR:List AV->Option AV
 |[.int c a,.int _ b]=>aa (.int c (if b>a then b else a))
 |_=>ae
def ko(b:AS)(h:Builtin)(g:List TypeId)(args:List AV):Option (AV×AS):=
 match h,g,args with
 |.len,[a],[c]=>(l7 P b a c).map (·,b)
 |.append,[a,f],[e,c]=>if qq P f then oT P b a e c else tN P b a f e c
 |.cap,[a],[.aq]=>match P.underlying a with|aa (.slice _)=>aa (.int .i64 0,b)|_=>ae
 |.clear,[a],[c]=>(AI P b a c).map (.aB [],·)
 |.delete,[a,_],[j,i]=>(AH P b a j i).map (.aB [],·)
 |.min,_,d=>(tO d).map (·,b)
 |.max,_,d=>(sR d).map (·,b)
 |_,_,_=>ae
variable(A:bR)
def qs(a:List UInt8)(pos:Nat):Nat×Nat:=Utf8.decode ⟨a.toArray⟩ pos
def vW(c:AV)(a:List Obj):Option (AV×List Obj):=
 match c with
 |.str b=>aa (.pB (Z a),a++[.iD b 0])
 |_=>ae
def tP(c:AV)(b:List Obj):Option (AV×List Obj):=
 match c with
 |.pB id=>
  match b[id]? with
  |aa (.iD a pos)=>if pos<Z a then aa (.aB [.bool ad,.int .i64 pos,.int .i32 (qs a pos).1],b.set id (.iD a (pos+(qs a pos).2)))else aa (.aB [.bool ab],b)
  |_=>ae
 |_=>ae
def sS(a:AS)(r:Option (AV×List Obj)):Option (AV×AS):=r.map λr=>(r.1,{a with hp:=r.2})
def fS(a:AS)(b:Option AV):Option (AV×AS):=b.map (·,a)
def AJ(a:Oper):Op×Option Tmp:=(a.op,a.dst)
def Fa(c:Operand)(b:List Nat):Bool:=
 match c with
 |.tmp a=>y (a∉b)
 |_=>ad
def CB:Code->Option (Operand×Operand×List Nat)
 |.seq (.region _ n ab) (.block h (.loop (.seq (.region _ o ab) (.seq (.cond (.tmp f) .skip (.exit y)) (.block D (.seq (.region _ p ab) (.region _ r3 ab)))))))=>
  match n.toList.map AJ,o.toList.map AJ,p.toList.map AJ,r3.toList.map AJ with
  |[(.move j,aa l),(.range H (.tmp F),aa c)],[(.next (.tmp z) ab,aa k),(.extract (.tmp C) 0,aa v)],[(.entry (.tmp A),aa b),(.extract (.tmp w) 0,aa r),(.extract (.tmp x) 1,aa s),(.assign (.tmp K),aa i),(.assign (.tmp L),aa q)],[(.move g,aa m),(.move (.tmp B),aa d),(.move (.tmp J),aa e),(.mapUpdate I (.tmp G) (.tmp t) (.tmp u),ae)]=>
   let a:=[l,c,k,f,b,r,s,i,q,m,d,e]
   if(h=y/\D≠h/\F=l/\z=c/\A=c/\C=k/\v=f/\w=b/\x=b/\K=r/\L=s/\B=i/\J=q/\G=m/\t=d/\u=e)/\a.Nodup/\Fa j a=ad/\Fa g a=ad/\xz P H=ad/\xz P I=ad/\(n.toList++(o.toList++(p.toList++r3.toList))).all (λE=>E.guard.isNone)=ad then aa (j,g,a)else ae
  |_,_,_,_=>ae
 |_=>ae
def lI(b:List Nat)(a:List (Nat×K)):List (Nat×K):=b.foldr lz a
def y6(a:AS)(b:TypeId)(r:Option Operand):Bool:=
 match r with
 |ae=>ad
 |aa c=>match l G a c,P.underlying b with|.int .i64 _,aa (.map _ _)=>ad|_,_=>ab
def aV(a:AS)(p:Option Tmp)(op:Op):Option (AV×AS):=
 match op with
 |.move c=>aa ((l G a c).pl,a)
 |.assign c=>
  match c,p with
  |.const (.slice ae 0 0),aa d=>
   match look d A.acc with
   |aa D=>aa (.q (Z a.hp) 0 0 0,{a with hp:=a.hp++[.arr 0 D []]})
   |ae=>aa (.aq,a)
  |_,_=>aa ((l G a c).pl,a)
 |.pick g f e=>match l G a g with|.bool b=>aa ((if b then(l G a f).pl else(l G a e).pl),a)|_=>ae
 |.alloc h=>
  match qp P h,p with
  |aa j,aa d=>
   if Z j=bh P h then
    if d∈A.lb then aa (.lp d 0,{a with env:=oQ d a.env,bx:=put d j a.bx})
    else aa (.ptr (Z a.hp) 0 0 0,{a with hp:=a.hp++[.arr 0 (bh P h) [j]]})
   else ae
  |_,_=>ae
 |.box h c=>
  match p with
  |aa d=>
   let j:=(l G a c).pl.cells
   if Z j=bh P h/\j.all AV.bU=ad then
    if d∈A.lb then aa (.lp d 0,{a with env:=oQ d a.env,bx:=put d j a.bx})
    else if d∈A.own then aa (.ptr (Z a.hp) 0 0 0,{a with hp:=a.hp++[.arr 0 (bh P h) [j]]})
    else aa (.aH ab j 0,a)
   else ae
  |ae=>ae
 |.build b t=>fS a (y1 P b (t.toList.map λo=>(o.1,l G a o.2)))
 |.buildSlice b s t=>tM P (p.any (· ∈A.own)) a b s (t.toList.map λo=>(o.1,l G a o.2))
 |.load b f=>fS a ((oR P a b (l G a f)).map .pl)
 |.store b f v=>(vS P a b (l G a f) (l G a v)).map (.undef,·)
 |.nilCheck c=>
  match l G a c with
  |.fn i f e=>aa (.fn i f e,a)
  |v=>fS a (mJ a 0 v)
 |.binOp op b c F _=>fS a (tL P op b (l G a c) (l G a F))
 |.unOp op _ c=>fS a (np op (l G a c))
 |.convert f e c=>fS a (xx P f e (l G a c))
 |.makeInterface b c=>match P.underlying b with|aa (.interface _)=>ae|aa _=>aa (.iface b (l G a c).pl,a)|ae=>ae
 |.makeFunc i first cap=>match i with|.func i=>aa (.fn i (first.toList.map λc=>(l G a c).pl) (cap.toList.map λc=>(l G a c).pl),a)|_=>ae
 |.makeMap b r=>if y6 P G a b r=ad then aa (.b7 (Z a.hp),{a with hp:=a.hp++[.mp ad [] []]})else ae
 |.makeSlice b B g=>y3 P a b (l G a B) (l G a g)
 |.range b c=>match P.underlying b with|aa .string=>sS a (vW (l G a c) a.hp)|_=>ae
 |.next c e=>if e then sS a (tP (l G a c) a.hp)else ae
 |.slice b c x w z=>
  match P.underlying b,l G a c with
  |aa (.array s h),.aH e u 0=>
   if x.isNone&&w.isNone&&z.isNone&&y (Z u=s*bh P h)&&y (bh P h=1)then aa (.sl e (u.map λg=>[g]),a)else ae
  |_,v=>
   match z with
   |ae=>nm P a b v (x.map (l G a)) (w.map (l G a))
   |aa _=>ae
 |.fieldAddr b c i=>fS a (vT P a b (l G a c) i)
 |.field b c i=>fS a ((Cy P b (l G a c) i).map .pl)
 |.indexAddr b c n=>fS a (rG P a b (l G a c) (l G a n))
 |.index b c n=>fS a ((Cz P b (l G a c) (l G a n)).map .pl)
 |.lookup b k m ok=>fS a ((uM P a b (l G a k) (l G a m) ok).map .pl)
 |.mapEntry b k m=>y5 P a b (l G a k) (l G a m)
 |.entryStore _ k C v=>(AG a (l G a k) (l G a C) (l G a v)).map (.undef,·)
 |.mapUpdate b k m v|.insert b k m v=>(xA P a b (l G a k) (l G a m) (l G a v)).map (.undef,·)
 |.extract c n=>match l G a c with|.aB vs=>(vs[n]?).map (·.pl,a)|_=>ae
 |.typeAssert c _ b ok=>
  match P.underlying b,l G a c with
  |aa (.interface _),_=>ae
  |aa _,.iface E v=>if E=b/\ok=ab then aa (v.pl,a)else ae
  |_,_=>ae
 |.call g=>
  match g.callee with
  |.builtin e=>ko P a e g.argTypes.toList (g.args.toList.map (l G a))
  |_=>ae
 |_=>ae
def gj(b:Option Tmp)(r:AV×AS):AS:=
 match b with
 |aa a=>{r.2 with env:=put a r.1 r.2.env}
 |ae=>r.2
end
inductive Md where
 |df|cb|res
 deriving DecidableEq
mutual
inductive aM(a:List Obj):Md->AV->AV->Prop
 |int (b:Md) (w:IntKind) (x:Int):aM a b (.int w x) (.int w x)
 |bool (b:Md) (c:Bool):aM a b (.bool c) (.bool c)
 |str (b:Md) (y:List UInt8):aM a b (.str y) (.str y)
 |gE (b:Md):aM a b .gE .gE
 |fN (b:Md):aM a b .fN .fN
 |jX (b:Md):aM a b .jX .jX
 |undef (b:Md) (k:AV):aM a b k .undef
 |aq (b:Md) (c:Bool):aM a b .aq (.sl c [])
 |dG (b:Md) (c:Bool):aM a b .dG (.sl c [])
 |agg (b:Md) (d e:List AV) (h:b6 a b d e):aM a b (.agg d) (.agg e)
 |aB (b:Md) (d e:List AV) (h:b6 a b d e):aM a b (.aB d) (.aB e)
 |xB (b:Md) (C:b≠.res) (c:Bool) (f i:List (List AV)) (h:fF a .df f i):aM a b (.sl c f) (.sl c i)
 |CC (c:Bool) (f i:List (List AV)) (h:fF a .df f i):aM a .df (.sl c f) (.sl ad i)
 |CD (c:Bool) (f i:List (List AV)) (h:fF a .res f i):aM a .res (.sl c f) (.sl c i)
 |AK (c:Bool) (f i:List (List AV)) (h:fF a .cb f i):aM a .cb (.sl c f) (.sl ad i)
 |vX (id g off len o:Nat) (f i:List (List AV)) (r:a[id]?=aa (.arr g o f)) (B:off+len<=Z f) (h:fF a .cb ((f.drop off).take len) i):aM a .cb (.q id g off len) (.sl ad i)
 |pE (id g off len o:Nat) (f i:List (List AV)) (r:a[id]?=aa (.arr g o f)) (B:off+len<=Z f) (h:fF a .res ((f.drop off).take len) i):aM a .res (.q id g off len) (.sl ab i)
 |uN (b:Md) (C:b≠.res) (c:Bool) (d e:List AV) (off:Nat) (h:b6 a .df d e):aM a b (.aH c d off) (.aH c e off)
 |Ja (c:Bool) (d e:List AV) (off:Nat) (h:b6 a .df d e):aM a .df (.aH c d off) (.aH ad e off)
 |CF (c:Bool) (d e:List AV) (off:Nat) (h:b6 a .res d e):aM a .res (.aH c d off) (.aH c e off)
 |AL (c:Bool) (d e:List AV) (off:Nat) (h:b6 a .cb d e):aM a .cb (.aH c d off) (.aH ad e off)
 |oU (id g p off o:Nat) (f:List (List AV)) (d e:List AV) (r:a[id]?=aa (.arr g o f)) (A:f[p]?=aa d) (h:b6 a .cb d e):aM a .cb (.ptr id g p off) (.aH ad e off)
 |Fb (id g p off o:Nat) (f:List (List AV)) (d e:List AV) (r:a[id]?=aa (.arr g o f)) (A:f[p]?=aa d) (h:b6 a .res d e):aM a .res (.ptr id g p off) (.aH ab e off)
 |y7 (l vs m j:List AV) (h:b6 a .df l m) (t:b6 a .df vs j):aM a .df (.ih l vs) (.ih m j)
 |xC (l vs m j:List AV) (h:b6 a .cb l m) (t:b6 a .cb vs j):aM a .cb (.ih l vs) (.ih m j)
 |xD (id:Nat) (z:Bool) (l vs m j:List AV) (r:a[id]?=aa (.mp z l vs)) (h:b6 a .cb l m) (t:b6 a .cb vs j):aM a .cb (.b7 id) (.ih m j)
 |fn (b:Md) (v:Nat) (u bs d e:List AV) (h:b6 a b u bs) (t:b6 a b d e):aM a b (.fn v u d) (.fn v bs e)
 |iface (b:Md) (s:Nat) (k n:AV) (h:aM a b k n):aM a b (.iface s k) (.iface s n)
inductive b6 (a:List Obj):Md->List AV->List AV->Prop
 |nil (b:Md):b6 a b [] []
 |cons (b:Md) (k n:AV) (vs j:List AV) (h:aM a b k n) (s:b6 a b vs j):b6 a b (k::vs) (n::j)
inductive fF (a:List Obj):Md->List (List AV)->List (List AV)->Prop
 |nil (b:Md):fF a b [] []
 |cons (b:Md) (k n:List AV) (vs j:List (List AV)) (h:b6 a b k n) (s:fF a b vs j):fF a b (k::vs) (n::j)
end
variable{M:List Obj}{c9:Md}{E dQ:AV}{bE:List AV}
theorem b6.ck{vs:List AV}(h:aM M c9 E dQ)(a:b6 M c9 vs bE):b6 M c9 (E::vs) (dQ::bE):=.cons _ _ _ _ _ h a
variable{b0:List (List AV)}
theorem fF.ck{a:List AV}{vs:List (List AV)}(h:b6 M c9 bE a)(b:fF M c9 vs b0):fF M c9 (bE::vs) (a::b0):=.cons _ _ _ _ _ h b
mutual
inductive NB:AV->Prop
 |int (e:IntKind) (f:Int):NB (.int e f)
 |bool (c:Bool):NB (.bool c)
 |str (g:List UInt8):NB (.str g)
 |gE:NB .gE
 |fN:NB .fN
 |jX:NB .jX
 |undef:NB .undef
 |agg (a:List AV) (h:sT a):NB (.agg a)
 |aB (a:List AV) (h:sT a):NB (.aB a)
 |Jb (c:Bool):NB (.sl c [])
 |sl (d:List (List AV)) (h:vY d):NB (.sl ab d)
 |aH (a:List AV) (off:Nat) (h:sT a):NB (.aH ab a off)
inductive sT:List AV->Prop
 |nil:sT []
 |cons (b:AV) (vs:List AV) (h:NB b) (i:sT vs):sT (b::vs)
inductive vY:List (List AV)->Prop
 |nil:vY []
 |cons (b:List AV) (vs:List (List AV)) (h:sT b) (i:vY vs):vY (b::vs)
end
inductive AN(s:AS):Md->AV->AV->Prop
 |of (m:Md) (v u:AV) (h:aM s.hp m v u):AN s m v u
 |lp (k off:Nat) (cs ds:List AV) (hb:look k s.bx=aa cs) (h:b6 s.hp .cb cs ds):AN s .cb (.lp k off) (.aH ad ds off)
inductive qt(s:AS)(m:Md):List AV->List AV->Prop
 |nil:qt s m [] []
 |cons (v u:AV) (vs us:List AV) (h:AN s m v u) (t:qt s m vs us):qt s m (v::vs) (u::us)
inductive fg where
 |norm
 |exit(id:Nat)
 |ret
 deriving DecidableEq
abbrev fq:=Nat->List AV->List Obj->AV->List Obj->Prop
section
variable(P:Program)(G:Nat->Option (List AV))(An:Nat->bR)(X:fq)
def ga(d:Array Oper)(e:AS)(c:Oper):Option Bool:=
 match c.guard with
 |ae=>aa ad
 |aa (b,g)=>
  match(d[b]?).bind (·.dst)with
  |aa f=>
   match look f e.env with
   |aa (.bool a)=>aa (a==g)
   |aa (.aB [])=>aa ab
   |_=>ae
  |ae=>ae
def ja(b:AS)(c:Call):Option (Nat×List AV):=
 match c.callee with
 |.value a=>
  match l G b a with
  |.fn a first cap=>aa (a,first.map AV.pl++c.args.toList.map (l G b)++cap.map AV.pl)
  |_=>ae
 |.invoke r name=>
  match l G b r with
  |.iface e f=>
   match((P.info? e).bind λh=>h.methods.find? (·.name==name))with
   |some d=>
    match d.path.toList,d.func,P.underlying e with
    |[],aa (a,ad),aa (.pointer _)=>aa (a,f.pl::c.args.toList.map (l G b))
    |[],aa (a,ab),aa (.pointer g)=>
     match oR P b g f.pl with
     |aa i=>aa (a,i.pl::c.args.toList.map (l G b))
     |ae=>ae
    |_,_,_=>ae
   |none=>ae
  |_=>ae
 |.builtin _=>ae
def sU(b:bR)(a:AS):AS:={env:=k0 b.mI a.env,bx:=k0 b.mI a.bx,hp:=a.hp}
def qu(c:bR)(d:Operand)(a:AS):AS:=
 match d with
 |.tmp b=>if b∈c.cs then{a with env:=lz b a.env}else a
 |_=>a
def Fc(b a:AS):AS:={env:=k0 (b.env.map (·.1)) a.env,bx:=k0 (b.bx.map (·.1)) a.bx,hp:=a.hp}
def gG(b:Array Oper)(a:List Nat):List Oper:=a.filterMap (b[·]?)
def pF(a:Array Oper)(done:List Nat):List Nat->Prop
 |[]=>∀i,i<a.size->i∈done
 |i::d=>i∉done/\(∃c,a[i]?=aa c/\∀b∈c.after,Region.binds .any b=ad->b.on∈done)/\pF a (i::done) d
def uO(c:Nat)(e:Array Oper):Bool:=
 e.toList.zipIdx.all λ(b,d)=>b.dst.all (· <c)&&b.after.all λa=> !Region.binds .any a||a.on<d
def gH(b:Nat):Code->Bool
 |.region _ d _=>uO b d
 |.seq a c=>gH b a&&gH b c
 |.cond _ a c=>gH b a&&gH b c
 |.block _ a=>gH b a
 |.loop a=>gH b a
 |.scope a=>gH b a
 |_=>ad
def nU:Nat->List AV->List (Nat×AV)
 |_,[]=>[]
 |k,a::vs=>(k,a)::nU (k+1) vs
def xE(a:AS):ResultVar->Option AV
 |.tmp b=>aa ((look b a.env).getD .undef).pl
 |.cell c b=>(oR P a b ((look c a.env).getD .undef)).map .pl
def vZ(a:AS):List ResultVar->Option (List AV)
 |[]=>aa []
 |r::rs=>
  match xE P a r,vZ a rs with
  |aa b,aa vs=>aa (b::vs)
  |_,_=>ae
def xF(fn:Func)(a:AS):Option AV:=
 match vZ P a fn.results.toList with
 |aa [b]=>aa b
 |aa vs=>aa (.aB vs)
 |ae=>ae
mutual
inductive nV:bR->Array Oper->List Oper->AS->AS->Prop
 |nil (b:bR) (f:Array Oper) (a:AS):nV b f [] a a
 |skip (b:bR) (f:Array Oper) (c:Oper) (k:List Oper) (a d:AS) (y:ga f a c=aa ab) (h:nV b f k (gj c.dst (.aB [],a)) d):nV b f (c::k) a d
 |op (b:bR) (f:Array Oper) (c:Oper) (k:List Oper) (a d:AS) (r:AV×AS) (y:ga f a c=aa ad) (o:aV P G b a c.dst c.op=aa r) (h:nV b f k (gj c.dst r) d):nV b f (c::k) a d
 |uP (b:bR) (f:Array Oper) (c:Oper) (k:List Oper) (a d:AS) (i:Call) (j:Nat) (q:Md) (args z:List AV) (D r:AV) (B:List Obj) (y:ga f a c=aa ad) (o:c.op=.call i) (x:ja P G a i=aa (j,args))
  (N:q≠.res) (J:qt a q args z) (C:k1 j z [] D B) (R:aM B .res D r) (I:q=.cb->NB r) (h:nV b f k (gj c.dst (r,a)) d):nV b f (c::k) a d
 |uQ (b:bR) (f:Array Oper) (c:Oper) (k:List Oper) (a d:AS) (i:Call) (j:Nat) (args:List AV) (r:AV) (A:List Obj) (y:ga f a c=aa ad) (o:c.op=.call i) (x:ja P G a i=aa (j,args))
  (C:k1 j (args.map AV.pl) a.hp r A) (h:nV b f k (gj c.dst (r.pl,{a with hp:=A})) d):nV b f (c::k) a d
inductive iE:bR->Code->AS->fg->AS->Prop
 |skip (b:bR) (a:AS):iE b .skip a .norm a
 |label (b:bR) (p:Nat) (a:AS):iE b (.label p) a .norm a
 |region (b:bR) (id:Nat) (f:Array Oper) (a d:AS) (h:nV b f f.toList a d):iE b (.region id f ab) a .norm (sU b d)
 |Fe (b:bR) (id:Nat) (f:Array Oper) (a d:AS) (h:∀p,pF f [] p->nV b f (gG f p) a d):iE b (.region id f ad) a .norm (sU b d)
 |seq (b:bR) (e n:Code) (a m d:AS) (c:fg) (h:iE b e a .norm m) (F:iE b n m c d):iE b (.seq e n) a c d
 |Jc (b:bR) (e n:Code) (a d:AS) (c:fg) (h:iE b e a c d) (o:c≠.norm):iE b (.seq e n) a c d
 |cond (b:bR) (i:Operand) (e n:Code) (a d:AS) (c:fg) (E:Bool) (x:l G a i=.bool E) (h:iE b (if E then e else n) (qu b i a) c d):iE b (.cond i e n) a c d
 |block (b:bR) (id:Nat) (e:Code) (a d:AS) (c:fg) (h:iE b e a c d) (o:c≠.exit id):iE b (.block id e) a c d
 |aa3 (b:bR) (id:Nat) (e:Code) (a d:AS) (h:iE b e a (.exit id) d):iE b (.block id e) a .norm d
 |loop (b:bR) (e:Code) (a m d:AS) (c:fg) (h:iE b e a .norm m) (F:iE b (.loop e) (Fc a m) c d):iE b (.loop e) a c d
 |aa4 (b:bR) (e:Code) (a d:AS) (c:fg) (h:iE b e a c d) (o:c≠.norm):iE b (.loop e) a c d
 |exit (b:bR) (id:Nat) (a:AS):iE b (.exit id) a (.exit id) a
 |ret (b:bR) (a:AS):iE b .ret a .ret a
 |scope (b:bR) (e:Code) (a d:AS) (c:fg) (h:iE b e a c d):iE b (.scope e) a c d
 |sub (b:bR) (e:Code) (a m d:AS) (c:fg) (K:∀u v,look u m.env=aa v->look u a.env=aa v) (H:∀u v,look u m.bx=aa v->look u a.bx=aa v) (M:m.hp=a.hp) (h:iE b e m c d):iE b e a c d
 |aa5 (b:bR) (i:Code) (a:AS) (q g:Operand) (p:List Nat) (t:List Obj) (x:CB P i=aa (q,g,p)) (o:xv (l G a q) (l G a g) a.hp=aa t):iE b i a .norm {env:=lI p a.env,bx:=a.bx,hp:=t}
inductive k1:Nat->List AV->List Obj->AV->List Obj->Prop
 |run (j:Nat) (fn:Func) (w:Code) (args:List AV) (s:List Obj) (c:fg) (d:AS) (r:AV) (L:P.funcs[j]?=aa fn) (H:fn.body=aa w) (O:(fn.name== "runtime.NumGoroutine")=ab) (I:Z args<=fn.ntmps) (Q:gH fn.ntmps w=ad)
  (h:iE (An j) w {env:=nU 0 args,bx:=[],hp:=s} c d) (o:c=.norm\/c=.ret) (C:xF P fn d=aa r):k1 j args s r d.hp
 |uR (j:Nat) (args:List AV) (s t:List Obj) (r:AV) (h:X j args s r t):k1 j args s r t
end
end
structure ar where
 w:World
 S:Bool->Nat->Prop
 h:Nat->Option (Nat×Nat)
 bx:Nat->Option Nat
 H:List Obj
mutual
inductive R(E:ar):AV->Value->Prop
 |int (l:IntKind) (D:Int):R E (.int l D) (.int l D)
 |bool (a:Bool):R E (.bool a) (.bool a)
 |str (a:ByteArray):R E (.str a.data.toList) (.string a)
 |agg (d:List AV) (vs:Array Value) (h:RL E d vs.toList) (y:∀f∈vs.toList,f.oneCell'=ad):R E (.agg d) (.agg vs)
 |aB (d:List AV) (vs:Array Value) (h:RL E d vs.toList):R E (.aB d) (.tuple vs)
 |aq:R E .aq (.slice ae 0 0)
 |dG (j:Addr):R E .dG (.slice (aa j) 0 0)
 |oO:R E .oO (.map ae)
 |jN (a:Bool) (j:Option Addr) (cap:Nat):R E (.sl a []) (.slice j 0 cap)
 |sl (m:Bool) (c:List (List AV)) (a e l cap:Nat) (d:Array Value) (p:TypeId) (r:Nat×Nat) (z:E.S m a) (A:E.w.heap[a]?=aa (.cells d p r)) (I:∀F∈c,Z F=l)
  (M:Z c<=cap) (J:e+Z c*l<=d.size) (h:RL E c.flatten ((d.toList.drop e).take (Z c*l))) (y:∀f∈(d.toList.drop e).take (Z c*l),f.oneCell'=ad):R E (.sl m c) (.slice (aa ⟨a,e,ae⟩) (Z c) cap)
 |q (id g off len:Nat) (b:Value) (t:id<Z E.H) (s:∃j cap,b=.slice j len cap) (G:∀n i c,E.H[id]?=aa (.arr n i c)->g<=n)
  (h:∀i c,E.H[id]?=aa (.arr g i c)->∃j cap,b=.slice j len cap/\len<=cap/\off+len<=Z c/\(cap=0\/∃a k,E.h id=aa (a,k)/\j=aa ⟨a,off*i,ae⟩/\(off+cap)*i<=k)):R E (.q id g off len) b
 |ih (C vs:List AV) (a clock:Nat) (c:Array MapEntry) (z:E.S ad a) (A:E.w.heap[a]?=aa (.map c clock)) (I:RL E C (c.toList.map (·.key))) (N:RL E vs (c.toList.map (·.val))):R E (.ih C vs) (.map (aa a))
 |b7 (id:Nat) (b:Value) (t:id<Z E.H) (s:b.oneCell'=ad) (h:∀e,E.H[id]?=aa e->e.Cw=ad->∃a k,E.h id=aa (a,k)/\b=.map (aa a)):R E (.b7 id) b
 |pB (id:Nat) (b:Value) (t:id<Z E.H) (s:b.oneCell'=ad) (h:∀K pos,E.H[id]?=aa (.iD K pos)->∃a k,E.h id=aa (a,k)/\b=.pointer (aa ⟨a,0,ae⟩)):R E (.pB id) b
 |ptr (id g B off:Nat) (b:Value) (t:id<Z E.H) (s:b.oneCell'=ad) (G:∀n i c,E.H[id]?=aa (.arr n i c)->g<=n) (h:∀i c,E.H[id]?=aa (.arr g i c)->∃a k,E.h id=aa (a,k)/\b=.pointer (aa ⟨a,B*i+off,ae⟩)):R E (.ptr id g B off) b
 |aH (m:Bool) (d:List AV) (off a e:Nat) (vs:Array Value) (p:TypeId) (r:Nat×Nat) (z:E.S m a) (A:E.w.heap[a]?=aa (.cells vs p r)) (J:e+Z d<=vs.size)
  (h:RL E d ((vs.toList.drop e).take (Z d))) (y:∀f∈(vs.toList.drop e).take (Z d),f.oneCell'=ad):R E (.aH m d off) (.pointer (aa ⟨a,e+off,ae⟩))
 |gE:R E .gE (.pointer ae)
 |fn (x:Nat) (v d:List AV) (o vs:Array Value) (h:RL E v o.toList) (L:RL E d vs.toList):R E (.fn x v d) (.func (.func x) o vs)
 |fN:R E .fN .nilFunc
 |iface (u:Nat) (b:AV) (f:Value) (h:R E b f):R E (.iface u b) (.iface u f)
 |jX:R E .jX .nilIface
 |undef (b:Value):R E .undef b
inductive RL (E:ar):List AV->List Value->Prop
 |nil:RL E [] []
 |cons (b:AV) (f:Value) (vs:List AV) (o:List Value) (h:R E b f) (u:RL E vs o):RL E (b::vs) (f::o)
end
def oV(b:ar)(id:Nat):Obj->Prop
 |.arr _ e a=>(∀l∈a,Z l=e)/\
  ((a=[]/\b.h id=ae)\/∃c d m,b.h id=aa (c,d.size)/\b.w.heap[c]?=aa (.cells d m (0,0))/\Z a*e<=d.size/\RL b a.flatten (d.toList.take (Z a*e))/\∀q∈d.toList.take (Z a*e),q.oneCell'=ad)
 |.mp n g vs=>∃(c:Nat)(a:Array MapEntry)(clock:Nat),b.h id=aa (c,0)/\b.w.heap[c]?=aa (.map a clock)/\RL b g (a.toList.map (·.key))/\RL b vs (a.toList.map (·.val))/\(n=ad->clock=Z g/\a.toList.map (·.born)=ay (Z g))
 |.fm o=>∃(c:Nat)(a:Array MapEntry)(clock:Nat)(f:List (Int×Int)),b.h id=aa (c,0)/\b.w.heap[c]?=aa (.map a clock)/\a.toList.map (·.key)=f.map (λi=>Value.int .i64 i.1)/\a.toList.map (·.val)=f.map (λi=>Value.int .i64 i.2)/\∀k,gi k f=gi k o
 |.iD p pos=>∃(c:Nat)(j:ByteArray),b.h id=aa (c,0)/\b.w.heap[c]?=aa (.stringIter j pos)/\j.data.toList=p
structure Good(E:ar):Prop where
 iF:∀br b,E.S br b->E.S ad b
 iG:∀b,E.S ad b->b<E.w.heap.size
 dC:∀id b z,E.h id=aa (b,z)->b<E.w.heap.size/\¬E.S ad b/\id<Z E.H
 jY:∀i j b z z',E.h i=aa (b,z)->E.h j=aa (b,z')->i=j
 blt:∀k b,E.bx k=aa b->b<E.w.heap.size/\¬E.S ad b/\∀id z,E.h id≠aa (b,z)
 mK:∀i j b,E.bx i=aa b->E.bx j=aa b->i=j
 gI:∀id o,E.H[id]?=aa o->oV E id o
def hM:Obj->Obj->Option (Nat×Nat)->Option (Nat×Nat)->Prop
 |.arr g e c,.arr b f d,h,a=>g<=b/\(g=b->e=f/\Z c=Z d/\a=h)
 |.mp _ _ _,.mp _ _ _,h,a=>a=h
 |.mp _ _ _,.fm _,h,a=>a=h
 |.fm _,.fm _,h,a=>a=h
 |.iD _ _,.iD _ _,h,a=>a=h
 |_,_,_,_=>False
theorem hM.refl(a:Obj)(h:Option (Nat×Nat)):hM a a h h:=by
 cases a<;>simp[hM]
variable{hL:Obj}
theorem hM.trans{a b:Obj}{h g i:Option (Nat×Nat)}(e:hM hL a h g)(f:hM a b g i):hM hL b h i:=by
 cases hL<;>cases a<;>simp only[hM]at e<;>cases b<;>simp only[hM]at f<;>simp only[hM]
 let⟨j,k⟩:=e;let⟨l,m⟩:=f;refine⟨iP j l,λn=>?_⟩;have c:=k (by omega);have d:=m (by omega);exact⟨c.1.trans d.1,c.2.1.trans d.2.1,d.2.2.trans c.2.2⟩
 all_goals exact f.trans e
structure Fr(E E':ar):Prop where
 os:E'.w.os=E.w.os
 output:E'.w.output=E.w.output
 tape:E'.w.tape=E.w.tape/\E.w.drawn<=E'.w.drawn
 size:E.w.heap.size<=E'.w.heap.size
 pG:∀br b,E.S br b->E'.S br b
 pH:∀br b,E'.S br b->E.S br b\/E.w.heap.size<=b
 heap:∀b,b<E.w.heap.size->(∀id z,E.h id≠aa (b,z))->(∀k,E.bx k≠aa b)->E'.w.heap[b]?=E.w.heap[b]?
 k3:Z E.H<=Z E'.H
 kG:∀id o',id<Z E.H->E'.H[id]?=aa o'->∃o,E.H[id]?=aa o/\hM o o' (E.h id) (E'.h id)
 oW:∀id b z,E'.h id=aa (b,z)->(∃i z',E.h i=aa (b,z'))\/E.w.heap.size<=b
 rH:∀k b,E'.bx k=aa b->(∃k',E.bx k'=aa b)\/E.w.heap.size<=b
theorem Fr.refl(E:ar):Fr E E where
 os:=rfl
 output:=rfl
 tape:=⟨rfl,c5 _⟩
 size:=c5 _
 pG:=λ_ _ h=>h
 pH:=λ_ _ h=>.inl h
 heap:=λ_ _ _ _=>rfl
 k3:=c5 _
 kG:=λ_ a _ h=>⟨a,h,hM.refl _ _⟩
 oW:=by grind
 rH:=by grind
theorem Fr.trans{A B C:ar}(x:Fr A B)(y:Fr B C):Fr A C where
 os:=y.os.trans x.os
 output:=y.output.trans x.output
 tape:=⟨y.tape.1.trans x.tape.1,iP x.tape.2 y.tape.2⟩
 size:=iP x.size y.size
 pG:=λc b h=>y.pG c b (x.pG c b h)
 pH:=λc b h=>by
  rcases y.pH c b h with h|h;exact x.pH c b h;exact .inr (iP x.size h)
 heap:=λb hb l n=>by
  rw[y.heap b (jL hb x.size) ?_ ?_,x.heap b hb l n];intro id z e;rcases x.oW id b z e with⟨i,f,j⟩|h;grind;omega;intro k e;rcases x.rH k b e with⟨r,j⟩|h;grind;omega
 k3:=iP x.k3 y.k3
 kG:=λid q d h=>by
  let⟨o,m,a⟩:=y.kG id q (jL d x.k3) h;let⟨p,hp,g⟩:=x.kG id o d m;exact⟨p,hp,g.trans a⟩
 oW:=λid b z h=>by
  rcases y.oW id b z h with⟨i,f,e⟩|h;exact x.oW i b f e;exact .inr (iP x.size h)
 rH:=λk b h=>by
  rcases y.rH k b h with⟨i,e⟩|h;exact x.rH i b e;exact .inr (iP x.size h)
variable{Y gA:ar}{T:Bool}{U:Nat}
theorem Fr.OL(b:Fr Y gA)(g:Good Y)(c:Y.S T U):gA.w.heap[U]?=Y.w.heap[U]?:=
 have h:=g.iF T U c
 b.heap U (g.iG U h) (λid e a=>(g.dC id U e a).2.1 h) (λd a=>(g.blt d U a).2.1 h)
structure Rm(E E':ar):Prop where
 S:∀br b,E.S br b->E'.S br b
 heap:∀br b,E.S br b->E'.w.heap[b]?=E.w.heap[b]?
 k3:Z E.H<=Z E'.H
 kG:∀id o',id<Z E.H->E'.H[id]?=aa o'->∃o,E.H[id]?=aa o/\hM o o' (E.h id) (E'.h id)
theorem Fr.rm(a:Fr Y gA)(g:Good Y):Rm Y gA:=⟨a.pG,λ_ _ h=>a.OL g h,a.k3,a.kG⟩
mutual
theorem R.gR{o p:ar}(b:Rm o p):∀{c:AV}{k:Value},R o c k->R p c k
 |_,_,.int D X=>.int D X
 |_,_,.bool e=>.bool e
 |_,_,.str e=>.str e
 |_,_,.agg j vs h t=>.agg j vs (RL.gR b h) t
 |_,_,.aB j vs h=>.aB j vs (RL.gR b h)
 |_,_,.aq=>.aq
 |_,_,.dG a=>.dG a
 |_,_,.oO=>.oO
 |_,_,.jN e a cap=>.jN e a cap
 |_,_,.sl w m e d D cap j z A l u B P C h t=>.sl w m e d D cap j z A (b.S _ e l) ((b.heap _ _ l).trans u) B P C (RL.gR b h) t
 |_,_,.q id s off len c f n v h=>by
  refine .q id s off len c (jL f b.k3) n (λN E m g=>?_) λE m g=>?_
  let⟨d,i,a⟩:=b.kG id _ f g
  cases d with
  |arr r F y=>exact iP (v _ _ _ i) a.1
  |mp _ _ _=>cases a
  |fm _=>cases a
  |iD _ _=>cases a
  let⟨d,i,a⟩:=b.kG id _ f g
  cases d with
  |arr r F y=>
   have x:r=s:=arf a.1 (v _ _ _ i)
   let⟨L,T,Q⟩:=a.2 x
   grind
  |mp _ _ _=>cases a
  |fm _=>cases a
  |iD _ _=>cases a
 |_,_,.ih W vs e clock m l u B U=>.ih W vs e clock m (b.S _ e l) ((b.heap _ _ l).trans u) (RL.gR b B) (RL.gR b U)
 |_,_,.b7 id c f n h=>.b7 id c (jL f b.k3) n λY g J=>by
  let⟨d,i,a⟩:=b.kG id _ f g
  have I:=h d i
  cases d<;>cases Y<;>simp only[hM,Obj.Cw]at a J I<;>first|cases a;done|cases J;done|(rw[a];exact I trivial)
 |_,_,.pB id c f n h=>.pB id c (jL f b.k3) n λac pos g=>by
  let⟨d,i,a⟩:=b.kG id _ f g
  cases d with
  |arr _ _ _=>cases a
  |mp _ _ _=>cases a
  |fm _=>cases a
  |iD af Z=>rw[show p.h id=o.h id from a];grind
 |_,_,.ptr id s V off c f n v h=>by
  refine .ptr id s V off c (jL f b.k3) n (λN E m g=>?_) λE m g=>?_
  let⟨d,i,a⟩:=b.kG id _ f g
  cases d with
  |arr r F y=>exact iP (v _ _ _ i) a.1
  |mp _ _ _=>cases a
  |fm _=>cases a
  |iD _ _=>cases a
  let⟨d,i,a⟩:=b.kG id _ f g
  cases d with
  |arr r F y=>
   have x:r=s:=arf a.1 (v _ _ _ i)
   let⟨L,T,Q⟩:=a.2 x
   grind
  |mp _ _ _=>cases a
  |fm _=>cases a
  |iD _ _=>cases a
 |_,_,.aH w j off e d vs z A l u C h t=>.aH w j off e d vs z A (b.S _ e l) ((b.heap _ _ l).trans u) C (RL.gR b h) t
 |_,_,.gE=>.gE
 |_,_,.fn M K j H vs h O=>.fn M K j H vs (RL.gR b h) (RL.gR b O)
 |_,_,.fN=>.fN
 |_,_,.iface G c k h=>.iface G c k (R.gR b h)
 |_,_,.jX=>.jX
 |_,_,.undef c=>.undef c
theorem RL.gR {o p:ar} (b:Rm o p):∀{c:List AV}{k:List Value},RL o c k->RL p c k
 |_,_,.nil=>.nil
 |_,_,.cons c k vs H h G=>.cons c k vs H (R.gR b h) (RL.gR b G)
end
variable{bA:Value}
theorem R.mono(a:Fr Y gA)(g:Good Y)(h:R Y E bA):R gA E bA:=R.gR (a.rm g) h
variable{hK:List Value}
theorem RL.mono(a:Fr Y gA)(g:Good Y)(h:RL Y bE hK):RL gA bE hK:=RL.gR (a.rm g) h
theorem RL.length:∀{a:List AV}{vs:List Value},RL Y a vs->Z vs=Z a
 |_,_,.nil=>rfl
 |_,_,.cons _ _ _ _ _ b=>by simp[RL.length b]
theorem RL.append:∀{b c:List AV}{vs d:List Value},RL Y b vs->RL Y c d->RL Y (b++c) (vs++d)
 |_,_,_,_,.nil,a=>a
 |_,_,_,_,.cons _ _ _ _ h e,a=>.cons _ _ _ _ h (RL.append e a)
theorem RL.drop:∀(n:Nat){a:List AV}{vs:List Value},RL Y a vs->RL Y (a.drop n) (vs.drop n)
 |0,_,_,h=>by simpa using h
 |_+1,_,_,.nil=>.nil
 |n+1,_,_,.cons _ _ _ _ _ b=>by simpa using RL.drop n b
theorem RL.take:∀(n:Nat){a:List AV}{vs:List Value},RL Y a vs->RL Y (a.take n) (vs.take n)
 |0,_,_,_=>by simpa using RL.nil
 |_+1,_,_,.nil=>.nil
 |n+1,_,_,.cons _ _ _ _ h b=>by simpa using RL.cons _ _ _ _ h (RL.take n b)
theorem RL.get{d:ar}:∀{e:List AV}{vs:List Value},RL d e vs->∀{c:Nat}{f:AV},e[c]?=aa f->∃b,vs[c]?=aa b/\R d f b
 |_,_,.nil,_,_,h=>by simp at h
 |_,_,.cons _ b _ _ h _,0,_,a=>by simp at a;subst a;exact⟨b,by simp,h⟩
 |_,_,.cons _ _ _ _ _ g,c+1,_,a=>by simp at a;simpa using RL.get g a
theorem RL.replicate{vs:List Value}(h:RL Y bE vs):∀n:Nat,RL Y (db n bE).flatten (db n vs).flatten
 |0=>.nil
 |n+1=>by simpa[List.replicate_succ]using RL.append h (RL.replicate h n)
theorem RL.one(h:R Y E bA):RL Y [E] [bA]:=.cons _ _ _ _ h .nil
theorem R.CG(h:R Y E bA)(e:E.bU=ad):bA.oneCell'=true:=by
 cases h with
 |q id g off len E b a c h=>obtain⟨d,cap,rfl⟩:=a;rfl
 |b7 id E b a h=>exact a
 |pB id E b a h=>exact a
 |ptr id g f off E b a c h=>exact a
 |_=>first|rfl|grind[AV.bU]
def RT(a:ar)(e:AV)(d:Value):Prop:=R a e d\/∃c off b,e=.lp c off/\a.bx c=aa b/\d=.pointer (aa ⟨b,off,ae⟩)
theorem R.pl(h:RT Y E bA):R Y E.pl bA:=by
 rcases h with h|⟨b,off,a,rfl,_,_⟩;cases E<;>first|exact h|exact .undef _
 exact .undef _
structure St(E:ar)(s:AS)(tmps:Array Value):Prop where
 bM:Good E
 hp:s.hp=E.H
 env:∀k v,look k s.env=aa v->RT E v (tmps.getD k undef)
 bx:∀k cs,look k s.bx=aa cs->∃b vs Ff,E.bx k=aa b/\E.w.heap[b]?=aa (.cells vs Ff (0,0))/\RL E cs vs.toList/\∀u∈vs.toList,u.oneCell'=ad
def ar.base(a:ar):ar:={w:=a.w,S:=λ_=>a.S ab,h:=λ_=>ae,bx:=λ_=>ae,H:=[]}
theorem ar.aa6{E:ar}(g:Good E):Rm E.base E where
 S:=λa b h=>by cases a;exact h;exact g.iF ab b h
 heap:=λ_ _ _=>rfl
 k3:=vL _
 kG:=λid c h=>absurd h (Ol _)
theorem Fr.base{E:ar}(f:Fr E Y)(g:Good E):Rm E.base Y.base where
 S:=λ_ b h=>f.pG ab b h
 heap:=λ_ _ h=>f.OL g (T:=false) h
 k3:=c5 _
 kG:=λid c h=>absurd h (Ol _)
def du(c:Nat->Option (List AV))(b:ar):Prop:=∀g a,c g=aa a->R b.base (.aH ab a 0) (.pointer (aa ⟨g,0,ae⟩))
theorem du.mono{a:Nat->Option (List AV)}(h:du a Y)(d:Fr Y gA)(g:Good Y):du a gA:=λe b c=>R.gR (d.base g) (h e b c)
theorem du.Jd{a:Nat->Option (List AV)}(h:du a Y)(c:gA.base=Y.base):du a gA:=λe b d=>by rw[c];exact h e b d
variable{u:TypeId}{oE:TypeInfo}{lr:TypeDesc}{L:AS}{s:Act}{B:Oper}{eG:Array Value}{mG:Nat × Nat}{cr:TypeId}{m:Operand}
section
variable{P:Program}{G:Nat->Option (List AV)}{A:bR}
theorem jw(h:P.info? u=aa oE):bh P u=oE.size:=by simp[bh,h]
theorem Je(h:P.info? u=aa oE):uL P u=oE.bytes:=by simp[uL,h]
theorem info_of_underlying(h:P.underlying u=aa lr):∃a,P.info? u=aa a:=by
 grind[Program.underlying]
theorem AO(h:P.underlying u=aa lr):fp P u=y0 lr:=by
 simp[fp,h]
theorem OM{a:AV}(h:ofValue bA=aa a):R Y a bA/\a.bU=true:=by
 unfold ofValue at h;split at h<;>simp at h<;>subst h
 exact⟨.bool _,rfl⟩;exact⟨.int _ _,rfl⟩;exact⟨.str _,rfl⟩;exact⟨.gE,rfl⟩;exact⟨.aq,rfl⟩;exact⟨.fN,rfl⟩;exact⟨.jX,rfl⟩;exact⟨.oO,rfl⟩
theorem Jf{b:ar}:∀{vs:List Value}{c:List AV},xw vs=aa c->RL b c vs/\∀i∈vs,i.oneCell'=ad
 |[],c,h=>by simp[xw]at h;subst h;exact⟨.nil,by simp⟩
 |v::vs,c,h=>by
  simp only[xw]at h;rcases f:ofValue v with _|a;grind;rcases g:xw vs with _|bs;grind;simp[f,g]at h;subst h;let⟨d,j⟩:=OM (Y:=b) f;let⟨k,l⟩:=Jf (b:=b) g;refine⟨.cons _ _ _ _ d k,λi e=>?_⟩;rcases b5.1 e with rfl|e;exact d.CG j;grind
theorem ON:R Y ((rF bA).getD .undef) bA:=by
 cases bA with
 |agg b=>
  simp only[rF];rcases h:xw b.toList with _|as;exact .undef _;let⟨c,d⟩:=Jf (b:=Y) h;exact .agg _ _ c d
 |_=>
  simp only[rF];generalize e:ofValue _=r;rcases r with _|a;exact .undef _;exact(OM e).1
theorem dH(b:St Y L s.tmps)(e:du G Y)(a:Operand):RT Y (l G L a) (s.eval a):=by
 cases a with
 |tmp c=>
  simp only[l,Act.eval];rcases h:look c L.env with _|v;exact .inl (.undef _);exact b.env c v h
 |const v=>exact .inl ON
 |global g=>
  simp only[l,Act.eval];rcases h:G g with _|cs;exact .inl (.undef _);exact .inl (R.gR (ar.aa6 b.bM) (e g cs h))
 |func d=>exact .inl (.fn d [] [] #[] #[] .nil .nil)
theorem R.cells{a:AV}(h:R Y a bA)(c:a.cells.all AV.bU=ad):RL Y a.cells bA.cells.toList/\∀e∈bA.cells.toList,e.oneCell'=true:=by
 cases a with
 |agg f=>cases h with|agg _ vs h b=>exact⟨h,b⟩
 |_=>
  simp only[AV.cells,oz,AA,yP]at c;have b:=h.CG c;have d:bA.cells=#[bA]:=by cases bA<;>first|rfl|simp[Value.oneCell']at b
  rw[d];exact⟨RL.one h,by grind⟩
def cv(P:Program)(f:Oper)(e:Act)(d:ar)(h:AV)(g:AS):Prop:=
 ∃b c a,(execOp e.eval f).run P d.w=.ok b a.w/\(b=.value c\/b=.skip/\c=undef)/\RT a h c/\St a g e.tmps/\Fr d a
theorem cv.still{a:AV}(d:St Y L s.tmps)(b:(execOp s.eval B).run P Y.w=.ok (.value bA) Y.w)(c:RT Y a bA):cv P B s Y a L:=
 ⟨_,bA,Y,b,.inl rfl,c,d,Fr.refl Y⟩
theorem Jg{w:World}(e:w.heap[U]?=aa (.cells eG u mG))(d:Nat)(b:List Value)(g:(eG.toList.drop d).take (Z b)=b):
 ∀a c,b[a]?=aa c->w.cell? ((⟨U,d,ae⟩:Addr).add a)=aa c:=by
 intro a c f;rw[Addr.add_mid,cell_of_row w U _ eG u mG e];grind
theorem aa7{w:World}(d:w.heap[U]?=aa (.cells eG u mG))(a b:Nat)(h:a+b<=eG.size):
 (loadCells ⟨U,a,ae⟩ b).run P w=.ok ((eG.toList.drop a).take b).toArray w:=by
 have c:Z ((eG.toList.drop a).take b)=b:=by simp;omega
 have:=run_loadCells_list (P:=P) w ⟨U,a,ae⟩ ((eG.toList.drop a).take b) (Jg d a _ (by rw[c]));rw[c]at this;exact this
theorem Jh{w:World}(b:w.heap[U]?=aa (.cells eG cr mG))(a:Nat)(i:P.info? u=aa oE)(c:P.underlying u=aa lr)
 (h:a+oE.size<=eG.size)(e:fp P u=ab->oE.size=1):
 (loadVar u ⟨U,a,ae⟩).run P w=.ok (if fp P u then .agg ((eG.toList.drop a).take oE.size).toArray else((eG.toList.drop a).take oE.size).headD undef) w:=by
 have l:=AO c;have j:(isAgg u).run P w=.ok (fp P u) w:=by
  simp only[isAgg,Sem.run_bind,run_underlying c,Result.andThen_ok];rw[l];cases lr<;>rfl
 simp only[loadVar,Sem.run_bind,j,Result.andThen_ok];cases g:fp P u
 have k:=e g;rw[k]at h⊢;have d:a<eG.size:=by omega
 have f:w.cell? ⟨U,a,ae⟩=aa eG[a]:=by rw[cell_of_row w U a eG cr mG b];simp[d]
 simp[f,List.headD,Om,d];simp[sizeOf,typeInfo,i,aa7 (P:=P) b a oE.size h]
theorem Fg{b:Nat}:∀{a:List (List K)},(∀e∈a,Z e=b)->Z a.flatten=Z a*b
 |[],_=>by simp
 |e::a,h=>by
  have c:=h e (by simp);have d:=Fg (b:=b) (a:=a) (by grind);grind
theorem AP{d:Nat}:∀{b:List (List K)}{c:Nat}{a:List K},(∀e∈b,Z e=d)->b[c]?=aa a->(b.flatten.drop (c*d)).take d=a
 |[],c,a,_,h=>by simp at h
 |e::b,0,a,h,f=>by
  grind
 |e::b,c+1,a,h,f=>by
  have g:=h e (by simp);have i:=AP (d:=d) (b:=b) (c:=c) (a:=a) (by grind) (by grind);simp_all[xo,aaA,uI,q4]
theorem k5(d:List K)(c b a:Nat)(h:b+a<=c):((d.take c).drop b).take a=(d.drop b).take a:=by
 grind[List.drop_take,Nat.min_eq_left]
theorem fO(c:Nat)(d:K)(a:List (Nat×K))(b:Nat):look b (put c d a)=if b=c then aa d else look b a:=by
 induction a with
 |nil=>
  grind[put,look]
 |cons f a e=>
  grind[put,look]
theorem aa8(a c new:List AV)(b:Nat):eV (a++c) (Z a+b) new=a++eV c b new:=by
 unfold eV;rw[arh,aaA,gP (by omega),uI (by omega),show Z a+b -(Z a)=b by omega,show Z a+b+Z new -(Z a)=b+Z new by omega];simp
theorem Ji{d:Nat}:∀{b:List (List AV)}{a:Nat}{c new:List AV}{off:Nat},(∀e∈b,Z e=d)->b[a]?=aa c->off+Z new<=d->(b.set a (eV c off new)).flatten=eV b.flatten (a*d+off) new
 |[],a,c,_,_,_,h,_=>by simp at h
 |e::b,0,c,new,off,h,i,f=>by
  grind[eV]
 |e::b,a+1,c,new,off,h,i,f=>by
  have j:=h e (by simp);have g:=Ji (d:=d) (b:=b) (a:=a) (c:=c) (new:=new) (off:=off) (by grind) (by grind) f;simp only[On,xo,g];rw[show(a+1)*d+off=Z e+(a*d+off)by rw[q4];omega,aa8]
theorem Fh(vs b:List K)(a c:Nat)(h:a+Z b<=c):(vs.take c).take a++b++(vs.take c).drop (a+Z b)=(vs.take a++b++vs.drop (a+Z b)).take c:=by
 by_cases d:a<=Z vs;grind[List.append_assoc,List.take_append,Nat.min_eq_left,List.length_take,List.take_of_length_le,List.drop_take];grind[Nat.min_eq_left,List.take_of_length_le,List.drop_eq_nil_of_le]
theorem Jj(r:St Y L s.tmps){t:AV}(h:RT Y t bA){i:List AV}{off:Nat}(a:pD L t=aa (i,off)):
 ∃d o vs e u,bA=.pointer (aa ⟨d,o+off,ae⟩)/\Y.w.heap[d]?=aa (.cells vs e u)/\o+Z i<=vs.size/\RL Y i ((vs.toList.drop o).take (Z i))/\∀F∈(vs.toList.drop o).take (Z i),F.oneCell'=true:=by
 rcases h with h|⟨D,E,d,rfl,N,rfl⟩;cases t with
 |aH Q R E=>
  simp[pD]at a;let⟨rfl,rfl⟩:=a;cases h with
  |aH _ _ _ d o vs e u V a af h v=>grind
 |ptr id g f E=>
  simp only[pD]at a;rw[r.hp]at a;rcases q:Y.H[id]? with _|o;grind;cases o with
  |arr T b j=>
   simp only[q]at a;split at a;rename_i J;subst J;rcases k:j[f]? with _|c;grind;simp[k]at a;let⟨rfl,rfl⟩:=a;cases h with
   |ptr _ _ _ _ _ X U W h=>
    obtain⟨d,ah,K,rfl⟩:=h b j q;let⟨C,O⟩:=r.bM.gI id _ q;rcases O with⟨rfl,_⟩|⟨G,vs,e,y,p,ac,n,v⟩;simp at k;rw[K]at y;injection y with m;injection m with I S;subst I;have l:Z c=b:=C c (qj k);have M:f<Z j:=(fM.1 k).1;have B:f*b+b<=Z j*b:=by
     have:=my b (show f+1<=Z j from M);rw[q4]at this;exact this
    refine⟨d,f*b,vs,e,(0,0),rfl,p,by omega,?_,?_⟩;have x:=RL.take b (RL.drop (f*b) n);rw[AP C k,k5 _ _ _ _ B]at x;rw[l];exact x;intro F P;rw[l,<-k5 _ _ _ _ B]at P;grind
   grind
  |mp _ _ _=>grind
  |fm _=>grind
  |iD _ _=>grind
 |_=>first|(simp[pD]at a;done)|(cases h)
 simp only[pD]at a;rcases A:look D L.bx with _|c;grind;simp[A]at a;let⟨rfl,rfl⟩:=a;let⟨G,vs,e,z,p,n,v⟩:=r.bx D _ A;rw[N]at z;injection z with m;subst m;have l:=n.length;simp only[yQ]at l;refine⟨d,0,vs,e,(0,0),by simp,p,by omega,?_,?_⟩;grind[List.take_of_length_le];grind
theorem aa9{a:List AV}{vs:List Value}(h:RL Y a vs)(b:Z a=1):R Y (a.headD .undef) (vs.headD undef):=by
 rcases h with _|⟨_,_,_,_,h,_⟩;simp at b;exact h
theorem Fj{g:Bool}{a:List AV}{vs:List Value}(h:RL Y a vs)(d:∀c∈vs,c.oneCell'=ad)(b:g=ab->Z a=1):
 R Y (qo g a) (if g then .agg vs.toArray else vs.headD undef):=by
 cases g
 simpa[qo]using aa9 h (b rfl);simpa[qo]using R.agg a vs.toArray (by omega) (by omega)
theorem aba{j:AV}(e:St Y L s.tmps)(n:du G Y)(q:B.op=.load u m)(h:oR P L u (l G L m)=aa j):cv P B s Y j L:=by
 unfold oR at h;rcases g:pD L (l G L m)with _|r;grind;let⟨f,off⟩:=r;simp only[g]at h;split at h;rename_i b;simp at h;subst h;let⟨x,d,vs,z,A,v,p,E,o,k⟩:=Jj e (dH e n m) g;let⟨y,i⟩:=sH.1 b.2.2;let⟨a,c⟩:=info_of_underlying i;rw[jw c]at b;have D:Z ((f.drop off).take a.size)=a.size:=by simp;omega
 have t:=Jh (P:=P) p (d+off) c i (by omega) b.2.1;refine cv.still e (bA:=if fp P u then .agg ((vs.toList.drop (d+off)).take a.size).toArray else((vs.toList.drop (d+off)).take a.size).headD undef) ?_ (.inl ?_);unfold execOp;simp only[q,Instr.loadAt,v,Instr.sureAddr,Sem.run_bind,Sem.run_pure,Result.andThen_ok,t];rw[jw c];refine Fj ?_ ?_ (by grind);have C:=RL.take a.size (RL.drop off o)
 grind[k5,List.drop_drop];intro m w;apply k;rw[<-vM,<-k5 _ (Z f) _ _ (by omega)]at w;grind;simp at h
end
structure c0(w w':World)(may:Nat->Prop):Prop where
 os:w'.os=w.os
 output:w'.output=w.output
 tape:w'.tape=w.tape/\w.drawn<=w'.drawn
 size:w.heap.size<=w'.heap.size
 block:∀b,b<w.heap.size->¬may b->w'.heap[b]?=w.heap[b]?
theorem c0.refl(w:World)(a:Nat->Prop):c0 w w a:=⟨rfl,rfl,⟨rfl,c5 _⟩,c5 _,λ_ _ _=>rfl⟩
theorem c0.alloc(w:World)(a:Go.Obj)(c:Nat->Prop):c0 w (w.alloc a) c:=
 ⟨rfl,rfl,⟨rfl,c5 _⟩,by simp,λb d _=>by show(w.heap.push a)[b]?=_;grind⟩
theorem c0.drew(w:World)(a:Nat->Prop):c0 w w.drew a:=⟨rfl,rfl,⟨rfl,AB _⟩,c5 _,λ_ _ _=>rfl⟩
theorem c0.setRow(w:World)(g:Nat)(b:Array Value)(a:Nat->Prop)(h:a g):c0 w (w.setRow g b) a:=
 ⟨rfl,rfl,⟨rfl,c5 _⟩,by simp,by grind[setRow_other]⟩
variable{e2:World}
theorem c0.trans{d e:World}{c:Nat->Prop}(a:c0 e2 d c)(b:c0 d e c):c0 e2 e c:=
 ⟨b.os.trans a.os,b.output.trans a.output,⟨b.tape.1.trans a.tape.1,iP a.tape.2 b.tape.2⟩,iP a.size b.size,λh f g=>(b.block h (jL f a.size) g).trans (a.block h f g)⟩
theorem oV.mono(j:Fr Y gA)(g:Good Y){id:Nat}(i:gA.h id=Y.h id)(f:∀a q,Y.h id=aa (a,q)->gA.w.heap[a]?=Y.w.heap[a]?)(h:oV Y id hL):oV gA id hL:=by
 cases hL with
 |arr s x e=>
  refine⟨h.1,?_⟩;rcases h.2 with⟨b,c⟩|⟨a,n,o,b,c,d,k,l⟩;grind;exact .inr ⟨a,n,o,i.trans b,(f a _ b).trans c,d,RL.mono j g k,l⟩
 |mp r t vs=>
  let⟨a,e,clock,b,c,d,k,l⟩:=h;exact⟨a,e,clock,i.trans b,(f a _ b).trans c,RL.mono j g d,RL.mono j g k,l⟩
 |fm u=>
  let⟨a,e,clock,m,b,c,d⟩:=h;exact⟨a,e,clock,m,i.trans b,(f a _ b).trans c,d⟩
 |iD v pos=>
  let⟨a,p,b,c,d⟩:=h;exact⟨a,p,i.trans b,(f a _ b).trans c,d⟩
def ar.bW(a:ar)(e:World)(id:Nat)(d:Obj)(c:Option (Nat×Nat)):ar:=
 {a with w:=e,H:=a.H.set id d,h:=λb=>if b=id then c else a.h b}
theorem ar.sV(g:Good Y){id:Nat}{j:Obj}{e:Option (Nat×Nat)}(f:c0 Y.w e2 (λa=>∃c,Y.h id=aa (a,c)))(y:Y.H[id]?=aa hL)
 (D:hM hL j (Y.h id) e)(p:∀a c,e=aa (a,c)->a<e2.heap.size/\((∃k,Y.h id=aa (a,k))\/Y.w.heap.size<=a))
 (G:Fr Y (Y.bW e2 id j e)->oV (Y.bW e2 id j e) id j):Fr Y (Y.bW e2 id j e)/\Good (Y.bW e2 id j e):=by
 have E:id<Z Y.H:=(fM.1 y).1;have v:∀a,a<Y.w.heap.size->(∀c,Y.h id≠aa (a,c))->e2.heap[a]?=Y.w.heap[a]?:=λa e F=>f.block a e (by grind);have t:Fr Y (Y.bW e2 id j e):={
  os:=f.os,output:=f.output,tape:=f.tape,size:=f.size
  pG:=λ_ _ h=>h,pH:=λ_ _ h=>.inl h
  heap:=λa dC o _=>v a dC (λc=>o id c)
  k3:=by simp[ar.bW]
  kG:=λd s n q=>by
   simp only[ar.bW,ari]at q;by_cases b:id=d;grind[ar.bW];simp_all[ar.bW,Cq,hM.refl]
  oW:=by grind[ar.bW]
  rH:=λr a b=>.inl ⟨r,b⟩}
 refine⟨t,?_⟩;exact{
  iF:=g.iF
  iG:=λa h=>jL (g.iG a h) f.size
  dC:=λd a c b=>by
   simp only[ar.bW]at b;split at b;rename_i n;subst n;let⟨l,m⟩:=p a c b;refine⟨l,?_,by grind[ar.bW]⟩;rcases m with⟨k,h⟩|h;exact(g.dC _ a k h).2.1;intro z;have:=g.iG a z;omega;let⟨l,m,x⟩:=g.dC d a c b;exact⟨jL l f.size,m,by grind[ar.bW]⟩
  jY:=λd B a c k b i=>by
   simp only[ar.bW]at b i;split at b<;>split at i
   simp_all;rename_i n u;rcases(p a c b).2 with⟨C,h⟩|h;exact absurd (g.jY _ _ _ _ _ h i) (Cq u);have:=(g.dC B a k i).1;omega;rename_i n u;rcases(p a k i).2 with⟨C,h⟩|h;exact absurd (g.jY _ _ _ _ _ b h) n;have:=(g.dC d a c b).1;omega;exact g.jY _ _ _ _ _ b i
  blt:=λr a b=>by
   let⟨l,m,x⟩:=g.blt r a b;refine⟨jL l f.size,m,λd c i=>?_⟩;grind[ar.bW]
  mK:=g.mK
  gI:=λd s q=>by
   by_cases b:id=d;grind[ar.bW];have A:Y.H[d]?=aa s:=by simpa[ar.bW,ari,b]using q
   refine oV.mono t g (by grind[ar.bW]) (λa c o=>?_) (g.gI d s A);exact v a (g.dC d a c o).1 λk h=>b (g.jY _ _ _ _ _ h o)}
def ar.new(a:ar)(e:World)(d:Obj)(c:Option (Nat×Nat)):ar:=
 {a with w:=e,H:=a.H++[d],h:=λb=>if b=Z a.H then c else a.h b}
theorem ar.Fk(g:Good Y){f:Option (Nat×Nat)}(e:c0 Y.w e2 (λ_=>False))
 (l:∀a d,f=aa (a,d)->a<e2.heap.size/\Y.w.heap.size<=a)(z:Fr Y (Y.new e2 hL f)->oV (Y.new e2 hL f) (Z Y.H) hL):Fr Y (Y.new e2 hL f)/\Good (Y.new e2 hL f):=by
 have t:∀c,c<Z Y.H->(Y.new e2 hL f).h c=Y.h c:=by grind[ar.new]
 have y:∀a d,Y.h (Z Y.H)≠aa (a,d):=λa d b=>by have:=(g.dC _ _ _ b).2.2;omega
 have p:Fr Y (Y.new e2 hL f):={
  os:=e.os,output:=e.output,tape:=e.tape,size:=e.size
  pG:=λ_ _ h=>h,pH:=λ_ _ h=>.inl h
  heap:=λa dC _ _=>e.block a dC (λh=>h)
  k3:=by simp[ar.new]
  kG:=λc o hi m=>by
   grind[ar.new,List.getElem?_append_left,hM.refl]
  oW:=by grind[ar.new]
  rH:=λn a b=>.inl ⟨n,b⟩}
 refine⟨p,?_⟩;exact{
  iF:=g.iF
  iG:=λa h=>jL (g.iG a h) e.size
  dC:=λc a d b=>by
   simp only[ar.new]at b;split at b;rename_i hi;subst hi;let⟨j,k⟩:=l a d b;exact⟨j,λu=>by have:=g.iG a u;omega,by simp[ar.new]⟩;let⟨j,k,r⟩:=g.dC c a d b;exact⟨jL j e.size,k,by grind[ar.new]⟩
  jY:=λc x a d q b i=>by
   simp only[ar.new]at b i;split at b<;>split at i
   simp_all;have:=(l a d b).2;have:=(g.dC x a q i).1;omega;have:=(l a q i).2;have:=(g.dC c a d b).1;omega;exact g.jY _ _ _ _ _ b i
  blt:=λn a b=>by
   let⟨j,k,r⟩:=g.blt n a b;refine⟨jL j e.size,k,λc d i=>?_⟩;grind[ar.new]
  mK:=g.mK
  gI:=λc o m=>by
   rcases IQ c (Z Y.H)with hi|hi|hi;have v:Y.H[c]?=aa o:=by rw[<-m];simp[ar.new,oA hi]
   exact oV.mono p g (t c hi) (λa d s=>e.block a (g.dC c a d s).1 (λh=>h)) (g.gI c o v);grind[ar.new];exfalso;have:c<Z (Y.H++[hL]):=(fM.1 m).1;grind}
def ar.box(a:ar)(e:World)(d c:Nat):ar:={a with w:=e,bx:=λb=>if b=d then aa c else a.bx b}
variable{N:Nat}
theorem ar.Jk(g:Good Y)(d:c0 Y.w e2 (λ_=>False))(dC:N<e2.heap.size)(r:Y.w.heap.size<=N):Fr Y (Y.box e2 U N)/\Good (Y.box e2 U N):=by
 have o:Fr Y (Y.box e2 U N):={
  os:=d.os,output:=d.output,tape:=d.tape,size:=d.size
  pG:=λ_ _ h=>h,pH:=λ_ _ h=>.inl h
  heap:=λN dC _ _=>d.block N dC (λh=>h)
  k3:=c5 _
  kG:=λb m s k=>⟨m,k,hM.refl _ _⟩
  oW:=λb N e a=>.inl ⟨b,e,a⟩
  rH:=by grind[ar.box]}
 refine⟨o,?_⟩;exact{
  iF:=g.iF
  iG:=λN h=>jL (g.iG N h) d.size
  dC:=λb N e a=>by
   let⟨f,i,j⟩:=g.dC b N e a;exact⟨jL f d.size,i,j⟩
  jY:=g.jY
  blt:=λl n a=>by
   simp only[ar.box]at a;split at a;injection a with a;subst a;exact⟨dC,λq=>by have:=g.iG _ q;omega,λb e c=>by have:=(g.dC b _ e c).1;omega⟩;let⟨f,i,j⟩:=g.blt l n a;exact⟨jL f d.size,i,j⟩
  mK:=λb l n a c=>by
   simp only[ar.box]at a c;split at a<;>split at c
   simp_all;injection a with a;subst a;have:=(g.blt l _ c).1;omega;injection c with c;subst c;have:=(g.blt b _ a).1;omega;exact g.mK _ _ _ a c
  gI:=λb m k=>oV.mono o g rfl (λN e p=>d.block N (g.dC b N e p).1 (λh=>h)) (g.gI b m k)}
def ar.wd(a:ar)(b:World):ar:={a with w:=b}
theorem ar.Jl(g:Good Y)(b:c0 Y.w e2 (λa=>∃m,Y.bx m=aa a)):Fr Y (Y.wd e2)/\Good (Y.wd e2):=by
 have p:Fr Y (Y.wd e2):={
  os:=b.os,output:=b.output,tape:=b.tape,size:=b.size
  pG:=λ_ _ h=>h,pH:=λ_ _ h=>.inl h
  heap:=λa dC _ f=>b.block a dC (by grind)
  k3:=c5 _
  kG:=λc n r f=>⟨n,f,hM.refl _ _⟩
  oW:=λc a e d=>.inl ⟨c,e,d⟩
  rH:=λl o d=>.inl ⟨l,d⟩}
 refine⟨p,?_⟩;exact{
  iF:=g.iF
  iG:=λa h=>jL (g.iG a h) b.size
  dC:=λc a e d=>by
   let⟨i,j,k⟩:=g.dC c a e d;exact⟨jL i b.size,j,k⟩
  jY:=g.jY
  blt:=λl o d=>by
   let⟨i,j,k⟩:=g.blt l o d;exact⟨jL i b.size,j,k⟩
  mK:=g.mK
  gI:=λc n f=>oV.mono p g rfl (λa e q=>b.block a (g.dC c a e q).1 (λ⟨m,h⟩=>(g.blt m a h).2.2 c e q)) (g.gI c n f)}
def ar.df(a:ar)(c:World):ar:={a with w:=c,S:=λd b=>a.S d b\/(a.w.heap.size<=b/\b<c.heap.size)}
theorem ar.Jm(g:Good Y)(b:c0 Y.w e2 (λ_=>False)):Fr Y (Y.df e2)/\Good (Y.df e2):=by
 have o:Fr Y (Y.df e2):={
  os:=b.os,output:=b.output,tape:=b.tape,size:=b.size
  pG:=λ_ _ h=>.inl h,pH:=λ_ _ h=>h.imp id (·.1)
  heap:=λa dC _ _=>b.block a dC (λh=>h)
  k3:=c5 _
  kG:=λd m r k=>⟨m,k,hM.refl _ _⟩
  oW:=λd a e c=>.inl ⟨d,e,c⟩
  rH:=λl n c=>.inl ⟨l,c⟩}
 refine⟨o,?_⟩;exact{
  iF:=λp a h=>h.imp (g.iF p a) id
  iG:=λa h=>h.elim (λh=>jL (g.iG a h) b.size) (·.2)
  dC:=λd a e c=>by
   let⟨f,i,j⟩:=g.dC d a e c;exact⟨jL f b.size,λh=>h.elim i (λh=>by omega),j⟩
  jY:=g.jY
  blt:=λl n c=>by
   let⟨f,i,j⟩:=g.blt l n c;exact⟨jL f b.size,λh=>h.elim i (λh=>by omega),j⟩
  mK:=g.mK
  gI:=λd m k=>oV.mono o g rfl (λa e q=>b.block a (g.dC d a e q).1 (λh=>h)) (g.gI d m k)}
theorem St.mono{E:ar}{s:AS}(st:St E s eG)(f:Fr E Y)(d:Good Y)(g:∀k b,E.bx k=aa b->Y.bx k=aa b)
 (hb:∀k b,E.bx k=aa b->Y.w.heap[b]?=E.w.heap[b]?):St Y {s with hp:=Y.H} eG where
 bM:=d
 hp:=rfl
 env:=λk v h=>by
  rcases st.env k v h with h|⟨j,off,b,h1,h2,a⟩;exact .inl (h.mono f st.bM);exact .inr (by grind)
 bx:=λk cs h=>by
  let⟨b,vs,c,h1,h2,a,e⟩:=st.bx k cs h;exact⟨b,vs,c,g _ _ h1,(hb _ _ h1).trans h2,RL.mono f st.bM a,e⟩
variable{q8:IntKind}{f:Int}{dM:Operand}{n:AS}
section
variable{P:Program}{G:Nat->Option (List AV)}{A:bR}
theorem uS(h:0<bh P u):∃i,P.info? u=aa i:=by
 unfold bh at h;rcases a:P.info? u with _|i;grind;grind
theorem OO(b:St Y L s.tmps)(c:du G Y)(a:B.op=.move m\/B.op=.assign m):cv P B s Y (l G L m).pl L:=by
 refine cv.still b (bA:=s.eval m) ?_ (.inl (R.pl (dH b c m)));rcases a with a|a<;>simp[execOp,a]
theorem R.y8(h:RT Y (.bool T) bA):bA=.bool T:=by
 rcases h with h|⟨_,_,_,h,_⟩;cases h;rfl
 cases h
theorem R.pI(h:RT Y (.int q8 f) bA):bA=.int q8 f:=by
 rcases h with h|⟨_,_,_,h,_⟩;cases h;rfl
 cases h
theorem R.xG{b:List UInt8}(h:RT Y (.str b) bA):∃a:ByteArray,bA=.string a/\a.data.toList=b:=by
 rcases h with h|⟨_,_,_,h,_⟩;cases h with|str a=>grind
 cases h
theorem abb{a:Operand}(b:St Y L s.tmps)(c:du G Y)(f:B.op=.pick m dM a)(e:l G L m=.bool T):
 cv P B s Y (if T then(l G L dM).pl else(l G L a).pl) L:=by
 have h:=dH b c m;rw[e]at h;have d:=R.y8 h;refine cv.still b (bA:=if T then s.eval dM else s.eval a) ?_ (.inl ?_);simp[execOp,f,d,asBool];grind[R.pl,dH]
theorem Jn(a:List K)(off:Nat)(new:List K)(h:off+Z new<=Z a):Z (a.take off++new++a.drop (off+Z new))=Z a:=by
 simp;omega
theorem RL.eV{a:List AV}{vs:List Value}{new:List AV}(h:RL Y a vs)(b:RL Y new hK)(off:Nat):RL Y (eV a off new) (vs.take off++hK++vs.drop (off+Z hK)):=by
 unfold AM.eV;rw[b.length];grind[RL.append,RL.take,RL.drop]
theorem OP{w:World}{off:Nat}(b:w.heap[U]?=aa (.cells eG cr (0,0)))(e:P.info? u=aa oE)(c:bA.cells.size=oE.size)
 (h:off+oE.size<=eG.size)(a:∀d∈bA.cells.toList,d.oneCell'=ad):
 (Instr.storeAt u (.pointer (aa ⟨U,off,ae⟩)) bA).run P w=.ok () (w.setRow U (eG.toList.take off++bA.cells.toList++eG.toList.drop (off+Z bA.cells.toList)).toArray):=by
 have f:=run_storeCells_at P U off cr bA.cells.toList 0 eG w b (by simp[c];omega) a;simp_all[Instr.storeAt,Instr.sureAddr,storeVar,sizeOf,typeInfo]
theorem abc(a:St Y L s.tmps)(T:du G Y)(ac:B.op=.store u m dM)(h:vS P L u (l G L m) (l G L dM)=aa n):cv P B s Y .undef n:=by
 unfold vS at h;simp only at h;split at h
 case isFalse=>simp at h
 case isTrue a2=>
 let⟨X,a3,br⟩:=a2;let⟨aj,J⟩:=sH.1 br;rw[jw J]at X;have bD:=R.pl (dH a T dM);let⟨K,ai⟩:=bD.cells a3;have M:(s.eval dM).cells.size=aj.size:=by rw[<-X,<-K.length];simp
 have p:=dH a T m;cases ah:l G L m with
 |lp k off=>
  simp only[ah]at h p;rcases W:look k L.bx with _|cs;grind;simp only[W]at h;split at h
  case isFalse=>simp at h
  case isTrue ba=>
  simp at h;subst h;rcases p with p|⟨_,_,q,be,r,j⟩;cases p
  injection be with t O;subst t;subst O;let⟨au,vs,E,V,v,z,aE⟩:=a.bx k cs W;rw[r]at V;injection V with b;subst b;have bv:=z.length;simp only[yQ]at bv;have y:=OP (P:=P) (u:=u) (off:=off) (bA:=s.eval dM) v J M (by omega) ai
  have C:c0 Y.w (Y.w.setRow q (vs.toList.take off++(s.eval dM).cells.toList++vs.toList.drop (off+Z (s.eval dM).cells.toList)).toArray) (λe=>∃k,Y.bx k=aa e):=c0.setRow _ _ _ _ ⟨k,r⟩;let⟨f,F⟩:=ar.Jl a.bM C;refine⟨.skip,undef,_,?_,.inr ⟨rfl,rfl⟩,.inl (.undef _),?_,f⟩;rw[<-j]at y;simp only[execOp,ac,Sem.run_bind,y,Result.andThen_ok,Sem.run_pure,ar.wd];exact{
   bM:=F
   hp:=a.hp
   env:=λD ca i=>by
    rcases a.env D ca i with h|h;exact .inl (h.mono f a.bM);exact .inr h
   bx:=λD ax i=>by
    simp only[fO]at i;by_cases b:D=k;subst b;rw[if_pos rfl]at i;injection i with i;subst i;refine⟨q,_,E,r,setRow_heap _ _ _ _ _ _ v,?_,?_⟩;simpa using RL.mono f a.bM (RL.eV z K off);grind;rw[if_neg b]at i;let⟨e,cc,az,Q,aR,aZ,a0⟩:=a.bx D ax i;refine⟨e,cc,az,Q,?_,RL.mono f a.bM aZ,a0⟩;show(Y.w.setRow q _).heap[e]?=_;rw[setRow_other _ _ _ _ (λce=>b (a.bM.mK _ _ _ Q (by grind)))];exact aR}
 |ptr id g d off=>
  simp only[ah]at h p;rw[a.hp]at h;rcases A:Y.H[id]? with _|ob;grind;cases ob with
  |mp _ _ _=>grind
  |fm _=>grind
  |iD _ _=>grind
  |arr F c o=>
   simp only[A]at h;split at h
   case isFalse=>simp at h
   case isTrue a5=>
   subst a5;rcases x:o[d]? with _|cs;grind;simp only[x]at h;split at h
   case isFalse=>simp at h
   case isTrue ba=>
   simp at h;subst h;replace p:=p.resolve_right (by grind);cases p with
   |ptr _ _ _ _ _ dl ci c2 h=>
    let⟨q,N,I,j⟩:=h c o A;let⟨af,bm⟩:=a.bM.gI id _ A;rcases bm with⟨rfl,_⟩|⟨au,vs,E,U,v,d1,z,aE⟩;simp at x;rw[I]at U;injection U with b;injection b with t O;subst t;have co:Z cs=c:=af cs (qj x);have a9:d<Z o:=(fM.1 x).1;have ds:d*c+c<=Z o*c:=by
     have:=my c (show d+1<=Z o from a9);rw[q4]at this;exact this
    have y:=OP (P:=P) (u:=u) (off:=d*c+off) (bA:=s.eval dM) v J M (by omega) ai;have bi:Z (s.eval dM).cells.toList=aj.size:=by simpa using M
    have C:c0 Y.w (Y.w.setRow q (vs.toList.take (d*c+off)++(s.eval dM).cells.toList++vs.toList.drop (d*c+off+Z (s.eval dM).cells.toList)).toArray) (λe=>∃N,Y.h id=aa (e,N)):=c0.setRow _ _ _ _ ⟨N,I⟩;have d0:Z (vs.toList.take (d*c+off)++(s.eval dM).cells.toList++vs.toList.drop (d*c+off+Z (s.eval dM).cells.toList))=vs.size:=by
     rw[Jn _ _ _ (by rw[bi];simp;omega)];simp
    have a4:(o.set d (eV cs off (l G L dM).pl.cells)).flatten=eV o.flatten (d*c+off) (l G L dM).pl.cells:=Ji af x (by omega);let⟨f,aA⟩:=ar.sV a.bM (id:=id) (j:=.arr F c (o.set d (eV cs off (l G L dM).pl.cells))) (e:=Y.h id) C A (by simp[hM])
     (λe am b=>⟨by rw[I]at b;injection b with b;injection b with t _;subst t;simp;grind,.inl ⟨am,b⟩⟩)
     (λf=>by
      refine⟨λb c1=>?_,.inr ⟨q,_,E,?_,setRow_heap _ _ _ _ _ _ v,?_,?_,?_⟩⟩;grind[AM.eV];grind[ar.bW];grind;rw[a4,aaB];have S:=RL.eV z K (d*c+off);rw[Fh _ _ _ _ (by omega)]at S;simpa using RL.mono f a.bM S;intro ak j;simp only[aaB]at j;have j:=sI j|>λ_=>j;rw[<-Fh _ _ _ _ (by omega)]at j;grind)
    refine⟨.skip,undef,_,?_,.inr ⟨rfl,rfl⟩,.inl (.undef _),?_,f⟩;rw[<-j]at y;simp only[execOp,ac,Sem.run_bind,y,Result.andThen_ok,Sem.run_pure,ar.bW];refine St.mono a f aA (λ_ _ h=>h) (λk e r=>C.block e (a.bM.blt k e r).1 λ⟨am,b⟩=>(a.bM.blt k e r).2.2 _ _ b)|>λm=>?_;grind[ar.bW]
 |_=>grind
theorem Jo(x:St Y L s.tmps){d f:AV}(h:RT Y d bA)(a:mJ L U d=aa f):∃b c,bA=.pointer (aa ⟨b,c,ae⟩)/\RT Y f (.pointer (aa ⟨b,c+U,ae⟩)):=by
 rcases h with h|⟨E,off,b,rfl,C,rfl⟩
 ·cases d with
  |aH i j off=>
   simp[mJ]at a;subst a;cases h with
   |aH _ _ _ b c vs l m p q v h o=>exact⟨b,c+off,rfl,.inl (by rw[Nat.add_assoc];exact .aH i j (off+U) b c vs l m p q v h o)⟩
  |ptr id g w off=>
   simp only[mJ]at a;rw[x.hp]at a;rcases e:Y.H[id]? with _|ob;grind;cases ob with
   |mp _ _ _=>grind
   |fm _=>grind
   |iD _ _=>grind
   |arr n y k=>
    simp only[e]at a;split at a
    case isFalse=>simp at a
    case isTrue r=>
    subst r;simp at a;subst a;cases h with
    |ptr _ _ _ _ _ u A t h=>
     obtain⟨b,G,B,rfl⟩:=h y k e;refine⟨b,_,rfl,.inl (.ptr id n w (off+U) _ u rfl t λF z D=>?_)⟩;grind
  |_=>first|(simp[mJ]at a;done)|(cases h)
 simp[mJ]at a;subst a;exact⟨b,off,rfl,.inr (by grind)⟩
theorem abd{c:AV}(a:St Y L s.tmps)(f:du G Y)(r:B.op=.fieldAddr u m U)(h:vT P L u (l G L m) U=aa c):cv P B s Y c L:=by
 unfold vT at h;rcases k:P.underlying u with _|d;grind;cases d with
 |struct e=>
  simp only[k]at h;rcases g:e[U]? with _|p;grind;simp only[g]at h;split at h
  case isFalse=>simp at h
  case isTrue b=>
  let⟨n,i⟩:=uS b;rw[jw i]at b;let⟨o,v,t,j⟩:=Jo a (dH a f m) h;refine cv.still a ?_ j;have q:n.size≠0:=by omega
  simp_all[execOp,Instr.fieldAt,run_underlying,Instr.sureAddr,fieldPlace,sizeOf,typeInfo,Addr.add_mid]
 |_=>grind
theorem OQ{a:List (List AV)}(h:a.all (λb=>Z b==U)=ad):∀c∈a,Z c=U:=by
 grind
theorem abe{O:AV}(k:St Y L s.tmps)(A:du G Y)(v:B.op=.indexAddr u m dM)(h:rG P L u (l G L m) (l G L dM)=aa O):cv P B s Y O L:=by
 unfold rG at h;have c:=dH k A m;have E:=dH k A dM;rcases p:P.underlying u with _|d;grind;cases C:l G L dM with
 |int a9 e=>
  rw[C]at E;have t:=R.pI E;simp only[p,C]at h;cases d with
  |array len S=>
   simp only at h;split at h
   case isFalse=>simp at h
   case isTrue a=>
   let⟨b,i⟩:=uS a.2.2;rw[jw i]at h a;let⟨o,x,n,au⟩:=Jo k c h;refine cv.still k ?_ au;simp[execOp,v,Instr.indexAt,run_underlying p,t,asIntOf,n,Instr.sureAddr,a.1,a.2.1,sizeOf,typeInfo,i,Addr.add_mid]
  |slice S=>
   simp only at h;cases n:l G L m with
   |sl Q f=>
    simp only[n]at h;rw[n]at c;split at h
    case isFalse=>simp at h
    case isTrue y=>
    rcases j:f[e.toNat]? with _|cs;grind;simp only[j]at h;split at h
    case isFalse=>simp at h
    case isTrue a=>
    simp at h;subst h;replace c:=c.resolve_right (by grind);let⟨b,i⟩:=uS a.2;rw[jw i]at a;generalize w:s.eval m=aR at c;cases c with
    |jN=>simp at j
    |sl _ _ o x aA cap vs T U ac af F r az X W=>
     have aj:e.toNat<Z f:=(fM.1 j).1;have ak:aA=b.size:=(F cs (qj j)).symm.trans a.1;subst ak;have I:e.toNat*b.size+b.size<=Z f*b.size:=by
      have:=my b.size (show e.toNat+1<=Z f from aj);rw[q4]at this;exact this
     refine cv.still k (bA:=.pointer (aa ⟨o,x+e.toNat*b.size,ae⟩)) ?_ (.inl (.aH Q cs 0 o (x+e.toNat*b.size) vs T U ac af (by omega) ?_ ?_));have am:e<(Z f:Int):=by omega
     simp[execOp,v,Instr.indexAt,run_underlying p,t,asIntOf,w,y,am,sizeOf,typeInfo,i,Addr.add_mid];have z:=RL.take b.size (RL.drop (e.toNat*b.size) X);rw[AP F j,k5 _ _ _ _ I,vM]at z;rw[a.1];exact z;intro be ax;apply W;rw[a.1,<-vM,<-k5 _ (Z f*b.size) _ _ I]at ax;grind
   |q id g off len=>
    simp only[n]at h;rw[n]at c;split at h
    case isFalse=>simp at h
    case isTrue D=>
    rw[k.hp]at h;rcases J:Y.H[id]? with _|ob;grind;cases ob with
    |mp _ _ _=>grind
    |fm _=>grind
    |iD _ _=>grind
    |arr V N f=>
     simp only[J]at h;split at h
     case isFalse=>simp at h
     case isTrue a=>
     let⟨j,M,K⟩:=a;subst j;simp at h;subst h;let⟨b,i⟩:=uS K;rw[jw i]at M K;replace c:=c.resolve_right (by grind);generalize w:s.eval m=aR at c;cases c with
     |q _ _ _ _ _ ai y ah h=>
      obtain⟨aZ,cap,rfl,a3,a5,r⟩:=h N f J;rcases r with r|⟨o,bi,a2,rfl,az⟩;omega;refine cv.still k (bA:=.pointer (aa ⟨o,(off+e.toNat)*N+0,ae⟩)) ?_ (.inl (.ptr id V (off+e.toNat) 0 _ ai rfl ah λba a0 a4=>?_));simp[execOp,v,Instr.indexAt,run_underlying p,t,asIntOf,w,D.1,D.2,sizeOf,typeInfo,i,Addr.add_mid,M,sJ];grind
   |_=>grind
  |_=>simp at h
 |_=>grind
theorem abf{v:AV}(c:St Y L s.tmps)(o:du G Y)(p:B.op=.nilCheck m)(h:(match l G L m with|.fn b s d=>aa (.fn b s d,L)|v=>fS L (mJ L 0 v))=aa (v,n)):cv P B s Y v n:=by
 have a:=dH c o m;have r:fS L (mJ L 0 (l G L m))=aa (v,n)->cv P B s Y v n:=by
  intro h;unfold fS at h;rcases e:mJ L 0 (l G L m)with _|x;grind;simp[e]at h;let⟨rfl,rfl⟩:=h;let⟨d,u,f,t⟩:=Jo c a e;simp_all[cv.still,execOp]
 cases f:l G L m with
 |fn b i bs=>
  rw[f]at h a;simp at h;let⟨rfl,rfl⟩:=h;replace a:=a.resolve_right (by grind);generalize q:s.eval m=y at a;cases a with
  |fn _ _ _ g vs j k=>
   refine cv.still c (bA:=.func (.func b) g vs) ?_ (.inl (.fn b i bs g vs j k));simp[execOp,p,q]
 |_=>grind
end
variable{bq:List Nat}
section
variable{P:Program}
def valOf(P:Program)(b:TypeId)(a:List Value):Value:=if fp P b then .agg a.toArray else a.headD undef
def v7(P:Program)(b:Nat)(d e:Array Value):List (TypeId×Nat)->Sem Bool
 |[]=>pure ad
 |(a,c)::r=>do
  let f<-Go.part a d c
  let g<-Go.part a e c
  let h<-Op.equalIn b a f g
  if(!h)=ad then pure ab else v7 P b d e r
theorem OR(b:Nat)(c d:Array Value):∀(a:List Field),a.all (λf=>f.name != "_")=ad->Op.eqFields b c d a=v7 P b c d (a.map λf=>(f.type,f.offset))
 |[],_=>rfl
 |f::a,h=>by
  simp only[oz,bc,bne_iff_ne]at h;simp only[Op.eqFields,h.1,ne_eq,not_false_eq_true,if_true,eg,v7];rw[OR b c d a h.2]
theorem run_equalIn_array{w:World}(e:Nat)(i a:TypeId)(b:Nat)(c:TypeInfo)(f g:Array Value)(p:P.underlying i=aa (.array b a))(n:P.info? a=aa c):
 (Op.equalIn (e+1) i (.agg f) (.agg g)).run P w=(v7 P e f g ((ay b).map λd=>(a,d*c.size))).run P w:=by
 simp only[Op.equalIn,Sem.run_bind,run_underlying p,Result.andThen_ok,sizeOf,typeInfo,run_program,n,Sem.run_pure];simp only[arj,Std.Legacy.Range.size];have o:List.range' 0 ((b -0+1 -1)/1) 1=ay b:=by simp[aaC]
 rw[o];generalize ay b=h;induction h generalizing w with
 |nil=>simp[v7]
 |cons d h u=>
  simp only[List.forIn_cons,eg,v7,Sem.run_bind,Sem.run_ite];generalize(Go.part a f (d*c.size)).run P w=q;cases q with
  |ok l w1=>
   simp only[Result.andThen_ok];generalize(Go.part a g (d*c.size)).run P w1=s;cases s with
   |ok m j=>
    simp only[Result.andThen_ok];generalize(Op.equalIn e a l m).run P j=r3;cases r3 with
    |ok r t=>
     simp_all
    |halt k t=>simp
   |halt k j=>simp
  |halt k w1=>simp
theorem CH{w:World}(f:P.info? u=aa oE)(c:P.underlying u=aa lr)(b:Array Value)(a:Nat)(h:a+oE.size<=b.size)(d:fp P u=ab->oE.size=1):
 (Go.part u b a).run P w=.ok (valOf P u ((b.toList.drop a).take oE.size)) w:=by
 have g:(isAgg u).run P w=.ok (fp P u) w:=by
  simp only[isAgg,Sem.run_bind,run_underlying c,Result.andThen_ok];rw[AO c];cases lr<;>rfl
 unfold Go.part valOf;simp only[Sem.run_bind,g,Result.andThen_ok];cases e:fp P u
 have j:=d e;rw[j]at h⊢;have i:a<b.size:=by omega
 simp[i,Om];simp only[if_true,Sem.run_bind,sizeOf,typeInfo,run_program,Result.andThen_ok,f,Sem.run_pure]
 congr 2
 grind
theorem OS:∀{d i:List Nat}{e bs f g:List AV}{r:Bool},Z e=Z d->Z f=Z d->fZ (d++i) (e++bs) (f++g)=aa r->∃o j,fZ d e f=aa o/\fZ i bs g=aa j/\r=(o&&j)
 |[],i,[],bs,[],g,r,_,_,h=>⟨ad,r,rfl,h,by simp⟩
 |k::d,i,u::e,bs,v::f,g,r,p,q,h=>by
  have x:∀j,fZ (d++i) (e++bs) (f++g)=aa j->∃o s,fZ d e f=aa o/\fZ i bs g=aa s/\j=(o&&s):=λj t=>OS (by grind) (by grind) t;simp only[hD]at h;unfold fZ at h;split at h;grind;rename_i a b c;injection a with a l;injection b with b m;injection c with c n;subst a;subst b;subst c;subst l;subst m;subst n;split at h;rename_i w;simp only[dj]at h;grind[fZ];simp at h;rename_i a b c
  injection a with a l;injection b with b m;injection c with c n;subst a;subst b;subst c;subst l;subst m;subst n;simp only[dj]at h;grind[fZ];rename_i a b c;injection a with a l;injection b with b m;injection c with c n;subst a;subst b;subst c;subst l;subst m;subst n;simp only[dj]at h;grind[fZ];simp at h
 |[],_,_::_,_,_,_,_,p,_,_=>by simp at p
 |[],_,[],_,_::_,_,_,_,q,_=>by simp at q
 |_::_,_,[],_,_,_,_,p,_,_=>by simp at p
 |_::_,_,_::_,_,[],_,_,_,q,_=>by simp at q
theorem abg{d:Nat}(h:nn P d u=aa bq):∃a b,P.info? u=aa a/\P.underlying u=aa b/\(fp P u=ab->a.size=1):=by
 rcases d with _|d;simp[nn]at h;unfold nn at h;rcases c:P.underlying u with _|b;grind;let⟨a,f⟩:=info_of_underlying c;refine⟨a,b,f,rfl,λe=>?_⟩;rw[AO c]at e;grind[jw,y0]
theorem OT{eq:TypeId->Option (List Nat)}{stop:Nat}:∀{c:List (TypeId×Nat)}{off:Nat}{a:List Nat},tK P eq stop off c=aa a->off<=stop/\Z a=stop -off
 |[],off,a,h=>by
  grind[tK]
 |(e,k)::c,off,a,h=>by
  simp only[tK]at h;split at h;cases f:eq e with
  |none=>grind
  |some g=>
   rcases d:tK P eq stop (off+bh P e) c with _|b;grind;simp only[f,d]at h;split at h;simp at h;let⟨i,j⟩:=OT d;grind;simp at h
  simp at h
theorem Jp{i:ar}{w:World}{eq:TypeId->Option (List Nat)}{t:Nat}(g h:Array Value)(d bs:List AV)(p:RL i d g.toList)(q:RL i bs h.toList)(z:Z d=Z bs)
 (heq:∀a e,eq a=aa e->(∃s u,P.info? a=aa s/\P.underlying a=aa u/\(fp P a=ab->s.size=1))/\∀(l m:List AV)(A vs:List Value)(r:Bool),RL i l A->RL i m vs->Z l=bh P a->Z m=bh P a->fZ e l m=aa r->
  (Op.equalIn t a (valOf P a A) (valOf P a vs)).run P w=.ok r w):
 ∀(f:List (TypeId×Nat))(off:Nat)(e:List Nat)(r:Bool),tK P eq (Z d) off f=aa e->fZ e (d.drop off) (bs.drop off)=aa r->(v7 P t g h f).run P w=.ok r w
 |[],off,e,r,b,j=>by
  simp only[tK]at b;split at b;simp at b;rename_i k;subst b;subst k;rw[qk,z,qk]at j;simp_all[fZ,v7];grind
 |(a,c)::f,off,e,r,b,j=>by
  simp only[tK]at b;split at b
  case isFalse=>simp at b
  case isTrue E=>
  subst E;rcases k:eq a with _|J;grind;rcases o:tK P eq (Z d) (c+bh P a) f with _|k2;grind;simp only[k,o]at b;split at b
  case isFalse=>simp at b
  case isTrue Q=>
  simp at b;subst b;let⟨⟨s,u,n,y,v⟩,F⟩:=heq a J k;have I:=jw n;have O:c+bh P a<=Z d:=(OT o).1;have M:g.size=Z d:=by simpa using p.length
  have N:h.size=Z bs:=by simpa using q.length
  have G:d.drop c=(d.drop c).take (bh P a)++d.drop (c+bh P a):=by rw[<-vM,vO]
  have H:bs.drop c=(bs.drop c).take (bh P a)++bs.drop (c+bh P a):=by rw[<-vM,vO]
  rw[G,H]at j;obtain⟨B,K,C,D,rfl⟩:=OS (by simp;omega) (by simp;omega) j;have x:=F _ _ _ _ B (RL.take (bh P a) (RL.drop c p)) (RL.take (bh P a) (RL.drop c q)) (by simp;omega) (by simp;omega) C;have L:=Jp g h d bs p q z heq f (c+bh P a) k2 K o D;simp only[v7,Sem.run_bind,CH (P:=P) n y g c (by omega) v,CH (P:=P) n y h c (by omega) v,Result.andThen_ok];rw[I]at x;rw[x];cases B
  simp;simp;omega
theorem AQ(h:RL Y bE hK)(c:Z bE=1):∃a b,bE=[a]/\hK=[b]/\R Y a b:=by
 rcases h with _|⟨a,b,e,g,f,d⟩;simp at c;rcases d with _|_;grind;simp at c
theorem bytes_beq(a b:ByteArray):(a.toList==b.toList)=(a.data.toList==b.data.toList):=by
 grind[ByteArray.toList_eq]
theorem Jq{z:ar}{w:World}:∀(d m:Nat)(a:TypeId)(y:List Nat),d<=m->nn P d a=aa y->∀(i j:List AV)(k vs:List Value)(r:Bool),RL z i k->RL z j vs->Z i=bh P a->Z j=bh P a->fZ y i j=aa r->
 (Op.equalIn m a (valOf P a k) (valOf P a vs)).run P w=.ok r w
 |0,_,_,_,_,h=>by simp[nn]at h
 |d+1,0,_,_,h,_=>by omega
 |d+1,m+1,a,y,U,h=>by
  intro i j k vs r F G l n c;have K:∀g D,nn P d g=aa D->(∃C E,P.info? g=aa C/\P.underlying g=aa E/\(fp P g=ab->C.size=1))/\∀(i j:List AV)(k vs:List Value)(r:Bool),RL z i k->RL z j vs->Z i=bh P g->Z j=bh P g->fZ D i j=aa r->
   (Op.equalIn m g (valOf P g k) (valOf P g vs)).run P w=.ok r w:=λg D J=>⟨abg J,Jq d m g D (by omega) J⟩
  unfold nn at h;cases B:P.underlying a with
  |none=>grind
  |some E=>
   have x:=AO B;simp only[B]at h;cases E with
   |struct Q=>
    simp only at h;split at h
    case isFalse=>simp at h
    case isTrue A=>
    have R:P.fieldsOf a=Q:=by simp[Program.fieldsOf,B]
    have o:fp P a=true:=by rw[x]<;>rfl
    simp only[valOf,o,if_true];rw[run_equalIn_struct w m a k.toArray vs.toArray (by grind) A.1,R,OR _ _ _ _ A.2];rw[<-l]at h;exact Jp k.toArray vs.toArray i j (by omega) (by omega) (by omega) K _ 0 y r h (by grind)
   |array T O=>
    simp only at h;split at h
    case isFalse=>simp at h
    case isTrue A=>
    let⟨C,L⟩:=sH.1 A;have o:fp P a=true:=by rw[x]<;>rfl
    simp only[valOf,o,if_true];rw[run_equalIn_array m a O T C k.toArray vs.toArray B L,<-jw L];rw[<-l]at h;exact Jp k.toArray vs.toArray i j (by omega) (by omega) (by omega) K _ 0 y r h (by grind)
   |bool=>
    simp only at h;split at h
    case isFalse=>simp at h
    case isTrue t=>
    simp at h;subst h;rw[t]at l n;obtain⟨H,M,rfl,rfl,u⟩:=AQ F l;obtain⟨I,N,rfl,rfl,v⟩:=AQ G n;have o:fp P a=false:=by rw[x]<;>rfl
    unfold fZ at c;split at c<;>first|(simp at c;done)|skip
    all_goals rename_i b e f
    all_goals first|(cases b;done)|skip
    all_goals(injection b with b p;first|(cases b;done)|skip)
    subst p;injection e with e q;injection f with f s;subst e;subst f;subst q;subst s;simp[fZ]at c;cases u;cases v
    simp_all[valOf,eZ,run_equalIn_bool]
   |int V=>
    simp only at h;split at h
    case isFalse=>simp at h
    case isTrue t=>
    simp at h;subst h;rw[t]at l n;obtain⟨H,M,rfl,rfl,u⟩:=AQ F l;obtain⟨I,N,rfl,rfl,v⟩:=AQ G n;have o:fp P a=false:=by rw[x]<;>rfl
    unfold fZ at c;split at c<;>first|(simp at c;done)|skip
    all_goals rename_i b e f
    all_goals first|(cases b;done)|skip
    all_goals(injection b with b p;first|(cases b;done)|skip)
    subst p;injection e with e q;injection f with f s;subst e;subst f;subst q;subst s;split at c;rename_i S;subst S;simp[fZ]at c;cases u;cases v
    simp_all[valOf,eZ,run_equalIn_int];grind
   |string=>
    simp only at h;split at h
    case isFalse=>simp at h
    case isTrue t=>
    simp at h;subst h;rw[t]at l n;obtain⟨H,M,rfl,rfl,u⟩:=AQ F l;obtain⟨I,N,rfl,rfl,v⟩:=AQ G n;have o:fp P a=false:=by rw[x]<;>rfl
    unfold fZ at c;split at c<;>first|(simp at c;done)|skip
    all_goals rename_i b e f
    all_goals first|(cases b;done)|skip
    all_goals(injection b with b p;first|(cases b;done)|skip)
    subst p;injection e with e q;injection f with f s;subst e;subst f;subst q;subst s;simp[fZ]at c;cases u;cases v
    simp_all[valOf,eZ,run_equalIn_string,bytes_beq]
   |_=>simp at h
end
section
variable{P:Program}{G:Nat->Option (List AV)}{A:bR}
theorem abh{w:World}{op:BinOp}{y A x:AV}{i:Value}(c:RT Y y bA)(e:RT Y A i)(h:tL P op u y A=aa x):
 ∃r,((do eqGuard op u m dM bA i;binOp op u bA i:Sem Value)).run P w=.ok r w/\R Y x r:=by
 unfold tL at h;split at h
 ·
  rename_i v f G b;have:=R.pI c;have:=R.pI e;subst bA;subst i;have d:(eqGuard op u m dM (.int v f) (.int G b)).run P w=.ok () w:=by cases op<;>simp[eqGuard]
  simp only[Sem.run_bind,d,Result.andThen_ok];split at h;split at h;simp at h;simp at h;subst h;rename_i a;exact⟨_,by simp[binOp,Op.shift,a],.int _ _⟩;split at h;simp at h;simp at h;subst h;rename_i a;exact⟨_,by simp[binOp,Op.shift,a],.int _ _⟩
  ·rename_i l p
   split at h
   case isFalse=>simp at h
   case isTrue g=>
   subst g;cases op<;>simp only[kE]at h
   case shl=>grind
   case shr=>grind
   case quo=>
    split at h;simp at h;simp at h;subst h;rename_i a;exact⟨_,by simp[binOp,Op.intDiv,a],.int _ _⟩
   case rem=>
    split at h;simp at h;simp at h;subst h;rename_i a;exact⟨_,by simp[binOp,Op.intDiv,a],.int _ _⟩
   all_goals(first|(simp at h;done)|(simp only[e1]at h;subst h))
   all_goals first
    |exact⟨_,by simp only[binOp];rw[if_neg (by simp)]<;>rfl,.int _ _⟩
    |exact⟨_,by simp only[binOp];rw[if_neg (by simp)]<;>rfl,.bool _⟩
 ·
  rename_i f b;obtain⟨H,rfl,rfl⟩:=R.xG c;obtain⟨I,rfl,rfl⟩:=R.xG e;have d:(eqGuard op u m dM (.string H) (.string I)).run P w=.ok () w:=by cases op<;>simp[eqGuard]
  simp only[Sem.run_bind,d,Result.andThen_ok];cases op<;>simp only[vU]at h<;>first|(simp at h;done)|skip
  all_goals(simp only[e1]at h;subst h)
  all_goals exact⟨_,by grind[binOp,Op.stringOp,ByteArray.toList_eq,Sem.run_pure],.bool _⟩
 rename_i f b;have:=R.y8 c;have:=R.y8 e;subst bA;subst i;have d:(eqGuard op u m dM (.bool f) (.bool b)).run P w=.ok () w:=by cases op<;>simp[eqGuard]
 simp only[Sem.run_bind,d,Result.andThen_ok];split at h;rename_i t;simp at h;subst h;exact⟨.bool (f==b),by simp_all[binOp,Op.equal,Op.maxDepth,run_equalIn_bool],by simpa using R.bool (E:=Y) (f==b)⟩;rename_i t;simp at h;subst h;exact⟨.bool (!(f==b)),by simp_all[binOp,Op.equal,Op.maxDepth,run_equalIn_bool],by simpa using R.bool (E:=Y) (!(f==b))⟩;simp at h
 ·
  rename_i o bs;replace c:=c.resolve_right (by grind);replace e:=e.resolve_right (by grind);split at h
  case isFalse=>simp at h
  case isTrue q=>
  let⟨l,p,O,C⟩:=q;cases c with
  |agg _ z E U=>
   cases e with
   |agg _ B F V=>
    have d:(eqGuard op u m dM (.agg z) (.agg B)).run P w=.ok () w:=by grind[run_eqGuard_agg]
    simp only[Sem.run_bind,d,Result.andThen_ok];rcases g:nn P 100 u with _|ks;grind;simp only[g]at h;rcases s:fZ ks o bs with _|r;grind;have D:=Jq (z:=Y) (w:=w) 100 10000 u ks (by omega) g o bs z.toList B.toList r E F l p s;simp only[valOf,C,if_true,ark]at D;cases op<;>simp[s]at h
    subst h;exact⟨.bool r,by simp_all[run_eql_struct],.bool _⟩;subst h;exact⟨.bool (!r),by simp_all[run_neq_struct],.bool _⟩
 ·
  split at h
  case h_2=>simp at h
  case h_1 L b t a=>
  simp at h;subst h;replace e:=e.resolve_right (by grind);cases e
  have key:∃j n k,bA=.slice j n k/\j.isNone=b:=by
   replace c:=c.resolve_right (by rintro⟨_,_,_,h,_⟩;rw[h]at a;cases a);unfold AV.Cx at a;split at a;cases c;grind
   cases c;grind
   simp at a;subst a;cases c with
   |sl _ _ J X v cap K M N Q S g q W h l=>grind
   simp at a
  obtain⟨j,n,k,rfl,T⟩:=key;have d:(eqGuard .eql u m dM (.slice j n k) (.slice ae 0 0)).run P w=.ok () w:=by simp[eqGuard]
  simp only[Sem.run_bind,d,Result.andThen_ok];refine⟨.bool b,?_,.bool _⟩;simp_all[binOp,run_equal_slice_nil]
 simp at h
theorem abi{op:BinOp}{c:AV}(a:St Y L s.tmps)(b:du G Y)(f:B.op=.binOp op u m dM cr)(h:tL P op u (l G L m) (l G L dM)=aa c):cv P B s Y c L:=by
 let⟨r,d,e⟩:=abh (P:=P) (w:=Y.w) (m:=m) (dM:=dM) (dH a b m) (dH a b dM) h;refine cv.still a ?_ (.inl e);simp only[execOp,f];rw[Sem.run_bind,d];rfl
theorem abj{op:UnOp}{g:AV}(d:St Y L s.tmps)(j:du G Y)(e:B.op=.unOp op u m)(h:np op (l G L m)=aa g):cv P B s Y g L:=by
 have a:=dH d j m;unfold np at h;split at h;rename_i i c;rw[c]at a;simp at h;subst h;refine cv.still d (bA:=.bool (!i)) ?_ (.inl (.bool _));simp[execOp,e,R.y8 a,Op.unary];rename_i b f c;rw[c]at a;simp at h;subst h;refine cv.still d (bA:=.int b (b.wrap (0 -f))) ?_ (.inl (by simpa using R.int (E:=Y) b (b.wrap (0 -f))));simp[execOp,e,R.pI a,Op.unary,Op.intArith];simp at h
theorem abk(b:St Y L s.tmps)(c:du G Y)(f:B.op=.makeInterface u m)(d:P.underlying u=aa lr)(e:∀a,lr≠.interface a):
 cv P B s Y (.iface u (l G L m).pl) L:=by
 refine cv.still b (bA:=.iface u (s.eval m)) ?_ (.inl (.iface u _ _ (R.pl (dH b c m))));cases lr with
 |interface a=>exact absurd rfl (e a)
 |_=>simp[execOp,f,Instr.makeInterface,run_underlying d]
theorem Jr(c:St Y L s.tmps)(b:du G Y):∀(a:List Operand),RL Y (a.map λx=>(l G L x).pl) (a.map s.eval)
 |[]=>.nil
 |x::a=>.cons _ _ _ _ (R.pl (dH c b x)) (Jr c b a)
theorem abl{a:FuncId}{first cap:Array Operand}(d:St Y L s.tmps)(e:du G Y)(c:B.op=.makeFunc (.func a) first cap):
 cv P B s Y (.fn a (first.toList.map λb=>(l G L b).pl) (cap.toList.map λb=>(l G L b).pl)) L:=by
 refine cv.still d (bA:=.func (.func a) (first.map s.eval) (cap.map s.eval)) ?_ (.inl (.fn a _ _ _ _ ?_ ?_));simp[execOp,c,Instr.makeFunc];simp_all[Jr];simp_all[Jr]
theorem abm{w:World}{c:List AV}{vs:Array Value}{g:AV}(d:RL Y c vs.toList)(k:∀a∈vs.toList,a.oneCell'=ad)(h:E9 P u c U=aa g):∃a,(Go.part u vs U).run P w=.ok a w/\R Y g a:=by
 unfold E9 at h;split at h
 case isFalse=>simp at h
 case isTrue b=>
 simp at h;subst h;let⟨j,e⟩:=sH.1 b.2.2;let⟨m,f⟩:=info_of_underlying e;rw[jw f]at b⊢;have i:=d.length;simp only[yQ]at i;refine⟨_,CH (P:=P) f e vs U (by omega) b.2.1,?_⟩;unfold valOf;refine Fj (RL.take _ (RL.drop _ d)) (by grind) (λl=>?_);grind
theorem abn{c:AV}(b:St Y L s.tmps)(f:du G Y)(p:B.op=.field u m U)(h:Cy P u (l G L m) U=aa c):cv P B s Y c L:=by
 have a:=dH b f m;unfold Cy at h;split at h;rename_i d n r k;rw[k]at a;replace a:=a.resolve_right (by grind);generalize t:s.eval m=x at a;cases a with
 |agg _ vs g e=>
  rcases j:d[U]? with _|o;grind;simp only[j]at h;let⟨v,q,i⟩:=abm (w:=Y.w) g e h;refine cv.still b ?_ (.inl i);simp_all[execOp,Instr.field,run_underlying,asAgg]
 simp at h
theorem abo{p:AV}(e:St Y L s.tmps)(f:du G Y)(A:B.op=.index u m dM)(h:Cz P u (l G L m) (l G L dM)=aa p):cv P B s Y p L:=by
 have n:=dH e f m;have i:=dH e f dM;unfold Cz at h;split at h
 ·rename_i o D a C v t
  rw[v]at n;rw[t]at i;have z:=R.pI i;let⟨b,x,g⟩:=R.xG n;split at h
  case isFalse=>simp at h
  case isTrue w=>
  rcases d:o[a.toNat]? with _|c;grind;simp[d]at h;subst h;have k:a.toNat<Z o:=(fM.1 d).1;have y:b[a.toNat]?=aa c:=by
   have j:a.toNat<b.size:=by rw[<-g]at k;simpa using k
   have q:b.data.toList[a.toNat]?=aa c:=by rw[g];exact d
   have:b.data[a.toNat]?=aa c:=by simpa using q
   have r:b.data[a.toNat]'(by grind)=c:=by
    rw[Array.getElem?_eq_getElem (by simpa using j)]at this;injection this
   rw[getElem?_pos b a.toNat j];exact congrArg aa r
  refine cv.still e (bA:=.int .u8 c.toNat) ?_ (.inl (.int _ _));simp_all[execOp,Instr.index,run_underlying,asIntOf]
 simp at h
theorem abp{vs:List AV}{d:AV}(b:St Y L s.tmps)(e:du G Y)(j:B.op=.extract m U)(i:l G L m=.aB vs)(h:vs[U]?=aa d):cv P B s Y d.pl L:=by
 have a:=dH b e m;rw[i]at a;replace a:=a.resolve_right (by grind);generalize n:s.eval m=p at a;cases a with
 |aB _ o f=>
  let⟨c,k,g⟩:=f.get h;refine cv.still b (bA:=c) ?_ (.inl (R.pl (.inl g)));simp_all[execOp,Instr.extract]
theorem abq{e:AV}(c:St Y L s.tmps)(f:du G Y)(j:B.op=.typeAssert m cr u ab)(h:P.underlying u=aa lr)(i:∀b,lr≠.interface b)(k:l G L m=.iface u e):cv P B s Y e.pl L:=by
 have a:=dH c f m;rw[k]at a;replace a:=a.resolve_right (by grind);generalize n:s.eval m=o at a;cases a with
 |iface _ _ d g=>
  refine cv.still c (bA:=d) ?_ (.inl (R.pl (.inl g)));cases lr with
  |interface b=>exact absurd rfl (i b)
  |_=>simp[execOp,j,Instr.typeAssert,run_underlying h,n]
variable{z:Nat}
theorem OU(c b:Nat):∀(a:List (Nat×AV)),look b (oQ c a)=(look b a).map λd=>if d.gF c then .undef else d
 |[]=>rfl
 |(e,d)::a=>by
  simp only[oQ,look];split;rfl;exact OU c b a
theorem xH{b:List AV}(h:qp P u=aa b):∃i a,P.info? u=aa i/\i.zero=aa a/\RL Y b a.cells.toList/\∀c∈a.cells.toList,c.oneCell'=true:=by
 unfold qp at h;rcases d:P.info? u with _|i;grind;grind[Jf]
theorem OV(a:St Y L s.tmps)(d:Nat)(n:List AV)(cells:Array Value)(g:TypeId)(u:RL Y n cells.toList)(i:∀x∈cells.toList,x.oneCell'=ad):
 ∃e,e.w=Y.w.alloc (.cells cells g)/\RT e (.lp d 0) (.pointer (aa ⟨Y.w.heap.size,0,ae⟩))/\St e {L with env:=oQ d L.env,bx:=put d n L.bx} s.tmps/\Fr Y e:=by
 let⟨f,q⟩:=ar.Jk a.bM (U:=d) (N:=Y.w.heap.size) (c0.alloc Y.w (.cells cells g) _) (by simp) (c5 _);refine⟨_,rfl,.inr (by grind[ar.box]),?_,f⟩;exact{
  bM:=q
  hp:=a.hp
  env:=λb A h=>by
   rw[OU]at h;rcases m:look b L.env with _|y;grind;simp[m]at h;subst h;split;exact .inl (.undef _);rename_i z;rcases a.env b y m with h|⟨v,off,c,i,l,j⟩;exact .inl (h.mono f a.bM);refine .inr ⟨v,off,c,i,?_,j⟩;grind[AV.gF,ar.box]
  bx:=λb o h=>by
   simp only[fO]at h;by_cases k:b=d;subst k;rw[if_pos rfl]at h;injection h with h;subst h;exact⟨_,cells,g,by simp[ar.box],heap_alloc_new _ _,RL.mono f a.bM u,i⟩;rw[if_neg k]at h;let⟨c,vs,p,l,j,r,t⟩:=a.bx b o h;refine⟨c,vs,p,by grind[ar.box],?_,RL.mono f a.bM r,t⟩;exact((c0.alloc Y.w _ (λ_=>False)).block c (a.bM.blt b c l).1 (λh=>h)).trans j}
theorem AR(b:St Y L s.tmps)(c:Nat)(a:List (List AV))(cells:Array Value)(j:TypeId)(q:∀u∈a,Z u=c)(p:Z a*c<=cells.size)
 (n:RL Y a.flatten (cells.toList.take (Z a*c)))(m:∀t∈cells.toList.take (Z a*c),t.oneCell'=ad)(f:World)(k:c0 Y.w f (λ_=>False))(g:f.heap[Y.w.heap.size]?=aa (.cells cells j (0,0))):
 ∃d,d.w=f/\d.h (Z L.hp)=aa (Y.w.heap.size,cells.size)/\d.H=L.hp++[.arr 0 c a]/\St d {L with hp:=L.hp++[.arr 0 c a]} s.tmps/\Fr Y d:=by
 have v:Y.w.heap.size<f.heap.size:=(kY.1 g).1;let⟨e,l⟩:=ar.Fk b.bM (hL:=.arr 0 c a) (f:=aa (Y.w.heap.size,cells.size)) k
  (by grind)
  (λe=>⟨q,.inr ⟨_,cells,j,by simp[ar.new],g,p,RL.mono e b.bM n,m⟩⟩)
 refine⟨_,rfl,?_,?_,?_,e⟩;rw[b.hp];simp[ar.new];rw[b.hp];simp[ar.new];have:=St.mono b e l (λ_ _ h=>h) (λr i o=>k.block i (b.bM.blt r i o).1 (λh=>h));simpa[ar.new,b.hp]using this
theorem OW(a:St Y L s.tmps)(d:Nat)(g:World)(f:c0 Y.w g (λ_=>False)):
 ∃b,b.w=g/\b.H=L.hp++[.arr 0 d []]/\St b {L with hp:=L.hp++[.arr 0 d []]} s.tmps/\Fr Y b:=by
 let⟨c,i⟩:=ar.Fk a.bM (hL:=.arr 0 d []) (f:=ae) f (by grind) (λc=>⟨by simp,.inl ⟨rfl,by simp[ar.new]⟩⟩);refine⟨_,rfl,?_,?_,c⟩;rw[a.hp];simp[ar.new];have:=St.mono a c i (λ_ _ h=>h) (λk e j=>f.block e (a.bM.blt k e j).1 (λh=>h));simpa[ar.new,a.hp]using this
theorem OX{id:Nat}(b:Y.H[id]?=aa (.arr 0 U []))(a:Option Addr):R Y (.q id 0 0 0) (.slice a 0 0):=
 .q id 0 0 0 _ (fM.1 b).1 ⟨_,_,rfl⟩ (by omega) (by grind)
theorem Fl{id g:Nat}{a:List (List AV)}{cap:Nat}(b:Y.H[id]?=aa (.arr g U a))(d:Y.h id=aa (N,z))(c:Z a<=cap)(e:cap*U<=z):R Y (.q id g 0 (Z a)) (.slice (aa ⟨N,0,ae⟩) (Z a) cap):=
 .q id g 0 (Z a) _ (fM.1 b).1 ⟨_,_,rfl⟩ (by grind)
  (by grind)
theorem abr{j:AV}(i:St Y L s.tmps)(f:B.op=.alloc u)(h:aV P G A L B.dst B.op=aa (j,n)):cv P B s Y j n:=by
 rw[f]at h;unfold aV at h;simp only at h;split at h
 ·rename_i k l t z
  split at h
  case isFalse=>simp at h
  case isTrue p=>
  let⟨D,a,o,x,e,m⟩:=xH (Y:=Y) t;have r:(execOp s.eval B).run P Y.w=.ok (.value (.pointer (aa ⟨Y.w.heap.size,0,ae⟩))) (Y.w.alloc (.cells a.cells u)):=by
   simp[execOp,f,Instr.alloc,zeroValue,typeInfo,o,x,newVar,newRow]
  split at h;simp at h;let⟨rfl,rfl⟩:=h;let⟨b,g,q,d,c⟩:=OV i l k a.cells u e m;exact⟨_,_,b,by grind,.inl rfl,q,d,c⟩;simp at h;let⟨rfl,rfl⟩:=h;have v:a.cells.size=bh P u:=by rw[<-p,<-e.length];simp
  let⟨b,g,C,y,d,c⟩:=AR i (bh P u) [k] a.cells u (by grind) (by simp[v]) (by grind[List.take_of_length_le]) (by grind) _ (by grind[c0.alloc]) (heap_alloc_new _ _);refine⟨_,_,b,by rw[g];exact r,.inl rfl,.inl (.ptr _ 0 0 0 _ (by grind) rfl (by omega) (by grind)),d,c⟩
 simp at h
theorem Jk{v:AV}(a:St Y L s.tmps)(z:du G Y)(p:B.op=.box u m)(h:aV P G A L B.dst B.op=aa (v,n)):cv P B s Y v n:=by
 rw[p]at h;unfold aV at h;simp only at h;rcases C:B.dst with _|d;grind;simp only[C]at h;split at h
 case isFalse=>simp at h
 case isTrue e=>
 have F:=R.pl (dH a z m);let⟨c,y⟩:=F.cells e.2;have q:(execOp s.eval B).run P Y.w=.ok (.value (.pointer (aa ⟨Y.w.heap.size,0,ae⟩))) (Y.w.alloc (.cells (s.eval m).cells u)):=by
  simp[execOp,p,Instr.box,newVar,newRow]
 split at h;simp at h;let⟨rfl,rfl⟩:=h;let⟨f,r,i,j,b⟩:=OV a d _ (s.eval m).cells u c y;exact⟨_,_,f,by grind,.inl rfl,i,j,b⟩;split at h;simp at h;let⟨rfl,rfl⟩:=h;have t:(s.eval m).cells.size=bh P u:=by rw[<-e.1,<-c.length];simp
 obtain⟨f,r,J,I,j,b⟩:=AR a (bh P u) [_] (s.eval m).cells u (by simpa using e.1) (by simp[t]) (by grind[List.take_of_length_le]) (by grind) _ (by grind[c0.alloc]) (heap_alloc_new _ _);refine⟨_,_,f,by rw[r];exact q,.inl rfl,.inl (.ptr _ 0 0 0 _ (by grind) rfl (by omega) (by grind)),j,b⟩;simp at h;let⟨rfl,rfl⟩:=h;have t:(s.eval m).cells.size=bh P u:=by rw[<-e.1,<-c.length];simp
 have o:=heap_alloc_new Y.w (.cells (s.eval m).cells u);have K:Y.w.heap.size<(Y.w.alloc (.cells (s.eval m).cells u)).heap.size:=(kY.1 o).1;let⟨b,x⟩:=ar.Jm a.bM (e2:=Y.w.alloc (.cells (s.eval m).cells u)) (by grind[c0.alloc]);have g:=c.length;simp only[yQ]at g;have E:((s.eval m).cells.toList.drop 0).take (Z (l G L m).pl.cells)=(s.eval m).cells.toList:=by
  rw[ll];exact gP (by simp[g])
 have i:R (Y.df (Y.w.alloc (.cells (s.eval m).cells u))) (.aH ab (l G L m).pl.cells 0) (.pointer (aa ⟨Y.w.heap.size,0+0,ae⟩)):=
  .aH ab _ 0 Y.w.heap.size 0 (s.eval m).cells u _ (.inr (by omega)) o (by simp[g]) (by rw[E];exact RL.mono b a.bM c) (by grind)
 refine⟨_,_,Y.df _,by exact q,.inl rfl,.inl i,?_,b⟩;have:=St.mono a b x (λ_ _ h=>h) (λH k D=>(c0.alloc Y.w (.cells (s.eval m).cells u) (λ_=>False)).block k (a.bM.blt H k D).1 (λh=>h));simpa[ar.df,<-a.hp]using this
theorem Js(off:Nat):∀(vs:List Value)(a:Nat)(cells:Array Value),off+a+Z vs<=cells.size->
 ((vs.zipIdx a).foldl (λc(b:Value×Nat)=>c.setIfInBounds (off+b.2) b.1) cells).toList=cells.toList.take (off+a)++vs++cells.toList.drop (off+a+Z vs)
 |[],a,cells,_=>by simp
 |v::vs,a,cells,h=>by
  simp only[kD]at h;simp only[List.zipIdx_cons,ni];rw[Js off vs (a+1) _ (by simp;omega)];have d:off+a<Z cells.toList:=by simp;omega
  rw[Array.toList_setIfInBounds,List.take_set,List.drop_set_of_lt (by omega)];rw[show off+(a+1)=off+a+1 by omega,iu d,Oo _ _ (by simp;omega)];simp only[hW,gY,kD];rw[Oq (by omega),Ot];grind
theorem Jt{d:ar}{b:Act}{n:AS}(o:St d n b.tmps)(k:du G d)(place:Nat->Option (Nat×Nat)):∀(parts:List (Nat×Operand))(c:List AV)(cells:Array Value)(r:List AV),RL d c cells.toList->(∀i∈cells.toList,i.oneCell'=ad)->
 xy place c (parts.map λa=>(a.1,l G n a.2))=aa r->∃e,Instr.fill place cells (parts.map λa=>(a.1,b.eval a.2))=aa e/\RL d r e.toList/\∀i∈e.toList,i.oneCell'=ad
 |[],c,cells,r,g,j,h=>by
  simp[xy]at h;subst h;exact⟨cells,rfl,g,j⟩
 |(v,f)::parts,c,cells,r,g,j,h=>by
  simp only[eg,xy]at h;rcases t:place v with _|q;grind;let⟨off,size⟩:=q;simp only[t]at h;split at h
  case isFalse=>simp at h
  case isTrue m=>
  let⟨s,w⟩:=(R.pl (dH o k f)).cells m.2.2;have u:(b.eval f).cells.size=size:=by rw[<-m.1,<-s.length];simp
  have A:cells.size=Z c:=by simpa using g.length
  have B:=Js off (b.eval f).cells.toList 0 cells (by simp[u];omega);let⟨e,x,y,z⟩:=Jt o k place parts _ ((b.eval f).cells.zipIdx.foldl (λp(a:Value×Nat)=>p.setIfInBounds (off+a.2) a.1) cells) r (by
   grind[Array.toList_zipIdx,RL.eV]) (by
   grind[Array.toList_zipIdx]) h
  grind[Instr.fill]
theorem abt{i:Array (Nat×Operand)}{j:AV}(p:St Y L s.tmps)(x:du G Y)(K:B.op=.build u i)(h:y1 P u (i.toList.map λC=>(C.1,l G L C.2))=aa j):cv P B s Y j L:=by
 unfold y1 at h;have key:∀b,P.built u ((i.map λ(c,R)=>(c,s.eval R)).toList)=aa b->RL Y j.cells b.toList->(∀D∈b.toList,D.oneCell'=ad)->(∃v,j=.agg v)->cv P B s Y j L:=by
  intro b H f e ⟨v,Q⟩;subst Q;refine cv.still p (bA:=.agg b) ?_ (.inl (.agg _ _ f e));simp[execOp,K,run_build Y.w u _ b H]
 split at h
 ·rename_i k q z o
  let⟨c,t,y,A,f,e⟩:=xH (Y:=Y) o;split at h
  case isFalse=>simp at h
  case isTrue E=>
  simp only[dj]at h;obtain⟨r,g,rfl⟩:=h;have M:∀(d:List Field),d.all (λa=>(P.info? a.type).isSome)=ad->d.mapM (λa=>(P.info? a.type).map λc=>(a.offset,c.size))=aa (d.map λa=>(a.offset,bh P a.type)):=by
   intro d;induction d with
   |nil=>intro _;rfl
   |cons a d T=>
    simp_all[oz,bc,sH,List.mapM_cons,jw]
  have N:(λc:Nat=>(k[c]?).map λa:Field=>(a.offset,bh P a.type))=λc:Nat=>((k.toList.map λa:Field=>(a.offset,bh P a.type)).toArray)[c]?:=by
   funext c;simp
  rw[N]at g;let⟨b,I,n,m⟩:=Jt p x _ i.toList q t.cells r f e g;refine key b ?_ n m ⟨_,rfl⟩;have F:k.toList.all (λa=>(P.info? a.type).isSome)=true:=by simpa using E
  simp only[Program.built,y,z,A,M _ F];simp_all
 ·rename_i V S q z o
  let⟨c,t,y,A,f,e⟩:=xH (Y:=Y) o;split at h
  case isFalse=>simp at h
  case isTrue O=>
  simp only[dj]at h;obtain⟨r,g,rfl⟩:=h;let⟨U,J⟩:=uS O;rw[jw J]at g;let⟨b,I,n,m⟩:=Jt p x _ i.toList q t.cells r f e g;refine key b ?_ n m ⟨_,rfl⟩;simp_all[Program.built]
 simp at h
variable{dh:Nat}{kj:TypeId}
theorem uT{b:Nat}:∀{a:List (List AV)}(off len:Nat),(∀e∈a,Z e=b)->((a.drop off).take len).flatten=(a.flatten.drop (off*b)).take (len*b)
 |a,0,0,_=>by simp
 |[],off,len,_=>by simp
 |e::a,0,len+1,h=>by
  have c:=h e (by simp);have d:=uT (b:=b) (a:=a) 0 len (by grind);simp_all[ll,Ou,q4,Ov,xo,arh,gP]
 |e::a,off+1,len,h=>by
  have c:=h e (by simp);have d:=uT (b:=b) (a:=a) off len (by grind);simp_all[arl,xo,aaA,uI,q4,Nat.add_sub_cancel]
theorem Fm(h:qq P u=ad):(∃a,P.underlying u=aa (.slice a))\/P.underlying u=aa .string:=by
 grind[qq]
theorem Src.nil{w:World}(b:qq P u=ad)(a:Option Addr)(cap:Nat):Src P U u (.slice a 0 cap) 0 [] w:=by
 rcases a with _|a;exact⟨Fm b,λ_=>rfl,run_firstCells_none w U 0 0 cap,by grind[run_firstCells_none],by simp,λ_ h=>by cases h⟩;exact⟨Fm b,λ_=>rfl,by grind[run_firstCells_some],by grind[run_firstCells_some],by simp,λ_ h=>by cases h⟩
theorem Src.at{w:World}(e:qq P u=ad){cap:Nat}(d:w.heap[N]?=aa (.cells eG cr mG))(g:z+dh*U<=eG.size)
 (c:∀f∈(eG.toList.drop z).take (dh*U),f.oneCell'=ad):Src P U u (.slice (aa ⟨N,z,ae⟩) dh cap) dh ((eG.toList.drop z).take (dh*U)) w:=by
 have a:Z ((eG.toList.drop z).take (dh*U))=dh*U:=by simp;omega
 have b:=Jg d z ((eG.toList.drop z).take (dh*U)) (by rw[a]);exact⟨Fm e,λ_=>rfl,run_firstCells_some w U dh _ dh cap _ a b,run_firstCells_some w.drew U dh _ dh cap _ a (by simpa using b),a,c⟩
theorem abu(B:St Y L s.tmps){p:AV}{k:List (List AV)}(f:qq P u=ad)(h:RT Y p bA)(a:oS L U p=aa k):
 ∃A,Src P U u bA (Z k) A Y.w/\RL Y k.flatten A/\∀e∈k,Z e=U:=by
 replace h:=h.resolve_right (by grind[oS]);cases p with
 |aq=>
  simp[oS]at a;subst a;cases h
  exact⟨[],Src.nil f _ 0,.nil,by simp⟩
 |dG=>
  simp[oS]at a;subst a;cases h
  exact⟨[],Src.nil f _ 0,.nil,by simp⟩
 |sl W c=>
  simp only[oS]at a;split at a
  case isFalse=>simp at a
  case isTrue E=>
  simp at a;subst a;have j:=OQ E;cases h with
  |jN _ l cap=>exact⟨[],Src.nil f l cap,.nil,by simp⟩
  |sl _ _ d a3 T cap m D af aj ak az v R t i=>
   have F:Z c*T=Z c*U:=by
    rcases c with _|⟨e,c⟩;simp;grind
   grind[Src.at]
 |q id g off len=>
  simp only[oS]at a;rw[B.hp]at a;rcases n:Y.H[id]? with _|ob;grind;cases ob with
  |mp _ _ _=>grind
  |fm _=>grind
  |iD _ _=>grind
  |arr ah b c=>
   simp only[n]at a;split at a
   case isFalse=>simp at a
   case isTrue v=>
   let⟨G,N,K⟩:=v;subst G;subst N;simp at a;subst a;let⟨j,M⟩:=B.bM.gI id _ n;have O:∀e∈(c.drop off).take len,Z e=b:=by grind
   have aE:Z ((c.drop off).take len)=len:=by simp;omega
   cases h with
   |q _ _ _ _ _ ax ai au h=>
    obtain⟨l,cap,rfl,aA,aZ,x⟩:=h b c n;by_cases J:len=0;subst J;simp only[aaD];exact⟨[],Src.nil f l cap,.nil,by simp⟩;rcases x with x|⟨d,a4,I,rfl,R⟩;omega;rcases M with⟨F,aR⟩|⟨V,m,D,y,am,a2,t,i⟩;grind;rw[I]at y;injection y with e;injection e with C ac;subst C;have z:off*b+len*b<=Z c*b:=by
     rw[<-sJ];exact my _ K
    have a0:∀bA∈(m.toList.drop (off*b)).take (len*b),bA.oneCell'=true:=λbA Q=>by
     apply i;rw[<-k5 _ (Z c*b) _ _ z]at Q;grind
    refine⟨(m.toList.drop (off*b)).take (len*b),by grind[Src.at],?_,O⟩;rw[uT off len j];have r:=RL.take (len*b) (RL.drop (off*b) t);rw[k5 _ _ _ _ z]at r;exact r
 |str o=>
  simp only[oS]at a;split at a
  case isFalse=>simp at a
  case isTrue i=>
  simp at a;subst a;subst i;cases h with
  |str d=>
   refine⟨byteCells d,?_,?_,by simp⟩;rw[kc];have:Z d.data.toList=d.size:=by simp
   rw[this];exact⟨Fm f,λ_=>rfl,firstCells_string d Y.w,firstCells_string d Y.w.drew,by grind[byteCells_length],λbA j=>by
    obtain⟨_,_,rfl⟩:=cy.1 j;rfl⟩
   unfold byteCells;generalize d.data.toList=o;induction o with
   |nil=>exact .nil
   |cons X o S=>exact .cons _ _ _ _ (.int _ _) S
 |_=>simp[oS]at a
theorem abv{w:World}(k l r h:TypeId)(b:TypeInfo)(q:P.underlying k=aa (.slice h))(o:P.info? h=aa b)(c a g:Nat)(m:Value)(f:Nat)(d:List Value)(e:Src P b.size l m f d w)
 (n:w.heap[c]?=aa (.cells eG u (0,0)))(p:a+f<=g)(t:a*b.size+Z d<=eG.size):
 (Builtin.append_ #[k,l] r #[.slice (aa ⟨c,0,ae⟩) a g,m]).run P w=.ok (.slice (aa ⟨c,0,ae⟩) (a+f) g) (w.setRow c (eG.toList.take (a*b.size)++d++eG.toList.drop (a*b.size+Z d)).toArray):=by
 have j:=run_storeCells_at P c (a*b.size) u d 0 eG w n (by omega) e.one;simp only[fW]at j;rcases e.kind with⟨s,i⟩|i<;>simp[Builtin.append_,run_underlying q,run_underlying i,sizeOf,typeInfo,o,e.len,p,e.cells,Addr.add_mid,j]
theorem OY{w:World}(e f j b:TypeId)(d:TypeInfo)(i:P.underlying e=aa (.slice b))(h:P.info? b=aa d)(base:Option Addr)(cap:Nat)(g:Value)(a:Src P d.size f g 0 [] w):
 (Builtin.append_ #[e,f] j #[.slice base 0 cap,g]).run P w=.ok (.slice base 0 cap) w:=by
 rcases a.kind with⟨k,c⟩|c<;>cases base<;>simp[Builtin.append_,run_underlying i,run_underlying c,sizeOf,typeInfo,h,a.len,a.cells,storeCells]
theorem AT(b:Array Value)(a:Nat):(Builtin.zeroCells b a).size=a*b.size:=by simp[Builtin.zeroCells]
theorem Ju(o:St Y L s.tmps){bD d7 d6:AV}{y:Value}(M:RT Y bD bA)(f7:RT Y d7 y)(ax:qq P cr=ad)(h:oT P L u bD d7=aa (d6,n)):
 ∃c p,(Builtin.append_ #[u,cr] kj #[bA,y]).run P Y.w=.ok c p.w/\R p d6 c/\St p n s.tmps/\Fr Y p:=by
 unfold oT at h;split at h
 case h_2=>simp at h
 case h_1 l ac=>
 split at h
 case h_2=>simp at h
 case h_1 z b af d1=>
 split at h
 case isFalse=>simp at h
 case isTrue au=>
 let⟨d2,f2,a2⟩:=au;let⟨a,ai,G,d4,f8,g7⟩:=xH (Y:=Y) af;rw[jw G]at d2 f2 d1 h;rw[Je G]at a2 h;have d3:ai.cells.size=a.size:=by rw[<-d2,<-f8.length];simp
 let⟨f,x,cc,dl⟩:=abu o (u:=cr) ax f7 d1;have B:Z f=Z b*a.size:=x.newsLen;split at h
 ·
  rename_i co;let⟨j,f6⟩:∃j,bA=.slice j 0 0:=by
   replace M:=M.resolve_right (by rintro⟨_,_,_,h,_⟩;rw[h]at co;cases co);cases M<;>first|exact⟨_,rfl⟩|grind[AV.isNil]
  subst f6;have em:(Builtin.firstCells a.size 0 (.slice j 0 0)).run P Y.w.drew=.ok #[] Y.w.drew:=by
   rcases j with _|j;grind[run_firstCells_none];grind[run_firstCells_some]
  split at h
  case isFalse=>simp at h
  case isTrue a3=>
  simp at h;let⟨rfl,rfl⟩:=h;by_cases aZ:b=[];subst aZ;have ba:f=[]:=tH (by simpa using B);subst ba;let⟨p,N,ca,br,r⟩:=OW o a.size Y.w (c0.refl _ _);refine⟨_,p,by rw[N];exact OY u cr kj l a ac G j 0 y x,?_,br,r⟩;grind[OX];have g6:0<Z b:=List.length_pos_iff.2 aZ;have S:Z b*a.bytes<=140737488355328:=by simpa using a3
  have a5:Z b<=140737488355328:=iP (aaE _ a2) S;have C:=run_append_grow_src (P:=P) Y.w u cr kj l a ai ac G d4 j 0 0 [] em y (Z b) f x (by omega) (by omega) (growslice_fits (by omega) (by simpa using S));simp only[e,dK]at C;have a4:=grownCap_ge Y.w (Z b) 0 l;generalize V:f.toArray++Builtin.zeroCells ai.cells (grownCap Y.w (Z b) 0 l -(Z b))=cells at C
  have X:cells.size=grownCap Y.w (Z b) 0 l*a.size:=by
   rw[<-V];simp only[aaF,arn,AT,d3,B,<-sJ];congr 1;omega
  have aA:cells.toList.take (Z b*a.size)=f:=by
   rw[<-V,IS,Ow,<-B];exact aaG
  let⟨p,N,E,ca,br,r⟩:=AR o a.size b cells l dl (by grind) (by grind) (by rw[aA];exact x.one) (Y.w.drew.alloc (.cells cells l)) ((c0.drew _ _).trans (c0.alloc _ _ _)) (heap_alloc_new Y.w.drew _);refine⟨_,p,by rw[N];exact C,?_,br,r⟩;exact Fl (g:=0) (U:=a.size) (a:=b) (by rw[ca];simp) E a4 (by rw[X];exact c5 _)
 ·split at h
  case h_2=>simp at h
  case h_1 id g len g1=>
  rw[o.hp]at h;rcases W:Y.H[id]? with _|ob;grind;cases ob with
  |mp _ _ _=>grind
  |fm _=>grind
  |iD _ _=>grind
  |arr v go i=>
   simp only[W]at h;split at h
   case isFalse=>simp at h
   case isTrue au=>
   let⟨eo,a5,X,a3⟩:=au;subst eo;subst X;simp at h;let⟨rfl,rfl⟩:=h;have S:(len+Z b)*a.bytes<=140737488355328:=by simpa using a3
   have g0:len+Z b<=140737488355328:=iP (aaE _ a2) S;replace M:=M.resolve_right (by grind);let⟨ds,bi⟩:=o.bM.gI id _ W;have az:Z (i.take len++b)=len+Z b:=by simp;omega
   have d0:∀aE∈i.take len++b,Z aE=a.size:=λaE hq=>by
    rcases dm.1 hq with hq|hq;exact ds aE (sI hq);exact dl aE hq
   have cl:(i.take len++b).flatten=i.flatten.take (len*a.size)++b.flatten:=by
    rw[xp];have:=uT 0 len ds;simp only[ll,Ou]at this;rw[this]
   have eq:id<Z Y.H:=(fM.1 W).1;cases M with
   |q _ _ _ _ _ _ aZ gt h=>
    obtain⟨j,cap,rfl,gQ,g3,U⟩:=h _ _ W;have am:∀(I:World)(A:Option (Nat×Nat))(c:Value),(Builtin.append_ #[u,cr] kj #[.slice j len cap,y]).run P Y.w=.ok c I->c0 Y.w I (λk=>∃z,Y.h id=aa (k,z))->
     (∀k z,A=aa (k,z)->k<I.heap.size/\((∃ah,Y.h id=aa (k,ah))\/Y.w.heap.size<=k))->
     (Fr Y (Y.bW I id (.arr (v+1) a.size (i.take len++b)) A)->oV (Y.bW I id (.arr (v+1) a.size (i.take len++b)) A) id (.arr (v+1) a.size (i.take len++b)))->
     (∃aj J,c=.slice aj (len+Z b) J/\len+Z b<=J/\(J=0\/∃k z,A=aa (k,z)/\aj=aa ⟨k,0,ae⟩/\J*a.size<=z))->
     ∃c p,(Builtin.append_ #[u,cr] kj #[.slice j len cap,y]).run P Y.w=.ok c p.w/\R p (.q id (v+1) 0 (len+Z b)) c/\St p {L with hp:=Y.H.set id (.arr (v+1) a.size (i.take len++b))} s.tmps/\Fr Y p:=by
     intro I A c f3 N ex fx ⟨aj,J,f5,el,g4⟩;let⟨r,d9⟩:=ar.sV o.bM N W (j:=.arr (v+1) a.size (i.take len++b)) (e:=A) (by simp[hM]) ex fx;refine⟨c,_,f3,?_,?_,r⟩;have fd:(Y.bW I id (.arr (v+1) a.size (i.take len++b)) A).H[id]?=aa (.arr (v+1) a.size (i.take len++b)):=by simp[ar.bW,eq]
     refine .q id (v+1) 0 _ c (by grind) (by grind) (λg9 gc ge hq=>?_) λgc ge hq=>?_;grind;rw[fd]at hq;injection hq with t;injection t with _ Q d8;subst Q;subst d8;refine⟨aj,J,f5,el,by omega,?_⟩;simp_all[ar.bW];have:=St.mono o r d9 (λ_ _ h=>h) (λd5 O ax=>N.block O (o.bM.blt d5 O ax).1 λ⟨ah,l⟩=>(o.bM.blt d5 O ax).2.2 _ _ l);grind[ar.bW]
    by_cases bm:len+Z b<=cap;rcases U with U|⟨k,bv,E,rfl,af⟩;have t:len=0:=by omega
    have Q:b=[]:=tH (by omega);subst t;subst Q;have ba:f=[]:=tH (by simpa using B);subst ba;refine am Y.w (Y.h id) _ (OY u cr kj l a ac G j cap y x) (c0.refl _ _) (λk z T=>⟨(o.bM.dC _ _ _ T).1,.inl ⟨z,T⟩⟩) (λr=>?_) ⟨j,cap,rfl,by simp,.inl U⟩;refine⟨by simp,?_⟩;rcases bi with⟨_,cs⟩|⟨aR,d,ak,F,K,_,_,_⟩;grind[ar.bW];exact .inr ⟨aR,d,ak,by simp[ar.bW,F],K,by simp,by simpa using RL.nil,by simp⟩
    rcases bi with⟨_,cs⟩|⟨aR,d,ak,F,K,f9,ce,a0⟩;grind;rw[E]at F;injection F with t;injection t with t Q;subst t;have ci:len*a.size+Z f<=d.size:=by
     rw[B,<-sJ];have:=my a.size bm;simp only[e]at af;omega
    have C:=abv (P:=P) u cr kj l a ac G k len cap y (Z b) f x K bm ci;have a9:len*a.size<=Z i*a.size:=my _ a5;simp only[Ou]at am⊢;have g5:Z (d.toList.take (len*a.size)++f++d.toList.drop (len*a.size+Z f))=d.size:=by
     rw[Jn _ _ _ (by simpa using ci)];simp
    have c2:(d.toList.take (len*a.size)++f++d.toList.drop (len*a.size+Z f)).take ((len+Z b)*a.size)=d.toList.take (len*a.size)++f:=by
     rw[sJ,<-B];have:Z (d.toList.take (len*a.size)++f)=len*a.size+Z f:=by simp;omega
     rw[<-this];exact aaG
    refine am _ (Y.h id) _ C (c0.setRow _ _ _ _ ⟨bv,E⟩) (λO ah T=>⟨by simp;grind,.inl ⟨ah,T⟩⟩) (λr=>?_) ⟨_,cap,rfl,bm,.inr ⟨k,bv,E,rfl,by simpa using af⟩⟩;refine⟨d0,.inr ⟨k,_,ak,?_,setRow_heap _ _ _ _ _ _ K,?_,?_,?_⟩⟩;show(if id=id then Y.h id else Y.h id)=aa (k,(List.toArray _).size);grind;grind;rw[az,Ow,c2,cl];refine RL.append (RL.mono r o.bM ?_) (RL.mono r o.bM cc)
    have:=RL.take (len*a.size) ce;grind;intro c m;rw[az,Ow,c2]at m;rcases dm.1 m with m|m;apply a0;have:d.toList.take (len*a.size)=(d.toList.take (Z i*a.size)).take (len*a.size):=by rw[Ox,Oq a9]
    grind;exact x.one c m;have f1:∃D,(Builtin.firstCells a.size len (.slice j len cap)).run P Y.w.drew=.ok D.toArray Y.w.drew/\Z D=len*a.size/\RL Y (i.flatten.take (len*a.size)) D/\∀c∈D,c.oneCell'=true:=by
     by_cases es:len=0;subst es;refine⟨[],?_,by simp,by simpa using RL.nil,by simp⟩;rcases j with _|j;grind[run_firstCells_none];grind[run_firstCells_some];rcases U with U|⟨k,bv,E,rfl,af⟩;omega;rcases bi with⟨_,cs⟩|⟨aR,d,ak,F,K,f9,ce,a0⟩;grind;rw[E]at F;injection F with t;injection t with t Q;subst t;have a9:len*a.size<=Z i*a.size:=my _ a5
     have f4:(d.toList.take (Z i*a.size)).take (len*a.size)=d.toList.take (len*a.size):=by rw[Ox,Oq a9]
     have be:Z (d.toList.take (len*a.size))=len*a.size:=by simp;omega
     refine⟨d.toList.take (len*a.size),?_,be,by grind[RL.take],λc m=>a0 c (by rw[<-f4]at m;exact sI m)⟩;simp only[Ou];have au:=Jg (w:=Y.w) K 0 (d.toList.take (len*a.size)) (by rw[be];simp);exact run_firstCells_some Y.w.drew a.size len _ len cap _ be (by simp_all)
    let⟨D,f0,c1,fn,g2⟩:=f1;have C:=run_append_grow_src (P:=P) Y.w u cr kj l a ai ac G d4 j len cap D f0 y (Z b) f x (by omega) (by omega) (growslice_fits (by omega) S);have a4:=grownCap_ge Y.w (len+Z b) cap l;generalize V:(D++f).toArray++Builtin.zeroCells ai.cells (grownCap Y.w (len+Z b) cap l -(len+Z b))=cells at C;have X:cells.size=grownCap Y.w (len+Z b) cap l*a.size:=by
     rw[<-V];simp only[aaF,arn,gy,AT,d3,B,c1,<-sJ];congr 1;omega
    have aA:cells.toList.take ((len+Z b)*a.size)=D++f:=by
     rw[<-V,IS,Ow,sJ,<-B,<-c1,<-gy];exact aaG
    refine am _ (aa (Y.w.heap.size,cells.size)) _ C ((c0.drew _ _).trans (c0.alloc _ _ _)) (λO ah T=>?_) (λr=>?_) ⟨_,_,rfl,a4,.inr ⟨_,_,rfl,rfl,by rw[X];exact c5 _⟩⟩;simp at*;omega;refine⟨d0,.inr ⟨Y.w.heap.size,cells,l,by simp[ar.bW],heap_alloc_new Y.w.drew _,?_,?_,?_⟩⟩;grind;rw[az,aA,cl];exact RL.append (RL.mono r o.bM fn) (RL.mono r o.bM cc);intro c m;rw[az,aA]at m;rcases dm.1 m with m|m
    grind;exact x.one c m
theorem CI(a:Array Value)(b:Nat)(c:a.size=b):∀n:Nat,(madeCells a (n*b)).toList=(db n a.toList).flatten
 |0=>by simp[madeCells]
 |n+1=>by
  have d:=CI a b c n;unfold madeCells at d⊢;rw[aro,xp,<-d,q4];simp only[Array.toList_map,Array.toList_range,List.flatten_singleton];rw[List.range_add,hE,vP]
  congr 1
  apply ql;simp[c];simp_all[xq,Cr,Function.comp,Nat.mul_comm,Nat.mod_eq_of_lt]
theorem OZ{k:ar}{g:Act}{f:AS}(v:St k f g.tmps)(t:du G k)(a:Nat):∀(parts:List (Nat×Operand))(b:List (List AV))(cells:Array Value)(r:List (List AV)),(∀p∈b,Z p=a)->RL k b.flatten cells.toList->(∀q∈cells.toList,q.oneCell'=ad)->
 lH a b (parts.map λe=>(e.1,l G f e.2))=aa r->∃m,Instr.fill (λc=>aa (c*a,a)) cells (parts.map λe=>(e.1,g.eval e.2))=aa m/\r.length=Z b/\(∀p∈r,Z p=a)/\RL k r.flatten m.toList/\∀q∈m.toList,q.oneCell'=ad
 |[],b,cells,r,j,n,s,h=>by
  simp[lH]at h;subst h;exact⟨cells,rfl,rfl,j,n,s⟩
 |(c,d)::parts,b,cells,r,j,n,s,h=>by
  simp only[eg,lH]at h;split at h
  case isFalse=>simp at h
  case isTrue o=>
  let⟨B,A,x⟩:=o;let⟨u,E⟩:=(R.pl (dH v t d)).cells x;have D:(g.eval d).cells.size=a:=by rw[<-B,<-u.length];simp
  have L:cells.size=Z b*a:=by rw[<-Fg j,<-n.length];simp
  have M:c*a+a<=Z b*a:=by
   have:=my a (show c+1<=Z b from A);rw[q4]at this;exact this
  have y:=Js (c*a) (g.eval d).cells.toList 0 cells (by simp[D];omega);let⟨i,o⟩:∃i,b[c]?=aa i:=by simp_all
  have z:(b.set c (l G f d).pl.cells).flatten=eV b.flatten (c*a) (l G f d).pl.cells:=by
   have:=Ji (off:=0) (new:=(l G f d).pl.cells) j o (by omega);have C:eV i 0 (l G f d).pl.cells=(l G f d).pl.cells:=by
    have:Z i=a:=j i (qj o);unfold eV;rw[aaD,uI (by omega)];simp
   rw[C,fW]at this;exact this
  let⟨m,F,H,I,J,K⟩:=OZ v t a parts (b.set c (l G f d).pl.cells) ((g.eval d).cells.zipIdx.foldl (λw(e:Value×Nat)=>w.setIfInBounds (c*a+e.2) e.1) cells) r (by
   grind) (by
   rw[<-Array.foldl_toList,Array.toList_zipIdx,y,z];simpa using RL.eV n u (c*a)) (by
   grind[Array.toList_zipIdx]) h
  grind[Instr.fill]
theorem Jv(c:St Y L s.tmps)(d:Nat)(a:List (List AV))(cells:Array Value)(i:TypeId)(j:Nat×Nat)(cap:Nat)(p:Z a<=cap)(r:∀v∈a,Z v=d)(y:Z a*d<=cells.size)
 (n:RL Y a.flatten (cells.toList.take (Z a*d)))(x:∀u∈cells.toList.take (Z a*d),u.oneCell'=ad)(b:World)(l:c0 Y.w b (λ_=>False))(k:b.heap[Y.w.heap.size]?=aa (.cells cells i j)):
 ∃e,e.w=b/\RT e (.sl ab a) (.slice (aa ⟨Y.w.heap.size,0,ae⟩) (Z a) cap)/\St e L s.tmps/\Fr Y e:=by
 have z:Y.w.heap.size<b.heap.size:=(kY.1 k).1;let⟨f,m⟩:=ar.Jm c.bM l;have o:(Y.df b).S ab Y.w.heap.size:=.inr (by omega);refine⟨Y.df b,rfl,.inl (.sl ab a _ 0 d cap cells i j o k r p (by omega) (by simpa using RL.mono f c.bM n) (by grind)),?_,f⟩;have:=St.mono c f m (λ_ _ h=>h) (λt g q=>l.block g (c.bM.blt t g q).1 (λh=>h));simpa[ar.df,<-c.hp]using this
theorem abw{m:Array (Nat×Operand)}{own:Bool}{E:AV}(o:St Y L s.tmps)(H:du G Y)(R:B.op=.buildSlice u U m)(h:tM P own L u U (m.toList.map λg=>(g.1,l G L g.2))=aa (E,n)):cv P B s Y E n:=by
 unfold tM at h;split at h
 case h_2=>simp at h
 case h_1 j V=>
 split at h
 case isFalse=>simp at h
 case isTrue r=>
 split at h
 case h_2=>simp at h
 case h_1 aj X=>
 split at h
 case isFalse=>simp at h
 case isTrue D=>
 split at h
 case h_2=>simp at h
 case h_1 b t=>
 let⟨a,p,x,aE,C,ac⟩:=xH (Y:=Y) X;rw[jw x]at r D t h;let⟨az,ax⟩:=r;have af:p.cells.size=a.size:=by rw[<-D,<-C.length];simp
 have z:=CI p.cells a.size af U;let⟨c,v,y,k,I,ak⟩:=OZ o H a.size m.toList (db U aj) (madeCells p.cells (U*a.size)) b (by grind) (by rw[z];exact RL.replicate C U) (by
  rw[z];intro ai W;let⟨aR,O,A⟩:=uJ.1 W;rw[List.eq_of_mem_replicate O]at A;exact ac ai A) t
 simp only[arp]at y;have J:c.size=Z b*a.size:=by rw[<-Fg k,<-I.length];simp
 have aA:c.toList.take (Z b*a.size)=c.toList:=gP (by simp[J]);have q:(execOp s.eval B).run P Y.w=.ok (.value (.slice (aa ⟨Y.w.heap.size,0,ae⟩) U U)) (Y.w.alloc (.cells c j)):=by
  by_cases F:U*a.size=0;have Q:U=0:=by rcases Nat.mul_eq_zero.1 F with h|h<;>omega
  subst Q;have N:Instr.fill (λah=>aa (ah*a.size,a.size)) #[] (m.toList.map λg=>(g.1,s.eval g.2))=aa c:=by
   have:madeCells p.cells (0*a.size)=#[]:=by simp[madeCells]
   rw[this]at v;exact v
  have T:(Array.range 0).map (λ_:Nat=>(default:Value))=#[]:=by simp
  simp[execOp,R,Instr.buildSlice,run_underlying V,sizeOf,typeInfo,x,newRow,T,N];simp_all[run_buildSlice,madeCells,execOp]
 split at h;rename_i K;have M:b=[]:=by simpa using K
 simp at h;let⟨rfl,rfl⟩:=h;let⟨d,f,S,i,e⟩:=Jv o a.size b c j (0,0) (Z b) (c5 _) k (by omega) (by grind) (by grind) _ (by grind[c0.alloc]) (heap_alloc_new _ _);refine⟨_,_,d,by rw[f];exact q,.inl rfl,.inl ?_,i,e⟩;rw[<-y,M];exact .dG _;split at h;simp at h;let⟨rfl,rfl⟩:=h;let⟨d,f,au,am,i,e⟩:=AR o a.size b c j k (by omega) (by grind) (by grind) _ (by grind[c0.alloc]) (heap_alloc_new _ _)
 refine⟨_,_,d,by rw[f];exact q,.inl rfl,.inl ?_,i,e⟩;grind[Fl];simp at h;let⟨rfl,rfl⟩:=h;let⟨d,f,S,i,e⟩:=Jv o a.size b c j (0,0) (Z b) (c5 _) k (by omega) (by grind) (by grind) _ (by grind[c0.alloc]) (heap_alloc_new _ _);refine⟨_,_,d,by rw[f];exact q,.inl rfl,?_,i,e⟩;grind
theorem abx{k:AV}(f:St Y L s.tmps)(i:du G Y)(D:B.op=.makeSlice u m dM)(h:y3 P L u (l G L m) (l G L dM)=aa (k,n)):cv P B s Y k n:=by
 unfold y3 at h;split at h
 case h_2=>simp at h
 case h_1 g S a Q ai H z y=>
 split at h
 case h_2=>simp at h
 case h_1 e K=>
 split at h
 case isFalse=>simp at h
 case isTrue t=>
 let⟨j,E,rfl,q,r,V⟩:=t;simp at h;let⟨rfl,rfl⟩:=h;let⟨b,c,d,O,M,ah⟩:=xH (Y:=Y) K;rw[jw d]at j E;rw[Je d]at r;have N:c.cells.size=b.size:=by rw[<-j,<-M.length];simp
 have C:=CI c.cells b.size N a.toNat;have A:=R.pI (z▸dH f i m);have v:=R.pI (y▸dH f i dM);have F:=run_make (P:=P) Y.w u g b c H d O S Q a a q (Int.le_refl _) (by rw[Int.mul_comm];omega) (by omega);have X:Z (db a.toNat e)=a.toNat:=by simp
 have I:∀U∈db a.toNat e,Z U=b.size:=by grind
 have x:(madeCells c.cells (a.toNat*b.size)).size=a.toNat*b.size:=size_madeCells _ _;have af:(madeCells c.cells (a.toNat*b.size)).toList.take (Z (db a.toNat e)*b.size)=(db a.toNat c.cells.toList).flatten:=by
  rw[gP (by simp[x]),C]
 let⟨o,J,ac,W,T,p⟩:=AR f b.size (db a.toNat e) (madeCells c.cells (a.toNat*b.size)) g I (by grind) (by grind[RL.replicate]) (by
  simp_all) _ (by grind[c0.alloc,madeCells]) (heap_alloc_new _ _)
 rw[jw d];refine⟨_,.slice (aa ⟨Y.w.heap.size,0,ae⟩) a.toNat a.toNat,o,?_,.inl rfl,.inl ?_,T,p⟩;rw[J];simp[execOp,D,A,v,F];grind[Fl]
theorem aby{g:AV}(a:St Y L s.tmps)(o:du G Y)(r:B.op=.range u m)(v:P.underlying u=aa .string)(h:sS L (vW (l G L m) L.hp)=aa (g,n)):cv P B s Y g n:=by
 have f:=dH a o m;unfold vW sS at h;split at h
 case h_2=>simp at h
 case h_1 i x=>
 rw[x]at f;simp only[kd,e1,eE]at h;let⟨rfl,rfl⟩:=h;obtain⟨b,y,rfl⟩:=R.xG f;have q:Y.w.heap.size<(Y.w.alloc (.stringIter b 0)).heap.size:=by simp
 let⟨d,k⟩:=ar.Fk a.bM (hL:=.iD b.data.toList 0) (f:=aa (Y.w.heap.size,0)) (c0.alloc Y.w (.stringIter b 0) _)
  (λi E c=>by injection c with c;injection c with j _;subst j;exact⟨q,c5 _⟩)
  (λd=>⟨_,b,by simp[ar.new],heap_alloc_new _ _,rfl⟩)
 refine⟨_,.pointer (aa ⟨Y.w.heap.size,0,ae⟩),_,?_,.inl rfl,.inl (.pB _ _ ?_ rfl λD pos C=>⟨Y.w.heap.size,0,?_,rfl⟩),?_,d⟩;have t:=run_range_string (P:=P) Y.w u b v;simp[execOp,r,y,t,ar.new,World.iter];rw[a.hp];simp[ar.new];rw[a.hp];simp[ar.new];have:=St.mono a d k (λ_ _ h=>h) (λz e p=>(c0.alloc Y.w (.stringIter b 0) (λ_=>False)).block e (a.bM.blt z e p).1 (λh=>h));simpa[ar.new,a.hp]using this
theorem run_next_at{w:World}{pos:Nat}{a:ByteArray}(c:TypeId)(b:w.heap[U]?=aa (.stringIter a pos)):
 (Instr.next (.pointer (aa ⟨U,0,ae⟩)) ad c).run P w=if pos<a.size then .ok (.tuple #[.bool ad,.int .i64 pos,.int .i32 (Utf8.decode a pos).1]) {w with heap:=w.heap.setIfInBounds U (.stringIter a (pos+(Utf8.decode a pos).2))}else .ok (.tuple #[.bool ab]) w:=by
 by_cases h:pos<a.size
 ·simp only[Instr.next,getObj,setObj,Sem.run_bind,Sem.run,b,Result.andThen,h,if_true]
  simp[goInt]
 ·simp[Instr.next,getObj,Sem.run,b,h]
theorem abz{x:AV}(b:St Y L s.tmps)(D:du G Y)(R:B.op=.next m ad)(h:sS L (tP (l G L m) L.hp)=aa (x,n)):cv P B s Y x n:=by
 have d:=dH b D m;unfold tP sS at h;split at h
 case h_2=>simp at h
 case h_1 id I=>
 rw[I]at d;split at h
 case h_2=>simp at h
 case h_1 i pos g=>
 rw[b.hp]at g;replace d:=d.resolve_right (by grind);generalize S:s.eval m=V at d;cases d with
 |pB _ _ O K H=>
 obtain⟨e,y,o,rfl⟩:=H i pos g;obtain⟨J,a,p,E,rfl⟩:=b.bM.gI id _ g;rw[o]at p;injection p with j;injection j with z A;subst z;subst A;have r:=run_next_at (P:=P) (w:=Y.w) B.type E;have t:Z a.data.toList=a.size:=by simp
 have F:qs a.data.toList pos=Utf8.decode a pos:=by simp[qs]
 split at h;rename_i c;rw[t]at c;simp only[kd,e1,eE]at h;let⟨rfl,rfl⟩:=h;rw[if_pos c]at r;rw[F];have u:c0 Y.w {Y.w with heap:=Y.w.heap.setIfInBounds e (.stringIter a (pos+(Utf8.decode a pos).2))} (λi=>∃y,Y.h id=aa (i,y)):=
  ⟨rfl,rfl,⟨rfl,c5 _⟩,by simp,λf _ Q=>by
   grind⟩
 have N:=(b.bM.dC _ _ _ o).1;let⟨k,C⟩:=ar.sV b.bM u g (j:=.iD a.data.toList (pos+(Utf8.decode a pos).2)) (e:=Y.h id) rfl (by grind)
  (λk=>⟨e,a,by simp[ar.bW,o],by
   show(Y.w.heap.setIfInBounds e _)[e]?=_;grind,rfl⟩)
 refine⟨.value (.tuple #[.bool ad,.int .i64 pos,.int .i32 (Utf8.decode a pos).1]),_,_,?_,.inl rfl,.inl (.aB _ _ (.cons _ _ _ _ (.bool _) (.cons _ _ _ _ (.int _ _) (.cons _ _ _ _ (.int _ _) .nil)))),?_,k⟩;simp_all[execOp,ar.bW];have:=St.mono b k C (λ_ _ h=>h) (λv f q=>u.block f (b.bM.blt v f q).1 λ⟨W,j⟩=>(b.bM.blt v f q).2.2 _ _ j);simpa[ar.bW,b.hp]using this;rename_i c;rw[t]at c
 simp only[kd,e1,eE]at h;let⟨rfl,rfl⟩:=h;rw[if_neg c]at r;exact cv.still b (bA:=.tuple #[.bool ab]) (by simp_all[execOp]) (.inl (.aB _ _ (.cons _ _ _ _ (.bool _) .nil)))
theorem abA(a:St Y L s.tmps){r:Option Operand}(l:du G Y)(b:y6 P G L u r=ad)(g:B.op=.makeMap u r):cv P B s Y (.b7 (Z L.hp)) {L with hp:=L.hp++[.mp ad [] []]}:=by
 have n:Y.w.heap.size<(Y.w.alloc (.map #[] 0)).heap.size:=by simp
 let⟨d,k⟩:=ar.Fk a.bM (hL:=.mp ad [] []) (f:=aa (Y.w.heap.size,0)) (c0.alloc Y.w (.map #[] 0) _)
  (λv D c=>by injection c with c;injection c with j _;subst j;exact⟨n,c5 _⟩)
  (λd=>⟨_,#[],0,by simp[ar.new],heap_alloc_new _ _,.nil,.nil,λ_=>⟨rfl,rfl⟩⟩)
 refine⟨_,.map (aa Y.w.heap.size),_,?_,.inl rfl,.inl (.b7 _ _ ?_ rfl λA y _=>⟨Y.w.heap.size,0,?_,rfl⟩),?_,d⟩;cases r with
 |none=>simp[execOp,g,Instr.makeMap,ar.new]
 |some i=>
  unfold y6 at b;split at b;cases‹aa i=ae›
  rename_i C e;injection e with e;subst e;split at b;rename_i z _ _ q o;have p:=R.pI (q▸dH a l i);simp[execOp,g,Instr.makeMap,ar.new,run_underlying o,p,asInt,asIntOf];cases b
 rw[a.hp];simp[ar.new];rw[a.hp];simp[ar.new];have:=St.mono a d k (λ_ _ h=>h) (λt f m=>(c0.alloc Y.w (.map #[] 0) (λ_=>False)).block f (a.bM.blt t f m).1 (λh=>h));simpa[ar.new,a.hp]using this
theorem abB(c:St Y L s.tmps)(f:B.op=.assign (.const (.slice ae 0 0))):cv P B s Y (.q (Z L.hp) 0 0 0) {L with hp:=L.hp++[.arr 0 U []]}:=by
 let⟨a,g,e,d,b⟩:=OW c U Y.w (c0.refl _ _);refine⟨_,.slice ae 0 0,a,?_,.inl rfl,.inl (by grind[OX]),d,b⟩;simp_all[execOp,Act.eval]
theorem Fo:∀{ks:List Nat}{d bs:List AV},fZ ks d bs=aa ad->d=bs
 |ks,d,bs,h=>by
  unfold fZ at h;split at h;rfl;split at h;rename_i f;subst f;simp only[dj,bc,beq_iff_eq]at h;let⟨e,c,a,b⟩:=h;subst b;rw[a,Fo c];simp at h;simp only[dj,bc,beq_iff_eq]at h;let⟨e,c,a,b⟩:=h;subst b;rw[a,Fo c];simp only[dj,bc,beq_iff_eq]at h;let⟨e,c,a,b⟩:=h;subst b;rw[a,Fo c]
  ·simp at h
    termination_by ks=>Z ks
    decreasing_by all_goals grind
theorem abC{a b:AV}(h:sQ P u bq a b=aa ad):a=b:=by
 unfold sQ at h;grind[Fo]
theorem abD{w:World}(a:nS P u=aa bq){b c:AV}{p:Value}(k:R Y b bA)(l:R Y c p){r:Bool}(h:sQ P u bq b c=aa r):
 (Op.equal u bA p).run P w=.ok r w/\∀e,P.underlying u=aa e->∀g,Instr.sameNow e bA p=aa g->g=r:=by
 have s:nn P 100 u=aa bq:=by
  unfold nS at a;split at a;exact a;exact a;split at a;split at a;exact a;simp at a;simp at a;split at a;exact a;simp at a;simp at a
 have key:=Jq (z:=Y) (w:=w) (P:=P) 100 10000 u bq (by omega) s;unfold sQ at h;split at h
 ·rename_i j b B c
  split at h
  case isFalse=>simp at h
  case isTrue d=>
  obtain⟨rfl,rfl,m,f⟩:=d;simp at h;subst h;cases k;cases l
  have:=key [.int j b] [.int j c] [.int j b] [.int j c] (b==c) (RL.one (.int _ _)) (RL.one (.int _ _)) (by simp[f]) (by simp[f]) (by simp[fZ]);simp only[valOf,m,eZ,if_false,arq]at this;refine⟨this,λe _ g i=>?_⟩;unfold Instr.sameNow at i;grind
 ·rename_i b c
  split at h
  case isFalse=>simp at h
  case isTrue d=>
  obtain⟨rfl,m,f⟩:=d;simp at h;subst h;cases k with
  |str n=>
   cases l with
   |str o=>
    have:=key [.str n.data.toList] [.str o.data.toList] [.string n] [.string o] (n.data.toList==o.data.toList) (RL.one (.str _)) (RL.one (.str _)) (by simp[f]) (by simp[f]) (by simp[fZ]);simp only[valOf,m,eZ,if_false,arq]at this;refine⟨this,λe _ g i=>?_⟩;unfold Instr.sameNow at i;grind[beq_toListBytes,bytes_beq]
 ·rename_i q bs
  split at h
  case isFalse=>simp at h
  case isTrue d=>
  cases k with
  |agg _ x t z=>
   cases l with
   |agg _ y v A=>
    have:=key q bs x.toList y.toList r t v d.2.1 d.2.2 h;simp only[valOf,d.1,if_true,ark]at this;refine⟨this,λe _ g i=>?_⟩;grind[Instr.sameNow]
 simp at h
theorem AU{d:AV}:∀{c:List AV}{a b:Nat},findKey P u bq d c a=aa (aa b)->a<=b/\b -a<Z c/\c[b -a]?=aa d
 |[],_,_,h=>by simp[findKey]at h
 |x::i,a,b,h=>by
  simp only[findKey]at h;split at h;grind[abC];let⟨e,f,g⟩:=AU h;grind;simp at h
theorem O0{n:ar}{w:World}{d:TypeId}{o:TypeDesc}{l:List Nat}(t:P.underlying d=aa o)(q:nS P d=aa l){k:AV}{m:Value}(s:R n k m):∀(c:List MapEntry)(f:List AV)(a:Nat)(r:Option Nat),RL n f (c.map (·.key))->findKey P d l k f a=aa r->
 (Instr.findAsking d m c a).run P w=.ok (r.bind λj=>(c[j -a]?).map λe=>(j,e.val)) w/\∀g,Instr.findNow o m c a=aa g->g=r.bind λj=>(c[j -a]?).map λe=>(j,e.val)
 |[],f,a,r,p,h=>by
  simp[Instr.findAsking,Instr.findNow]
 |e::c,f,a,r,p,h=>by
  cases p with
  |cons A _ B _ y z=>
   simp only[findKey]at h;rcases i:sQ P d l k A with _|b;grind;let⟨x,G⟩:=abD (w:=w) q s y i;cases b
   simp[i]at h;let⟨C,D⟩:=O0 (w:=w) t q s c B (a+1) r z h;have v:(r.bind λj=>((e::c)[j -a]?).map λe=>(j,e.val))=r.bind λj=>(c[j -(a+1)]?).map λe=>(j,e.val):=by
    rcases r with _|j;rfl;let⟨E,F,_⟩:=AU h;grind
   rw[v];refine⟨by simp_all[Instr.findAsking],λg u=>?_⟩;grind[Instr.findNow];simp[i]at h;subst h;refine⟨by simp[Instr.findAsking,x],λg u=>?_⟩;grind[Instr.findNow]
theorem y9{w:World}(d:P.underlying u=aa lr)(k:nS P u=aa bq){f:AV}(l:R Y f bA)(a:List MapEntry)(b:List AV)(r:Option Nat)(j:RL Y b (a.map (·.key)))(h:findKey P u bq f b 0=aa r):
 (Instr.findKey u bA a).run P w=.ok (r.bind λe=>(a[e]?).map λg=>(e,g.val)) w:=by
 let⟨c,i⟩:=O0 (w:=w) d k l a b 0 r j h;simp only[Nat.sub_zero]at c i;unfold Instr.findKey;simp only[Sem.run_bind,run_underlying d,Result.andThen_ok];rcases m:Instr.findNow lr bA a 0 with _|n;exact c;simp_all
theorem Fp{w:World}(c:P.underlying u=aa lr)(a:nS P u=aa bq){z:AV}(q:R Y z bA)(n:nT P u bq z=ad)(empty:Bool):(Instr.checkKey empty 10000 u bA).run P w=.ok () w:=by
 unfold nT at n;let⟨r,g⟩:=sH.1 n;unfold nS at a;rw[c]at a;have o:=AO c;unfold sQ at g;split at g
 ·cases q
  cases lr<;>simp[y0]at o a
  all_goals first
   |(unfold Instr.checkKey;simp[run_underlying c];done)
   |grind
 ·cases q
  cases lr<;>simp[y0]at o a
  all_goals first
   |(unfold Instr.checkKey;simp[run_underlying c];done)
   |grind
 ·split at g
  case isFalse=>simp at g
  case isTrue m=>
  rw[o]at m;cases lr with
  |array s x=>
   simp only at a;rcases d:P.underlying x with _|A;grind;cases A with
   |int v=>
    simp only[d]at a;split at a
    case isFalse=>simp at a
    case isTrue e=>
    cases q with
    |agg _ vs t l=>
     let⟨h,p⟩:=info_of_underlying d;rw[jw p]at e;have G:vs.size=bh P u:=by rw[<-m.2.1,<-t.length];simp
     unfold Instr.checkKey;simp only[Sem.run_bind,run_underlying c,Result.andThen_ok];simp only[arj,Std.Legacy.Range.size];have E:List.range' 0 ((s -0+1 -1)/1) 1=ay s:=by simp[aaC]
     rw[E];have f:∀i∈ay s,i<vs.size:=λi C=>by have:=iw.1 C;omega
     generalize ay s=j at f;induction j with
     |nil=>simp
     |cons i j H=>
      have K:=f i (by simp);have D:=CH (P:=P) (w:=w) p d vs (i*h.size) (by rw[e.1];omega) (λ_=>e.1);have B:∀k:Value,(Instr.checkKey empty 9999 x k).run P w=.ok () w:=by
       intro k;unfold Instr.checkKey;simp[run_underlying d]
      simp_all[sizeOf,typeInfo]
   |_=>grind
  |struct y=>
   simp only at a;split at a
   case isFalse=>simp at a
   case isTrue e=>
   cases q with
   |agg _ vs t l=>
    have G:vs.size=bh P u:=by rw[<-m.2.1,<-t.length];simp
    unfold Instr.checkKey;simp only[Sem.run_bind,run_underlying c,Result.andThen_ok,<-Array.forIn_toList];have f:∀b∈y.toList,∃v h,P.underlying b.type=aa (.int v)/\P.info? b.type=aa h/\h.size=1/\b.offset<vs.size:=by
     intro b n;have:=eL.1 e b n;simp only[bc,decide_eq_true_eq]at this;let⟨l,I,J⟩:=this;split at l;grind[info_of_underlying,jw];cases l
    generalize y.toList=j at f;clear e a c o;induction j with
    |nil=>simp
    |cons b j H=>
     let⟨v,h,d,p,F,L⟩:=f b (by simp);have D:=CH (P:=P) (w:=w) p d vs b.offset (by omega) (λ_=>F);have B:∀k:Value,(Instr.checkKey empty 9999 b.type k).run P w=.ok () w:=by
      intro k;unfold Instr.checkKey;simp[run_underlying d]
     simp_all
  |_=>simp[y0]at m a
 simp at g
variable{ey:List (Int × Int)}{F:Bool}{x:List K}{dR:K}{bZ:Type}{dP:Call}
theorem CJ{v w:ar}:∀{ks:List Nat}{g:List AV}{f vs:List Value},fZ ks g g≠ae->RL v g f->RL w g vs->f=vs/\∀y,(f.zip vs).all (λe=>Instr.sameBits y e.1 e.2)=ad
 |ks,[],f,vs,_,d,c=>by cases d;cases c;simp
 |ks,z::g,f,vs,h,d,c=>by
  cases d with
  |cons _ C _ f d l=>
  cases c with
  |cons _ D _ vs c m=>
  unfold fZ at h;split at h;grind;rename_i r t n A u o a b;injection a with a i;injection b with b j;subst a;subst i;split at h;let⟨p,q⟩:=CJ (by intro k;rw[<-j,k]at h;simp at h) l m;cases d;cases c
  simp_all[Instr.sameBits];simp at h;rename_i r t n u o a b;injection a with a i;injection b with b j;subst a;subst i;let⟨p,q⟩:=CJ (by intro k;rw[<-j,k]at h;simp at h) l m;cases d with
  |str e=>
   generalize x:e.data.toList=B at c;cases c with
   |str s=>
    have:e=s:=by
     have:=congrArg List.toArray x;simp at this;cases e;cases s;simp_all
    simp_all[List.zip_cons_cons,Instr.sameBits,Go.MapKept.bytes_beq]
  rename_i r t n u o a b;injection a with a i;injection b with b j;subst a;subst i;let⟨p,q⟩:=CJ (by intro k;rw[<-j,k]at h;simp at h) l m;cases d;cases c
  simp_all[Instr.sameBits];simp at h
theorem O1{w:World}{e:AV}{b:Value}(c:R Y e bA)(d:R gA e b)(g:nT P u bq e=ad):(Instr.keyThatStays bA b).run P w=.ok b w:=by
 unfold nT at g;let⟨r,a⟩:=sH.1 g;have:bA=b/\Instr.sameBits 10000 bA b=true:=by
  unfold sQ at a;split at a;cases c;cases d
  exact⟨rfl,by simp[Instr.sameBits]⟩;let⟨f,h⟩:=CJ (ks:=[1]) (by simp[fZ]) (RL.one c) (RL.one d);simp_all;split at a
  ·cases c with
   |agg _ m i f=>
   cases d with
   |agg _ vs j k=>
   let⟨f,h⟩:=CJ (by rw[a];simp) i j;simp_all[Instr.sameBits]
  grind;simp at a
 simp[Instr.keyThatStays,this.2]
theorem abE(f:St Y L s.tmps){g:AV}(h:RT Y g bA){e vs:List AV}(a:vV L g=aa (e,vs)):
 ∃c b clock,bA=.map (aa c)/\Y.w.heap[c]?=aa (.map b clock)/\RL Y e (b.toList.map (·.key))/\RL Y vs (b.toList.map (·.val)):=by
 unfold vV at a;split at a;rename_i l m;simp at a;let⟨rfl,rfl⟩:=a;replace h:=h.resolve_right (by grind);cases h with
 |ih _ _ c clock b q i j k=>grind
 rename_i id;split at a;rename_i o l m d;simp at a;let⟨rfl,rfl⟩:=a;rw[f.hp]at d;replace h:=h.resolve_right (by grind);cases h with
 |b7 _ _ u p h=>
  obtain⟨c,v,r,rfl⟩:=h _ d rfl;let⟨n,b,clock,t,i,j,k,_⟩:=f.bM.gI id _ d;grind
 grind;grind
theorem R.Fq{a:AV}(h:RT Y a bA)(b:a.pl=a):R Y a bA:=by
 grind[R.pl]
theorem Fs{a:AV}(h:nT P u bq a=ad):a.pl=a:=by
 unfold nT at h;cases a<;>first|rfl|simp[sQ]at h
theorem Jw{d:AV}(a:sP P u=aa d):∃v,(zeroValue u).run P Y.w=.ok v Y.w/\R Y d v:=by
 unfold sP at a;rcases b:P.info? u with _|i;grind;rcases c:i.zero with _|v;grind;simp[b,c]at a;refine⟨v,by simp[zeroValue,typeInfo,b,c],?_⟩;have:=ON (Y:=Y) (bA:=v);rwa[a]at this
theorem Ft(c d b:Int):∀a,gi b (oP c d a)=if c=b then aa d else gi b a
 |[]=>rfl
 |(f,g)::a=>by
  have e:=Ft c d b a;grind[oP,gi]
theorem Jx(i:IntKind)(a:Int):∀(d:List MapEntry)(b:List (Int×Int))(c:Nat),d.map (·.key)=b.map (λj=>Value.int .i64 j.1)->d.map (·.val)=b.map (λj=>Value.int .i64 j.2)->
 (gi a b=ae/\Instr.findNow (.int i) (.int .i64 a) d c=aa ae/\∀g,oP a g b=b++[(a,g)])\/
 ∃h v0,gi a b=aa v0/\Instr.findNow (.int i) (.int .i64 a) d c=aa (aa (c+h,.int .i64 v0))/\(∃e,d[h]?=aa e/\e.key=.int .i64 a)/\∀g,oP a g b=b.set h (a,g)
 |[],[],c,_,_=>.inl ⟨rfl,rfl,λ_=>rfl⟩
 |[],_::_,c,f,_=>by cases f
 |_::_,[],c,f,_=>by cases f
 |e::d,(u,v)::b,c,f,m=>by
  simp only[eg,Cs]at f m;let⟨l,p⟩:=f;let⟨q,s⟩:=m;by_cases t:u=a;subst t;exact .inr ⟨0,v,by simp[gi],by simp[Instr.findNow,l,q,Instr.sameNow],⟨e,rfl,l⟩,λg=>by simp[oP]⟩;have x:∀r,Instr.findNow (.int i) (.int .i64 a) d (c+1)=r->Instr.findNow (.int i) (.int .i64 a) (e::d) c=r:=by grind[Instr.findNow,Instr.sameNow]
  rcases Jx i a d b (c+1) p s with⟨n,o,k⟩|⟨h,v0,n,o,k,w⟩;grind[gi,oP];exact .inr ⟨h+1,v0,by grind[gi],by grind,k,by grind[oP]⟩
theorem Jy(h:xz P u=ad):∃a b g,P.underlying u=aa (.map a b)/\P.underlying a=aa (.int g)/\sP P b=aa (.int .i64 0):=by
 unfold xz at h;split at h
 case h_2=>cases h
 case h_1 a b i=>
 split at h
 case h_2=>cases h
 case h_1 e f j=>
 refine⟨a,b,?_⟩;unfold nS at e;rcases c:P.underlying a with _|d;grind;have:=AO c;rw[f]at this;cases d<;>simp[y0]at this<;>simp[c,nn]at e
 grind
theorem O2(i:St Y L s.tmps){id:Nat}(d:L.hp[id]?=aa (.fm ey))(e:RT Y (.b7 id) bA):
 ∃b c clock a,bA=.map (aa b)/\Y.h id=aa (b,0)/\Y.w.heap[b]?=aa (.map c clock)/\c.toList.map (·.key)=a.map (λf=>Value.int .i64 f.1)/\c.toList.map (·.val)=a.map (λf=>Value.int .i64 f.2)/\∀g,gi g a=gi g ey:=by
 rw[i.hp]at d;replace e:=e.resolve_right (by grind);cases e with
 |b7 _ _ p k h=>
  obtain⟨b,t,n,rfl⟩:=h _ d rfl;let⟨j,c,clock,a,o,l,q,r,m⟩:=i.bM.gI id _ d;grind
theorem abF{ok:Bool}{p:AV}(c:St Y L s.tmps)(j:du G Y)(C:B.op=.lookup u m dM ok)(a:y4 L.hp (l G L m)=aa ey)(v:xz P u=ad)(h:CA ey (l G L dM) ok=aa p):cv P B s Y p L:=by
 let⟨T,W,n,F,k,N⟩:=Jy v;unfold y4 at a;split at a
 case h_2=>simp at a
 case h_1 id I=>
 split at a
 case h_2=>simp at a
 case h_1 af D=>
 simp at a;subst a;unfold CA at h;split at h
 case h_2=>simp at h
 case h_1 b K=>
 let⟨V,i,clock,q,J,Z,x,A,H,z⟩:=O2 c D (I▸dH c j m);have M:=R.pI (K▸dH c j dM);let⟨U,S,Q⟩:=Jw (Y:=Y) N;have O:U=.int .i64 0:=by cases Q;rfl
 subst O;have y:∀g,(Instr.checkKey g 10000 T (.int .i64 b)).run P Y.w=.ok () Y.w:=λg=>by
  unfold Instr.checkKey;simp[run_underlying k]
 have o:∀r,Instr.findNow (.int n) (.int .i64 b) i.toList 0=aa r->(execOp s.eval B).run P Y.w=.ok (.value (if ok then .tuple #[(r.map (·.2)).getD (.int .i64 0),.bool r.isSome]else(r.map (·.2)).getD (.int .i64 0))) Y.w:=by
  intro r E;simp only[execOp,C,Instr.lookup,Sem.run_bind,run_underlying F,Result.andThen_ok,J,M,Go.MapKept.run_getObj_map x,Sem.run_pure,y,Instr.findKey,run_underlying k,E];rcases r with _|r;simp[S];simp
 have d:∀b,R Y (.int .i64 b) (.int .i64 b):=λb=>.int _ _;simp only[e1]at h;subst h;rw[<-z];rcases Jx n b i.toList q 0 A H with⟨e,f,t⟩|⟨ac,v0,e,f,t,X⟩;refine cv.still c (o _ f) (.inl ?_);rw[e];cases ok
 exact d _;exact .aB _ _ (.cons _ _ _ _ (d _) (.cons _ _ _ _ (.bool ab) .nil));refine cv.still c (o _ f) (.inl ?_);rw[e];cases ok
 exact d _;exact .aB _ _ (.cons _ _ _ _ (d _) (.cons _ _ _ _ (.bool ad) .nil))
theorem abG{ok:Bool}{f:AV}(d:St Y L s.tmps)(q:du G Y)(N:B.op=.lookup u m dM ok)(h:uM P L u (l G L m) (l G L dM) ok=aa f):cv P B s Y f L:=by
 unfold uM at h;split at h;grind[abF];split at h
 case h_2=>simp at h
 case h_1 C F A vs Q M=>
 split at h
 case h_2=>simp at h
 case h_1 V x=>
 split at h
 case isFalse=>simp at h
 case isTrue v=>
 let⟨W,j,clock,U,H,K,S⟩:=abE d (dH d q m) M;have z:=R.Fq (dH d q dM) (Fs v);let⟨p,t⟩:∃p,P.underlying C=aa p:=by
  grind[nS]
 have I:=Fp (w:=Y.w) t x z v j.isEmpty;have D:∀r,findKey P C V (l G L dM) A 0=aa r->∀a,(match r.bind λo=>(j.toList[o]?).map λi=>(o,i.val)with|aa (_,f)=>a=(f,ad)|ae=>∃g,(zeroValue F).run P Y.w=.ok g Y.w/\a=(g,ab))->(execOp s.eval B).run P Y.w=.ok (.value (if ok then .tuple #[a.1,.bool a.2]else a.1)) Y.w:=by
  intro r c a k;have J:=y9 (w:=Y.w) t x z j.toList A r K c;simp only[execOp,N,Instr.lookup,Sem.run_bind,run_underlying Q,Result.andThen_ok,U,Go.MapKept.run_getObj_map H,Sem.run_pure,I,J];split at k;rename_i o E b;simp only[b];subst k;simp;rename_i b;obtain⟨g,n,rfl⟩:=k;simp only[b];simp[n]
 split at h
 ·rename_i ac e
  let⟨_,Z,X⟩:=AU e;split at h
  case h_2=>simp at h
  case h_1 ah T=>
  simp at h;subst h;let⟨af,y,c⟩:=S.get T;simp only[sK,dj]at y;obtain⟨i,b,rfl⟩:=y;refine cv.still d (D _ e (i.val,ad) (by simp only[Ct,b,kd])) (.inl ?_);cases ok
  grind;exact .aB _ _ (.cons _ _ _ _ c (.cons _ _ _ _ (.bool ad) .nil))
 ·rename_i e
  split at h
  case h_2=>simp at h
  case h_1 g n=>
  simp at h;subst h;let⟨E,O,c⟩:=Jw (Y:=Y) n;refine cv.still d (D _ e (E,ab) (by simp[O])) (.inl ?_);cases ok
  grind;exact .aB _ _ (.cons _ _ _ _ c (.cons _ _ _ _ (.bool ab) .nil))
 simp at h
theorem CL(a:St Y L s.tmps){id:Nat}{v vs e i:List AV}(k:L.hp[id]?=aa (.mp T v vs)){o b:Array MapEntry}{clock:Nat}(r:Y.h id=aa (U,0))(j:Y.w.heap[U]?=aa (.map o clock))
 (g:RL Y e (b.toList.map (·.key)))(u:RL Y i (b.toList.map (·.val)))(q:F=ad->N=Z e/\b.toList.map (·.born)=ay (Z e)):
 ∃f,f.w={Y.w with heap:=Y.w.heap.setIfInBounds U (.map b N)}/\f.h=Y.h/\St f {L with hp:=L.hp.set id (.mp F e i)} s.tmps/\Fr Y f:=by
 rw[a.hp]at k;let⟨t,z⟩:=Go.MapKept.heap_set (o':=.map b N) j;have l:c0 Y.w {Y.w with heap:=Y.w.heap.setIfInBounds U (.map b N)} (λc=>∃y,Y.h id=aa (c,y)):=
  ⟨rfl,rfl,by grind,by simp,by grind⟩
 let⟨d,p⟩:=ar.sV a.bM (id:=id) (j:=.mp F e i) (e:=Y.h id) l k (by simp[hM])
  (by grind)
  (λd=>⟨U,b,N,by simp[ar.bW,r],t,RL.mono d a.bM g,RL.mono d a.bM u,q⟩)
 refine⟨_,rfl,?_,?_,d⟩;grind[ar.bW];have:=St.mono a d p (λ_ _ h=>h) (λm c g=>l.block c (a.bM.blt m c g).1 λ⟨A,n⟩=>(a.bM.blt m c g).2.2 _ _ n);simpa[ar.bW,a.hp]using this
theorem RL.set{c:AV}(h:R Y c bA):∀{b:List AV}{vs:List Value}(a:Nat),RL Y b vs->RL Y (b.set a c) (vs.set a bA)
 |_,_,_,.nil=>.nil
 |_,_,0,.cons _ _ _ _ _ t=>.cons _ _ _ _ h t
 |_,_,a+1,.cons _ _ _ _ d t=>.cons _ _ _ _ d (RL.set h a t)
theorem RL.eraseIdx:∀{c:List AV}{vs:List Value}(a:Nat),RL Y c vs->RL Y (c.eraseIdx a) (vs.eraseIdx a)
 |_,_,_,.nil=>.nil
 |_,_,0,.cons _ _ _ _ _ b=>b
 |_,_,a+1,.cons _ _ _ _ d b=>.cons _ _ _ _ d (RL.eraseIdx a b)
theorem za(f:St Y L s.tmps){id:Nat}{c vs:List AV}(d:L.hp[id]?=aa (.mp T c vs))(e:RT Y (.b7 id) bA):
 ∃b a clock,bA=.map (aa b)/\Y.h id=aa (b,0)/\Y.w.heap[b]?=aa (.map a clock)/\RL Y c (a.toList.map (·.key))/\RL Y vs (a.toList.map (·.val))/\(T=ad->clock=Z c/\a.toList.map (·.born)=ay (Z c)):=by
 rw[f.hp]at d;replace e:=e.resolve_right (by grind);cases e with
 |b7 _ _ n i h=>
  obtain⟨b,q,l,rfl⟩:=h _ d rfl;let⟨g,a,clock,m,j,o,p,k⟩:=f.bM.gI id _ d;grind
theorem Jz(b:nS P u=aa bq):∃a,P.underlying u=aa a:=by
 grind[nS]
theorem tQ(a:Array MapEntry)(b:Nat)(c:MapEntry->MapEntry)(g:MapEntry->K):(a.modify b c).toList.map g=match a[b]? with|aa d=>(a.toList.map g).set b (g (c d))|ae=>a.toList.map g:=by
 apply yR;grind
theorem uU(h:x[U]?=aa dR):x.set U dR=x:=by
 apply yR;grind
theorem sV{a:Operand}(g:St Y L s.tmps)(v:du G Y)(o:B.op=.mapUpdate u m dM a\/B.op=.insert u m dM a)(h:xA P L u (l G L m) (l G L dM) (l G L a)=aa n):cv P B s Y .undef n:=by
 unfold xA at h;split at h
 case h_2=>simp at h
 case h_1 aZ ax id N ac=>
 split at h
 case h_2=>simp at h
 case h_1 E q vs aR K k=>
 split at h
 case isFalse=>simp at h
 case isTrue y=>
 let⟨S,b,clock,O,V,d,j,aA,az⟩:=za g K (ac▸dH g v m);have e:=R.Fq (dH g v dM) (Fs y);have aE:=R.pl (dH g v a);let⟨au,x⟩:=Jz k;have F:=Fp (w:=Y.w) x k e y ab;have af:execOp s.eval B=(do Instr.mapUpdate u (s.eval m) (s.eval dM) (s.eval a);pure .skip):=by
  rcases o with o|o<;>simp[execOp,o]
 have D:∀(f C:List AV)(c:Array MapEntry)(r:Nat),(Instr.mapUpdate u (s.eval m) (s.eval dM) (s.eval a)).run P Y.w=.ok () {Y.w with heap:=Y.w.heap.setIfInBounds S (.map c r)}->
  RL Y f (c.toList.map (·.key))->RL Y C (c.toList.map (·.val))->(E=ad->r=Z f/\c.toList.map (·.born)=ay (Z f))->n={L with hp:=L.hp.set id (.mp E f C)}->cv P B s Y .undef n:=by
  intro f C c r A W aj U ah;let⟨Q,ak,_,am,T⟩:=CL g K V d W aj U;refine⟨.skip,undef,Q,?_,.inr ⟨rfl,rfl⟩,.inl (.undef _),ah▸am,T⟩;rw[af,ak];simp[A]
 split at h;rename_i p i;let⟨_,X,J⟩:=AU i;simp at h X J;have z:=y9 (w:=Y.w) x k e b.toList q _ j i;let⟨a0,M,A⟩:=j.get J;simp only[sK,dj]at M;obtain⟨t,H,rfl⟩:=M;have I:b[p]?=aa t:=by simpa using H
 have ai:=O1 (P:=P) (w:=Y.w) A e y;refine D q (vs.set p (l G L a).pl) (b.modify p λt=>{t with key:=s.eval dM,val:=s.eval a}) clock ?_ ?_ ?_ ?_ h.symm;simp only[Instr.mapUpdate,Sem.run_bind,run_underlying N,Result.andThen_ok,O,Go.MapKept.run_getObj_map d,F,z,Ct,H,kd,I,nR,ai];exact Go.MapKept.run_setObj_map _ d;rw[tQ,I];simp only;have:=RL.set e p j;grind[uU];grind[tQ,RL.set];grind[tQ,uU];rename_i i
 simp at h;have z:=y9 (w:=Y.w) x k e b.toList q _ j i;refine D (q++[l G L dM]) (vs++[(l G L a).pl]) (b.push {key:=s.eval dM,val:=s.eval a,born:=clock}) (clock+1) ?_ ?_ ?_ ?_ h.symm;simp only[Instr.mapUpdate,Sem.run_bind,run_underlying N,Result.andThen_ok,O,Go.MapKept.run_getObj_map d,F,z,ars];exact Go.MapKept.run_setObj_map _ d;grind[RL.append,RL.one];grind[RL.append,RL.one]
 grind[List.range_succ];simp at h
theorem JA(c:K->bZ):∀(b:List K)(a:Nat),(b.eraseIdx a).map c=(b.map c).eraseIdx a
 |[],_=>rfl
 |_::_,0=>rfl
 |_::b,a+1=>by simp[JA c b a]
theorem abH(k:St Y L s.tmps)(y:du G Y)(am:B.op=.call dP)(V:dP.callee=.builtin .delete)(U:dP.argTypes.toList=[u,cr])(T:dP.args.toList=[m,dM])
 (h:AH P L u (l G L m) (l G L dM)=aa n):cv P B s Y (.aB []) n:=by
 unfold AH at h;split at h
 case h_2=>simp at h
 case h_1 a3 aZ id J ak=>
 split at h
 case h_2=>simp at h
 case h_1 S j vs a2 r i=>
 split at h
 case isFalse=>simp at h
 case isTrue E=>
 let⟨N,a,clock,K,af,d,g,az,X⟩:=za k r (ak▸dH k y m);have t:=R.Fq (dH k y dM) (Fs E);let⟨aR,p⟩:=Jz i;have C:=Fp (w:=Y.w) p i t E a.isEmpty;have x:∀(o:Bool)(e v:List AV)(c:Array MapEntry),(Builtin.delete_ dP.argTypes B.type (dP.args.map s.eval)).run P Y.w=.ok (.tuple #[]) {Y.w with heap:=Y.w.heap.setIfInBounds N (.map c clock)}->
  RL Y e (c.toList.map (·.key))->RL Y v (c.toList.map (·.val))->(o=ad->clock=Z e/\c.toList.map (·.born)=ay (Z e))->n={L with hp:=L.hp.set id (.mp o e v)}->cv P B s Y (.aB []) n:=by
  intro o e v c H ah ax ac au;let⟨M,aA,_,aE,Q⟩:=CL k r af d ah ax ac;refine⟨.value (.tuple #[]),.tuple #[],M,?_,.inl rfl,.inl (.aB _ _ .nil),au▸aE,Q⟩;rw[aA];simp[execOp,am,resolve,V,invoke,builtin,H]
 have z:dP.argTypes=#[u,cr]:=by rw[<-oB];simpa using U
 have A:dP.args.map s.eval=#[s.eval m,s.eval dM]:=by rw[<-oB];simp[T]
 split at h;rename_i b f;let⟨_,ai,F⟩:=AU f;simp at h ai F;have q:=y9 (w:=Y.w) p i t a.toList j _ g f;let⟨a4,I,H⟩:=g.get F;simp only[sK,dj]at I;obtain⟨O,D,rfl⟩:=I;have aj:b<a.size:=by have:=(fM.1 D).1;simpa using this
 have a0:(a.eraseIdxIfInBounds b).toList=a.toList.eraseIdx b:=by simp[Array.eraseIdxIfInBounds,aj]
 refine x ab (j.eraseIdx b) (vs.eraseIdx b) (a.eraseIdxIfInBounds b) ?_ ?_ ?_ (λh=>by cases h) h.symm;rw[z,A];have W:a[b]?=aa O:=by simpa using D
 simp[Builtin.delete_,run_underlying J,K,Go.MapKept.run_getObj_map d,C,q,W,Go.MapKept.run_setObj_map _ d];grind[JA,RL.eraseIdx];grind[JA,RL.eraseIdx];rename_i f;simp at h;have q:=y9 (w:=Y.w) p i t a.toList j _ g f;refine x S j vs a ?_ g az X ?_;rw[z,A];simp[Builtin.delete_,run_underlying J,K,Go.MapKept.run_getObj_map d,C,q,Go.MapKept.run_setObj_map _ d];rw[<-h,uU r];simp at h
theorem abI{T:AV}(b:St Y L s.tmps)(F:du G Y)(M:B.op=.mapEntry u m dM)(h:y5 P L u (l G L m) (l G L dM)=aa (T,n)):cv P B s Y T n:=by
 unfold y5 at h;split at h
 case h_2=>simp at h
 case h_1 a4 a2 id Q af=>
 split at h
 case h_2=>simp at h
 case h_1 q vs a3 p o=>
 split at h
 case isFalse=>simp at h
 case isTrue C=>
 let⟨aZ,d,clock,S,J,e,k,ak,ac⟩:=za b p (af▸dH b F m);let⟨y,x⟩:=ac rfl;have i:=R.Fq (dH b F dM) (Fs C);let⟨a0,z⟩:=Jz o;have H:=Fp (w:=Y.w) z o i C ab;split at h
 ·rename_i a j
  let⟨_,K,I⟩:=AU j;simp at K I;have D:=y9 (w:=Y.w) z o i d.toList q _ k j;let⟨a5,N,ah⟩:=k.get I;simp only[sK,dj]at N;obtain⟨c,A,rfl⟩:=N;have g:d[a]?=aa c:=by simpa using A
  have aj:=O1 (P:=P) (w:=Y.w) ah i C;split at h
  case h_2=>simp at h
  case h_1 ba am=>
  simp at h;let⟨rfl,rfl⟩:=h;have Z:c.born=a:=by
   have v:(d.toList.map (·.born))[a]?=aa c.born:=by simp[g]
   rw[x]at v;simp[art K]at v;exact v.symm
  let⟨t,E,_,r,f⟩:=CL (b:=d.modify a λc=>{c with key:=s.eval dM}) (N:=clock) (F:=true) (e:=q) (i:=vs) b p J e (by
   rw[tQ,g];simp only;have:=RL.set i a k;grind[uU]) (by
   grind[tQ,uU]) (λ_=>by
   rw[tQ,g];simp only;rw[uU (by simp[g]),x];exact⟨y,rfl⟩)
  rw[uU p]at r;let⟨a9,O,ai⟩:=ak.get am;simp only[sK,A,kd,e1]at O;subst O;refine⟨.value (.tuple #[c.val,goInt a]),_,t,?_,.inl rfl,.inl (.aB _ _ (.cons _ _ _ _ (ai.mono f b.bM) (.cons _ _ _ _ (.int .i64 a) .nil))),r,f⟩;rw[E]
  simp only[execOp,M,Instr.mapEntry,Sem.run_bind,run_underlying Q,Result.andThen_ok,S,Go.MapKept.run_getObj_map e,H,D,Ct,A,kd,g,nR,aj,Go.MapKept.run_setObj_map _ e,Sem.run_pure,Z]
 ·rename_i j
  have D:=y9 (w:=Y.w) z o i d.toList q _ k j;split at h
  case h_2=>simp at h
  case h_1 aR au=>
  simp at h;let⟨rfl,rfl⟩:=h;let⟨U,az,ax⟩:=Jw (Y:=Y) au;let⟨t,E,_,r,f⟩:=CL (b:=d.push {key:=s.eval dM,val:=U,born:=clock}) (N:=clock+1) (F:=true) (e:=q++[l G L dM]) (i:=vs++[aR]) b p J e
   (by grind[RL.append,RL.one]) (by grind[RL.append,RL.one]) (λ_=>by simp[x,y,uK])
  refine⟨.value (.tuple #[U,goInt clock]),_,t,?_,.inl rfl,.inl (.aB _ _ (.cons _ _ _ _ (ax.mono f b.bM) (.cons _ _ _ _ (by rw[y];exact .int .i64 _) .nil))),r,f⟩;rw[E];simp only[execOp,M,Instr.mapEntry,Sem.run_bind,run_underlying Q,Result.andThen_ok,S,Go.MapKept.run_getObj_map e,H,D,ars,az,Go.MapKept.run_setObj_map _ e,Sem.run_pure]
 simp at h
theorem abJ{e:Operand}(d:St Y L s.tmps)(j:du G Y)(I:B.op=.entryStore u m dM e)(h:AG L (l G L m) (l G L dM) (l G L e)=aa n):cv P B s Y .undef n:=by
 unfold AG at h;split at h
 case h_2=>simp at h
 case h_1 id X c H D=>
 split at h
 case h_2=>simp at h
 case h_1 p vs t=>
 split at h
 case isFalse=>simp at h
 case isTrue U=>
 simp at h;let⟨N,a,clock,K,C,k,F,V,A⟩:=za d t (H▸dH d j m);let⟨x,r⟩:=A rfl;have E:=R.pI (D▸dH d j dM);have W:=R.pl (dH d j e);have T:a.size=Z p:=by simpa using F.length
 have f:c<a.size:=by omega
 have q:∀b(o:b<a.size),a[b].born=b:=by
  intro b o;have i:(a.toList.map (·.born))[b]?=aa a[b].born:=by simp[o]
  rw[r]at i;simp[art (show b<Z p by omega)]at i;exact i.symm
 have z:a.findIdx? (λg=>(g.born:Int)==(cu c))=aa c:=by
  rw[Array.findIdx?_eq_some_iff_getElem];refine⟨f,by simp[q c f],λb o=>?_⟩;have:=q b (by omega);simp[this];omega
 have y:a[c]?=aa a[c]:=by simp[f]
 let⟨v,J,_,M,w⟩:=CL (b:=a.modify c λg=>{g with val:=s.eval e}) (N:=clock) (F:=true) (e:=p) (i:=vs.set c (l G L e).pl) d t C k (by
  grind[tQ,uU]) (by
  grind[tQ,RL.set]) (λ_=>by
  rw[tQ,y];simp only;rw[uU (by simp[f]),r];exact⟨x,rfl⟩)
 refine⟨.skip,undef,v,?_,.inr ⟨rfl,rfl⟩,.inl (.undef _),h▸M,w⟩;rw[J];simp only[execOp,I,Instr.entryStore,Sem.run_bind,K,E,Result.andThen_ok,Go.MapKept.run_getObj_map k,asInt,asIntOf,Sem.run_pure,z,Go.MapKept.run_setObj_map _ k]
variable{b9:Int}
def uV(e c b:Nat):Option Value->Prop
 |ae=>b=c
 |aa f=>∃d a,f=.int d a/\0<=a/\a<=(e:Int)/\b=a.toNat
theorem qv(f:St Y L s.tmps)(c:du G Y){x:Option Operand}(h:eO U N (x.map (l G L))=aa z):uV U N z (x.map s.eval):=by
 rcases x with _|x;simp[eO]at h;exact h.symm;simp only[kd]at h⊢;cases b:l G L x with
 |int e d=>
  rw[b]at h;simp only[eO]at h;split at h;rename_i a;simp at h;exact⟨e,d,R.pI (b▸dH f c x),a.1,a.2,h.symm⟩;simp at h
 |_=>grind[eO]
theorem CM{w:World}{code:BoundsCode}(a:0<=f)(b:f<=(U:Int)):(Instr.sliceBound (.int q8 f) U code).run P w=.ok f.toNat w:=by
 simp[Instr.sliceBound,asIntOf,a,b]
theorem CN{w:World}{sl:Bool}{len cap h:Nat}{a c:Option Value}(m:len<=cap)(b:uV len len h c)(d:uV h 0 U a):(Instr.sliceBounds sl len cap a c ae).run P w=.ok (U,h,cap) w/\U<=h/\h<=len:=by
 rcases c with _|v;simp only[uV]at b;subst b;rcases a with _|v;simp_all[uV,Instr.sliceBounds];obtain⟨i,e,rfl,f,g,rfl⟩:=d;simp_all[Instr.sliceBounds,CM];obtain⟨i,e,rfl,f,g,rfl⟩:=b;have j:e<=(cap:Int):=by omega
 rcases a with _|v;simp_all[uV,Instr.sliceBounds,CM];obtain⟨o,n,rfl,k,l,rfl⟩:=d;exact⟨by simp_all[Instr.sliceBounds,CM],by omega,by omega⟩
theorem extract_toList(b:ByteArray)(a h:Nat):(b.extract a h).data.toList=(b.data.toList.take h).drop a:=by
 simp[Oy]
theorem Fu{w:World}{a:Option Addr}{len cap h:Nat}{c b d:Option Value}(g:P.underlying u=aa (.slice cr))(f:P.info? cr=aa oE)(e:(Instr.sliceBounds ad len cap c b d).run P w=.ok (U,h,N) w):
 (Instr.sliceAt u (.slice a len cap) c b d).run P w=.ok (.slice (if N=U then a else a.map (·.add (U*oE.size))) (h -U) (N -U)) w:=by
 simp_all[Instr.sliceAt,Instr.slice,run_underlying,sizeOf,typeInfo]
theorem abK{v t:Option Operand}{O:AV}(e:St Y L s.tmps)(j:du G Y)(ce:B.op=.slice u m v t ae)
 (h:nm P L u (l G L m) (v.map (l G L)) (t.map (l G L))=aa (O,n)):cv P B s Y O n:=by
 have b:=dH e j m;generalize l G L m=ds at h b;have d6:execOp s.eval B=(do pure (.value (<-Instr.sliceAt u (s.eval m) (v.map s.eval) (t.map s.eval) ae))):=by
  simp[execOp,ce]
 have H:∀N,(Instr.sliceAt u (s.eval m) (v.map s.eval) (t.map s.eval) ae).run P Y.w=.ok N Y.w->R Y O N->n=L->cv P B s Y O n:=by
  intro N F K cl;subst cl;exact cv.still e (by simp_all) (.inl K)
 generalize d7:s.eval m=dl at*;cases ds with
 |aq=>
  simp only[nm]at h;split at h
  case h_2=>simp at h
  case h_1 y ac af r D J=>
  split at h
  case isFalse=>simp at h
  case isTrue o=>
  simp at h;obtain⟨rfl,rfl⟩:=h;let⟨d,p⟩:=uS o;replace b:=b.resolve_right (by grind);cases b
  have A:=qv e j D;have C:=qv e j J;have ah:ac=0:=by cases t with|none=>exact A|some _=>obtain⟨_,_,_,_,_,rfl⟩:=A;omega
  have ai:af=0:=by cases v with|none=>exact C|some _=>obtain⟨_,_,_,_,_,rfl⟩:=C;omega
  subst ah;subst ai;have k:(Instr.sliceBounds ad 0 0 (v.map s.eval) (t.map s.eval) ae).run P Y.w=.ok (0,0,0) Y.w:=by grind[CN]
  refine H _ (Fu r p k) ?_ rfl;exact R.aq
 |dG=>
  simp only[nm]at h;split at h
  case h_2=>simp at h
  case h_1 y ac af r D J=>
  split at h
  case isFalse=>simp at h
  case isTrue o=>
  simp at h;obtain⟨rfl,rfl⟩:=h;let⟨d,p⟩:=uS o;replace b:=b.resolve_right (by grind);cases b
  have A:=qv e j D;have C:=qv e j J;have ah:ac=0:=by cases t with|none=>exact A|some _=>obtain⟨_,_,_,_,_,rfl⟩:=A;omega
  have ai:af=0:=by cases v with|none=>exact C|some _=>obtain⟨_,_,_,_,_,rfl⟩:=C;omega
  subst ah;subst ai;have k:(Instr.sliceBounds ad 0 0 (v.map s.eval) (t.map s.eval) ae).run P Y.w=.ok (0,0,0) Y.w:=by grind[CN]
  refine H _ (Fu r p k) ?_ rfl;have e0:∀i:Addr,(Value.slice (if 0=0 then aa i else(aa i).map (·.add (0*d.size))) (0 -0) (0 -0))=.slice (aa i) 0 0:=λi=>by simp
  rw[e0];exact R.dG _
 |str z=>
  simp only[nm]at h;split at h
  case h_2=>simp at h
  case h_1 c r x=>
  split at h
  case h_2=>simp at h
  case h_1 a E=>
  simp at h;obtain⟨rfl,rfl⟩:=h;obtain⟨I,rfl,rfl⟩:=R.xG b;have X:Z I.data.toList=I.size:=by simp
  rw[X]at x;let⟨k,_,_⟩:=CN (P:=P) (w:=Y.w) (sl:=false) (c5 I.size) (qv e j x) (qv e j E);refine H (.string (I.extract a c)) ?_ ?_ rfl;simp[Instr.sliceAt,Instr.slice,run_underlying r,k];rw[<-extract_toList];exact .str _
 |sl aj f=>
  simp only[nm]at h;replace b:=b.resolve_right (by grind);have co:∃i cap,dl=.slice i (Z f) cap/\Z f<=cap:=by
   cases b with
   |jN _ i cap=>grind
   |sl _ _ z B c cap ak au ax aA k x o aZ K D=>grind
  split at h
  ·rename_i y c r x
   split at h
   case h_2=>simp at h
   case h_1 a E=>
   split at h
   case isFalse=>simp at h
   case isTrue o=>
   simp at h;obtain⟨rfl,rfl⟩:=h;let⟨d,p⟩:=uS o.2;let⟨i,cap,aR,M⟩:=co;let⟨k,V,T⟩:=CN (P:=P) (w:=Y.w) (sl:=true) M (qv e j x) (qv e j E);have F:=Fu (a:=i) r p k;rw[<-aR]at F;refine H _ F ?_ rfl;cases b with
   |jN _ d1 Q=>simp at T;subst T;simp;simp at V;subst V;simpa using R.jN aj _ _
   |sl _ _ z B c1 Q ak au ax aA a3 bv d3 aZ K D=>
    injection aR with S am a0;subst S;subst a0;by_cases a9:c=a;subst a9;have:(f.take c).drop c=[]:=uI (by simp;omega);rw[this,Ot];exact .jN _ _ _;have cc:Q≠a:=by omega
    have U:Z ((f.take c).drop a)=c -a:=by simp;omega
    have br:c1=d.size:=by
     have az:0<Z f:=by omega
     have:=OQ o.1 (f[0]) (bp az);rw[jw p]at this;grind
    subst br;have a5:(f.take c).drop a=(f.drop a).take (c -a):=by rw[Oy]
    have ca:a*d.size+(c -a)*d.size<=Z f*d.size:=by
     rw[<-sJ];exact my _ (by omega)
    simp only[if_neg cc,kd,Addr.add_mid];rw[<-U];refine .sl aj _ z (B+a*d.size) d.size (Q -a) ak au ax aA a3 (λy d4=>?_) (by omega) (by grind) ?_ ?_;grind;rw[U,a5,uT a (c -a) bv];have J:=RL.take ((c -a)*d.size) (RL.drop (a*d.size) K);grind[k5,List.drop_drop];intro N cs;rw[U,<-vM,<-k5 _ (Z f*d.size) _ _ ca]at cs;grind
  simp at h
 |q id g off len=>
  simp only[nm]at h;replace b:=b.resolve_right (by grind);cases b with
  |q _ _ _ _ _ bm az be ba=>
  split at h
  ·rename_i y c r x
   split at h
   case h_2=>simp at h
   case h_1 a a2 c2 f E W=>
   split at h
   case isFalse=>simp at h
   case isTrue o=>
   obtain⟨rfl,X,ci⟩:=o;simp at h;obtain⟨rfl,rfl⟩:=h;rw[e.hp]at W;let⟨d,p⟩:=uS ci;obtain⟨i,cap,rfl,bD,d5,M⟩:=ba c2 f W;let⟨k,V,T⟩:=CN (P:=P) (w:=Y.w) (sl:=true) bD (qv e j x) (qv e j E);have F:=Fu (a:=i) r p k;refine H _ F ?_ rfl;refine .q id a2 (off+a) (c -a) _ bm ⟨_,_,rfl⟩ be λd8 d2 aE=>?_;rw[W]at aE;injection aE with y;injection y with _ S am;subst S;subst am
   refine⟨_,_,rfl,by omega,by omega,?_⟩;rcases M with M|⟨z,d0,bi,rfl,aZ⟩
   left;omega
   by_cases a4:cap=a
   left;omega
   right
   refine⟨z,d0,bi,?_,?_⟩;rw[if_neg a4,kd,Addr.add_mid,X,jw p,<-sJ];grind
  simp at h
 |_=>simp[nm]at h
theorem abL{b:Operand}{a:AV}(f:St Y L s.tmps)(d:du G Y)(e:B.op=.pick m dM b)(h:(match l G L m with|.bool c=>aa ((if c then(l G L dM).pl else(l G L b).pl),L)|_=>ae)=aa (a,n)):cv P B s Y a n:=by
 grind[abb]
theorem abM{a:List AV}(i:St Y L s.tmps)(o:du G Y)(A:B.op=.slice u m ae ae ae)(C:P.underlying u=aa (.array U cr))(g:l G L m=.aH T a 0)
 (d:Z a=U*bh P cr)(n:bh P cr=1):cv P B s Y (.sl T (a.map λb=>[b])) L:=by
 have c:=dH i o m;rw[g]at c;replace c:=c.resolve_right (by grind);generalize D:s.eval m=H at c;let⟨E,z⟩:=uS (P:=P) (u:=cr) (by omega);rw[n,IT]at d;cases c with
 |aH _ _ _ e h vs j k q r w p t=>
  refine cv.still i (bA:=.slice (aa ⟨e,h,ae⟩) U U) ?_ (.inl ?_);simp_all[execOp,Instr.sliceAt,run_underlying,Instr.sureAddr,Instr.sliceBounds,sizeOf,typeInfo,Addr.add_mid];have f:Z (a.map λb=>[b])=U:=by simp[d]
  have y:(a.map λb=>[b]).flatten=a:=by
   clear p t w d g f;induction a with
   |nil=>rfl
   |cons b a x=>simp[x]
  rw[<-f];refine .sl T _ e h 1 _ vs j k q r (λcr v=>?_) (c5 _) (by omega) ?_ ?_;obtain⟨b,_,rfl⟩:=cy.1 v;rfl;grind;grind
theorem xI{a:Builtin}(d:B.op=.call dP)(c:dP.callee=.builtin a){w:World}{b:Next}(h:(builtin a dP.argTypes B.type (dP.args.map λ|.const _=>ad|_=>ab) (dP.args.map s.eval)).run P w=.ok b e2):(execOp s.eval B).run P w=.ok b e2:=by
 grind[execOp,resolve,invoke]
theorem abN(A:St Y L s.tmps){m l:AV}(a:RT Y m bA)(h:l7 P L u m=aa l):∃r,(Builtin.len_ #[u] cr #[bA]).run P Y.w=.ok r Y.w/\R Y l r:=by
 unfold l7 at h;split at h;rename_i f b;simp at h;subst h;obtain⟨i,rfl,rfl⟩:=R.xG a;refine⟨goInt i.size,by simp[Builtin.len_,run_underlying b],?_⟩;have:Z i.data.toList=i.size:=by simp
 rw[this];exact .int .i64 _;rename_i d b;simp at h;subst h;replace a:=a.resolve_right (by grind);cases a
 exact⟨goInt 0,by simp[Builtin.len_,run_underlying b],.int .i64 0⟩;rename_i d b;simp at h;subst h;replace a:=a.resolve_right (by grind);cases a
 exact⟨goInt 0,by simp[Builtin.len_,run_underlying b],.int .i64 0⟩;rename_i d B c b;simp at h;subst h;replace a:=a.resolve_right (by grind);cases a with
 |jN _ n cap=>exact⟨goInt 0,by simp[Builtin.len_,run_underlying b],.int .i64 0⟩
 |sl _ _ f T S cap C D F t e k I Q H G=>exact⟨goInt (Z c),by simp[Builtin.len_,run_underlying b],.int .i64 _⟩
 rename_i d id g off len b;simp at h;subst h;replace a:=a.resolve_right (by grind);cases a with
 |q _ _ _ _ _ N p K J=>
  obtain⟨n,cap,rfl⟩:=p;exact⟨goInt len,by simp[Builtin.len_,run_underlying b],.int .i64 _⟩
 rename_i z d b;simp at h;subst h;exact⟨goInt z,by simp[Builtin.len_,run_underlying b],.int .i64 _⟩
 ·rename_i y o id b
  split at h
  case h_2=>simp at h
  case h_1 E j vs x=>
  simp at h;subst h;obtain⟨f,c,clock,rfl,M,e,v,_,_⟩:=za A x a;have:c.size=Z j:=by simpa using v.length
  refine⟨goInt c.size,by simp[Builtin.len_,run_underlying b,Go.MapKept.run_getObj_map e],?_⟩;rw[<-this];exact .int .i64 _
 rename_i y o j vs b;simp at h;subst h;replace a:=a.resolve_right (by grind);cases a with
 |ih _ _ f clock c t e k O=>
  have:c.size=Z j:=by simpa using k.length
  refine⟨goInt c.size,by simp[Builtin.len_,run_underlying b,Go.MapKept.run_getObj_map e],?_⟩;rw[<-this];exact .int .i64 _
 simp at h
theorem abO{b:AV}(a:St Y L s.tmps)(e:du G Y)(k:B.op=.call dP)(j:dP.callee=.builtin .len)(i:dP.argTypes.toList=[u])(g:dP.args.toList=[m])(h:l7 P L u (l G L m)=aa b):cv P B s Y b L:=by
 have c:dP.argTypes=#[u]:=by rw[<-oB];simpa using i
 have d:dP.args.map s.eval=#[s.eval m]:=by rw[<-oB];simp[g]
 let⟨r,n,f⟩:=abN (cr:=B.type) a (dH a e m) h;refine cv.still a (bA:=r) (xI k j ?_) (.inl f);rw[c,d];simp[builtin,n]
theorem abP{d:AV}(a:St Y L s.tmps)(b:du G Y)(p:B.op=.call dP)(k:dP.callee=.builtin .append)(j:dP.argTypes.toList=[u,cr])(i:dP.args.toList=[m,dM])(o:qq P cr=ad)
 (h:oT P L u (l G L m) (l G L dM)=aa (d,n)):cv P B s Y d n:=by
 have r:dP.argTypes=#[u,cr]:=by rw[<-oB];simpa using j
 have t:dP.args.map s.eval=#[s.eval m,s.eval dM]:=by rw[<-oB];simp[i]
 let⟨c,e,v,g,q,f⟩:=Ju (kj:=B.type) a (dH a b m) (dH a b dM) o h;refine⟨.value c,c,e,xI p k ?_,.inl rfl,.inl g,q,f⟩;simp_all[builtin]
theorem O3{d:List AV}{e:AV}(h:tO d=aa e):∃c a f b,d=[.int c a,.int f b]/\e=.int c (if b<a then b else a):=by
 unfold tO at h;grind
theorem O4{d:List AV}{e:AV}(h:sR d=aa e):∃c a f b,d=[.int c a,.int f b]/\e=.int c (if b>a then b else a):=by
 unfold sR at h;grind
theorem O5(d:St Y L s.tmps)(b:du G Y){c:IntKind}(h:dP.args.toList.map (l G L)=[.int q8 f,.int c b9]):dP.args.map s.eval=#[.int q8 f,.int c b9]:=by
 rcases e:dP.args.toList with _|⟨g,a⟩;grind;rcases a with _|⟨i,a⟩;grind;rcases a with _|⟨_,_⟩;simp[e]at h;have j:=R.pI (h.1▸dH d b g);have k:=R.pI (h.2▸dH d b i);rw[<-oB];simp_all;grind
theorem abQ{b:AV}(a:St Y L s.tmps)(g:du G Y)(j:B.op=.call dP)(i:dP.callee=.builtin .min)(h:tO (dP.args.toList.map (l G L))=aa b):cv P B s Y b L:=by
 obtain⟨k,c,m,d,e,rfl⟩:=O3 h;have f:=O5 a g e;refine cv.still a (bA:=.int k (if d<c then d else c)) (xI j i ?_) (.inl (.int _ _));rw[f];simp[builtin,Builtin.min_,Builtin.min2]
theorem abR{b:AV}(a:St Y L s.tmps)(g:du G Y)(j:B.op=.call dP)(i:dP.callee=.builtin .max)(h:sR (dP.args.toList.map (l G L))=aa b):cv P B s Y b L:=by
 obtain⟨k,c,m,d,e,rfl⟩:=O4 h;have f:=O5 a g e;refine cv.still a (bA:=.int k (if d>c then d else c)) (xI j i ?_) (.inl (.int _ _));rw[f];simp[builtin,Builtin.max_,Builtin.max2]
theorem R.O6(h:RT Y .aq bA):bA=.slice ae 0 0:=by
 replace h:=h.resolve_right (by grind);cases h;rfl
theorem abS{z:AV}(i:St Y L s.tmps)(o:du G Y)(Q:B.op=.call dP)(F:dP.callee=.builtin .append)(E:dP.argTypes.toList=[u,cr])(D:dP.args.toList=[m,dM])
 (h:tN P L u cr (l G L m) (l G L dM)=aa (z,n)):cv P B s Y z n:=by
 have ak:dP.argTypes=#[u,cr]:=by rw[<-oB];simpa using E
 have am:dP.args.map s.eval=#[s.eval m,s.eval dM]:=by rw[<-oB];simp[D]
 unfold tN at h;split at h
 case h_2=>simp at h
 case h_1 d y S T V W=>
 split at h
 case h_2=>simp at h
 case h_1 k X=>
 split at h
 case isFalse=>simp at h
 case isTrue H=>
 let⟨x,t,q,aj,p⟩:=H;simp at h;let⟨rfl,rfl⟩:=h;let⟨b,c,f,ah,af,ac⟩:=xH (Y:=Y) X;rw[jw f]at x t;rw[Je f]at p q;have g:c.cells.size=b.size:=by rw[<-x,<-af.length];simp
 have a2:s.eval m=.slice ae 0 0:=R.O6 (V▸dH i o m);have a3:=R.pI (W▸dH i o dM);obtain⟨a,rfl⟩:∃a:Nat,y=a:=⟨y.toNat,by omega⟩;have J:0<a:=by omega
 have ax:a*b.bytes<=140737488355328:=by
  have:((a*b.bytes:Nat):Int)<=2^47:=by simpa using p
  omega
 have aE:a<=a*b.bytes:=aaE _ q;have v:=Go.Lib.run_append_grow_zeros Y.w u cr B.type d b c .i64 .i64 S T f ah ae 0 0 [] (by simp[Builtin.firstCells]) a J t (by omega) (by omega) (by omega) (by simp_all[growslice_fits]);simp only[e]at v;have aA:=grownCap_ge Y.w a 0 d;generalize r:#[]++Builtin.zeroCells c.cells a++Builtin.zeroCells c.cells (grownCap Y.w a 0 d -a)=cells at v
 have O:(Builtin.zeroCells c.cells a).toList=(db a c.cells.toList).flatten:=by
  have:=CI c.cells b.size g a;rw[<-g]at this;exact this
 have aR:cells.size=grownCap Y.w a 0 d*b.size:=by
  rw[<-r];simp only[aaF,AT,g,Array.size_empty,e,<-sJ];congr 1;omega
 have M:Z (Builtin.zeroCells c.cells a).toList=a*b.size:=by simp[AT,g]
 have aZ:cells.toList.take (Z (db a k)*b.size)=(db a c.cells.toList).flatten:=by
  rw[<-r,IS,IS,<-O,arp,<-M];simp
 have az:∀j∈(db a c.cells.toList).flatten,j.oneCell'=true:=by
  intro j U;let⟨a4,K,N⟩:=uJ.1 U;obtain⟨-,rfl⟩:=aru.1 K;exact ac j N
 let⟨A,a0,I,au,a5,C⟩:=AR i b.size (db a k) cells d (by grind) (by grind) (by grind[RL.replicate]) (by grind) (Y.w.drew.alloc (.cells cells d)) ((c0.drew _ _).trans (c0.alloc _ _ _)) (heap_alloc_new Y.w.drew _);rw[jw f];refine⟨_,.slice (aa ⟨Y.w.heap.size,0,ae⟩) a (grownCap Y.w a 0 d),A,xI Q F ?_,.inl rfl,.inl ?_,by grind,C⟩;simp_all[builtin]
 have:=Fl (g:=0) (U:=b.size) (a:=db a k) (id:=Z L.hp) (cap:=grownCap Y.w a 0 d) (by grind) I (by grind) (by omega);grind
theorem abT{a:List (List AV)}(h:∀c∈a,Z c=U)(b:Nat):(a.take b).flatten=a.flatten.take (b*U):=by
 have:=uT (a:=a) 0 b h;grind
theorem O7:∀{b:List (List AV)},(∀e∈b,Z e=U)->∀a:Nat,(b.drop a).flatten=b.flatten.drop (a*U)
 |_,_,0=>by simp
 |[],_,a+1=>by simp
 |e::b,h,a+1=>by
  have c:Z e=U:=h e (by simp);rw[arl,O7 (λf d=>h f (by simp[d])) a,xo,q4,Nat.add_comm,<-vM,<-c,List.drop_left]
theorem abU(c:St Y L s.tmps)(aA:du G Y)(W:B.op=.call dP)(O:dP.callee=.builtin .clear)(a0:dP.argTypes.toList=[u])(aZ:dP.args.toList=[m])
 (h:AI P L u (l G L m)=aa n):cv P B s Y (.aB []) n:=by
 have I:dP.argTypes=#[u]:=by rw[<-oB];simpa using a0
 have J:dP.args.map s.eval=#[s.eval m]:=by rw[<-oB];simp[aZ]
 unfold AI at h;split at h
 case h_2=>simp at h
 case h_1 f id g off len ac bv=>
 split at h
 case h_2=>simp at h
 case h_1 d t a b bD X=>
 split at h
 case isFalse=>simp at h
 case isTrue a2=>
 let⟨rfl,ci,C,d6⟩:=a2;simp at h;subst h;have p:=bv▸dH c aA m;replace p:=p.resolve_right (by grind);have o:=X;rw[c.hp]at o;let⟨aj,e,S,cl,cc,ca⟩:=xH (Y:=Y) bD;rw[jw S]at C;have D:e.cells.size=aj.size:=by rw[<-C,<-ci,<-cc.length];simp
 have aR:R Y (.aB []) (.tuple #[]):=.aB _ _ .nil;generalize ah:s.eval m=el at p;cases p with
 |q _ _ _ _ _ d0 cs ds x=>
 obtain⟨F,cap,rfl,d1,be,bi⟩:=x _ _ o;rcases Nat.eq_zero_or_pos len with ba|d2;subst ba;have br:({L with hp:=L.hp.set id (.arr t a (b.take off++(db 0 d++b.drop (off+0))))}:AS)=L:=by
  have:L.hp.set id (.arr t a (b.take off++(db 0 d++b.drop (off+0))))=L.hp:=by
   simpa using uU X
  rw[this]
 have z:(Builtin.clear_ #[u] B.type #[.slice F 0 cap]).run P Y.w=.ok (.tuple #[]) Y.w:=by
  cases F<;>simp[Builtin.clear_,run_underlying ac]
 rw[br];refine cv.still c (xI W O ?_) (.inl aR);rw[I,J,ah];simp[builtin,z];rcases bi with d7|⟨i,co,v,rfl,d8⟩;omega;let⟨af,bm⟩:=c.bM.gI id _ o;rcases bm with⟨rfl,_⟩|⟨au,vs,H,a5,N,dl,aE,d5⟩;grind;rw[v]at a5;let⟨rfl,rfl⟩:i=au/\co=vs.size:=by grind
 have V:(Builtin.zeroCells e.cells len).toList=(db len e.cells.toList).flatten:=by
  have:=CI e.cells aj.size D len;rw[<-D]at this;exact this
 have U:Z (Builtin.zeroCells e.cells len).toList=len*a:=by simp[AT,D,C]
 have a3:∀r∈(Builtin.zeroCells e.cells len).toList,r.oneCell'=true:=by
  intro r j;rw[V]at j;let⟨E,a9,x⟩:=uJ.1 j;obtain⟨-,rfl⟩:=aru.1 a9;exact ca r x
 have d3:off*a+len*a<=Z b*a:=by rw[<-sJ];exact my _ be
 have A:=run_storeCells_at P i (off*a) H (Builtin.zeroCells e.cells len).toList 0 vs Y.w N (by omega) a3;simp only[fW]at A;generalize y:vs.toList.take (off*a)++(Builtin.zeroCells e.cells len).toList++vs.toList.drop (off*a+Z (Builtin.zeroCells e.cells len).toList)=new at A;have d4:Z new=vs.size:=by
  rw[<-y,Jn _ _ _ (by simp only[U,yQ];omega)];simp
 have ai:c0 Y.w (Y.w.setRow i new.toArray) (λdP=>∃d,Y.h id=aa (dP,d)):=c0.setRow _ _ _ _ ⟨_,v⟩;have Q:Z (b.take off++(db len d++b.drop (off+len)))=Z b:=by simp;omega
 have M:RL Y (db len d).flatten (Builtin.zeroCells e.cells len).toList:=by rw[V];grind[RL.replicate]
 have ce:Z (db len d).flatten=len*a:=by rw[<-M.length,U]
 have a4:(b.take off++(db len d++b.drop (off+len))).flatten=eV b.flatten (off*a) (db len d).flatten:=by
  rw[xp,xp,abT af,O7 af,AM.eV,ce,sJ,gY]
 have z:(Builtin.clear_ #[u] B.type #[.slice (aa ⟨i,off*a,ae⟩) len cap]).run P Y.w=.ok (.tuple #[]) (Y.w.setRow i new.toArray):=by
  have:∃E,len=E+1:=⟨len -1,by omega⟩;obtain⟨E,rfl⟩:=this;simp[Builtin.clear_,run_underlying ac,zeroValue,typeInfo,S,cl,A]
 let⟨k,az⟩:=ar.sV c.bM (id:=id) (j:=.arr t a (b.take off++(db len d++b.drop (off+len)))) (e:=Y.h id) ai o (by grind[hM])
  (λdP am f=>⟨by rw[v]at f;injection f with f;injection f with ax _;subst ax;simp;grind,.inl ⟨am,f⟩⟩)
  (λk=>by
   refine⟨λf c2=>?_,.inr ⟨i,new.toArray,H,?_,setRow_heap _ _ _ _ _ _ N,?_,?_,?_⟩⟩;grind;grind[ar.bW];grind;rw[a4,Q];have K:=RL.eV aE M (off*a);rw[Fh _ _ _ _ (by omega),y]at K;simpa using RL.mono k c.bM K;intro r j;rw[Q,<-y]at j;rw[<-Fh _ _ _ _ (by omega)]at j;grind)
 refine⟨_,.tuple #[],_,xI W O ?_,.inl rfl,.inl (.aB _ _ .nil),?_,k⟩;rw[I,J,ah];simp[builtin,z,ar.bW];have m:=St.mono c k az (λ_ _ h=>h) (λak dP T=>ai.block dP (c.bM.blt ak dP T).1 λ⟨am,f⟩=>(c.bM.blt ak dP T).2.2 _ _ f);simpa[ar.bW,c.hp]using m
theorem abV(a:St Y L s.tmps)(d:du G Y)(i:B.op=.call dP)(g:dP.callee=.builtin .cap)(f:dP.argTypes.toList=[u])(e:dP.args.toList=[m])(j:P.underlying u=aa (.slice cr))
 (h:l G L m=.aq):cv P B s Y (.int .i64 0) L:=by
 have b:dP.argTypes=#[u]:=by rw[<-oB];simpa using f
 have c:dP.args.map s.eval=#[s.eval m]:=by rw[<-oB];simp[e]
 have k:s.eval m=.slice ae 0 0:=R.O6 (h▸dH a d m);refine cv.still a (bA:=.int .i64 0) (xI i g ?_) (.inl (.int _ _));rw[b,c,k];simp[builtin,Builtin.cap_,run_underlying j,goInt]
theorem abW(b:List UInt8):(b.map λa=>[AV.int .u8 a.toNat]).flatten=b.map λa=>AV.int .u8 a.toNat:=by
 induction b with
 |nil=>rfl
 |cons a b c=>simp[c]
theorem O8:∀(a:List UInt8),RL Y (a.map λb=>AV.int .u8 b.toNat) (a.map λb=>Value.int .u8 b.toNat)
 |[]=>.nil
 |b::a=>.cons _ _ _ _ (.int .u8 _) (O8 a)
theorem abX{q:AV}(i:St Y L s.tmps)(v:du G Y)(x:B.op=.convert u cr m)(h:xx P u cr (l G L m)=aa q):cv P B s Y q L:=by
 unfold xx at h;have c:=dH i v m;split at h;rename_i M p N A g f e;simp at h;subst h;rw[e]at c;refine cv.still i (bA:=.int p (p.wrap A)) ?_ (.inl (.int _ _));simp[execOp,x,R.pI c,convert,run_underlying g,run_underlying f,Conv.intToInt];rename_i bs g f e;simp at h;subst h;rw[e]at c;obtain⟨a,j,rfl⟩:=R.xG c;simp_all[cv.still,execOp,convert,run_underlying]
 ·rename_i b bs g f e
  rw[e]at c;obtain⟨a,F,rfl⟩:=R.xG c;split at h
  case h_2=>simp at h
  case h_1 j=>
  split at h
  case isFalse=>simp at h
  case isTrue J=>
  simp at h;subst h;have I:=Go.Lib.run_convert_string_bytes (P:=P) Y.w u cr b a g f j;have H:=grownCap_ge Y.w a.size 0 b;have k:Z (a.data.toList.map λd=>[AV.int .u8 d.toNat])=a.size:=by simp
  have y:(Go.Lib.bytesCells Y.w b a).toList.take a.size=a.data.toList.map λd=>Value.int .u8 d.toNat:=by
   unfold Go.Lib.bytesCells;rw[IS,ET (by simp)];rw[gP (by simp)];simp
  have z:c0 Y.w (Go.Lib.bytesWorld Y.w b a) (λ_=>False):=
   ⟨by grind[Go.Lib.bytesWorld,World.freeze,World.alloc,World.drew],by grind[Go.Lib.bytesWorld,World.freeze,World.alloc,World.drew],
    by grind[Go.Lib.bytesWorld,World.freeze,World.alloc,World.drew],by rw[Go.Lib.bytesWorld_size];omega,by grind[Go.Lib.bytesWorld_at_old]⟩
  let⟨r,K,n,C,t⟩:=Jv i 1 (a.data.toList.map λd=>[AV.int .u8 d.toNat]) (Go.Lib.bytesCells Y.w b a) b _ (grownCap Y.w a.size 0 b) (by omega) (by grind)
   (by grind[Go.Lib.bytesCells]) (by simp_all[IT,abW,O8]) (λD o=>by
    rw[k,IT,y]at o;obtain⟨E,_,rfl⟩:=cy.1 o;rfl) _ z (Go.Lib.bytesWorld_at_new Y.w b a)
  rw[k]at n;refine⟨_,_,r,?_,.inl rfl,by simpa using n,C,t⟩;simp_all[execOp]
 simp at h
theorem RT.pl{a:AV}(h:RT Y a bA):RT Y a.pl bA:=.inl (R.pl h)
theorem cv.pl{a:AV}(h:cv P B s Y a L):cv P B s Y a.pl L:=by
 let⟨i,j,b,c,d,e,f,g⟩:=h;exact⟨i,j,b,c,d,e.pl,f,g⟩
theorem lJ{r:Option AV}{a:AV}(h:fS L r=aa (a,n)):r=aa a/\n=L:=by
 unfold fS at h;rcases r with _|x;simp at h;grind
theorem O9{t:AV}(g:St Y L s.tmps)(e:du G Y)(h:aV P G A L B.dst B.op=aa (t,n)):cv P B s Y t n:=by
 generalize f:B.op=op at h;have S:=h;unfold aV at h;cases op with
 |move a=>grind[OO]
 |assign a=>
  have key:(l G L a).pl=t->L=n->cv P B s Y t n:=by
   rintro rfl rfl;exact OO g e (.inr f)
  simp only at h;split at h;rename_i y T;split at h;grind[abB];simp at h;obtain⟨rfl,rfl⟩:=h;have:=key;simp[l,rF,ofValue,AV.pl]at this;exact this;grind
 |pick k a w=>grind[abL]
 |alloc v=>grind[abr]
 |box v a=>grind[Jk]
 |build b O=>obtain⟨h,rfl⟩:=lJ h;grind[abt]
 |buildSlice b N O=>grind[abw]
 |load b a=>
  obtain⟨h,rfl⟩:=lJ h;simp only[dj]at h;obtain⟨u,d,rfl⟩:=h;exact(aba g e f d).pl
 |store b a w=>
  simp only[dj,eE]at h;grind[abc]
 |nilCheck a=>grind[abf]
 |binOp x b a w J=>obtain⟨h,rfl⟩:=lJ h;grind[abi]
 |unOp ac b a=>obtain⟨h,rfl⟩:=lJ h;grind[abj]
 |convert a w ah=>obtain⟨h,rfl⟩:=lJ h;grind[abX]
 |makeInterface b a=>
  grind[abk]
 |makeFunc z first cap=>
  grind[abl]
 |makeMap b r=>
  simp only at h;split at h;simp only[e1,eE]at h;obtain⟨rfl,rfl⟩:=h;exact abA g e (by assumption) f;simp at h
 |makeSlice b c k=>grind[abx]
 |range b a=>
  grind[aby]
 |next a x=>
  grind[abz]
 |slice b a X U Z=>
  simp only at h;split at h;rename_i N v Q R D W;split at h;rename_i m;simp at h m;grind[abM];simp at h;split at h;grind[abK];cases h
 |fieldAddr b a z=>obtain⟨h,rfl⟩:=lJ h;grind[abd]
 |field b a z=>
  obtain⟨h,rfl⟩:=lJ h;simp only[dj]at h;obtain⟨u,d,rfl⟩:=h;exact(abn g e f d).pl
 |indexAddr b a E=>obtain⟨h,rfl⟩:=lJ h;grind[abe]
 |index b a E=>
  obtain⟨h,rfl⟩:=lJ h;simp only[dj]at h;obtain⟨u,d,rfl⟩:=h;exact(abo g e f d).pl
 |lookup b q p ok=>
  obtain⟨h,rfl⟩:=lJ h;simp only[dj]at h;obtain⟨u,d,rfl⟩:=h;exact(abG g e f d).pl
 |mapUpdate b q p a=>
  simp only[dj,eE]at h;grind[sV]
 |insert b q p a=>
  simp only[dj,eE]at h;obtain⟨I,d,rfl,rfl⟩:=h;exact sV g e (.inr f) d
 |mapEntry b q p=>grind[abI]
 |entryStore b q p a=>
  simp only[dj,eE]at h;grind[abJ]
 |extract a E=>
  grind[abp]
 |typeAssert a af b ok=>
  grind[abq]
 |call k=>
  simp only at h;split at h;rename_i x m;unfold ko at h;split at h;rename_i b a j i;simp only[dj,eE]at h;obtain⟨u,h,rfl,rfl⟩:=h;obtain⟨K,o,rfl⟩:=aaH.1 i;grind[abO];rename_i b J y a j i;split at h;rename_i V;rcases C:k.args.toList with _|⟨F,c⟩;grind;rcases c with _|⟨H,c⟩;grind;rcases c with _|⟨_,_⟩;grind[abP];grind;cases C:k.args.toList with
  |nil=>grind
  |cons F c=>
   rcases c with _|⟨H,c⟩;grind;rcases c with _|⟨_,_⟩;grind[abS];grind
  rename_i b j i;split at h;rename_i v D;simp only[e1,eE]at h;obtain⟨rfl,rfl⟩:=h;let⟨K,o,M⟩:=aaH.1 i;exact abV g e f m j o D M;simp at h;rename_i b a j i;simp only[dj,eE]at h;obtain⟨I,h,rfl,rfl⟩:=h;obtain⟨K,o,rfl⟩:=aaH.1 i;exact abU g e f m j o h;rename_i b J y a j i;simp only[dj,eE]at h;obtain⟨I,h,rfl,rfl⟩:=h;rcases C:k.args.toList with _|⟨F,c⟩;grind;rcases c with _|⟨H,c⟩;grind
  rcases c with _|⟨_,_⟩;grind[abH];grind;simp only[dj,eE]at h;grind[abQ];simp only[dj,eE]at h;grind[abR];simp at h;simp at h
 |_=>simp at h
end
variable{z:Nat}
variable{dh:Nat}{kj:TypeId}
variable{ey:List (Int × Int)}{F:Bool}{x:List K}{dR:K}{bZ:Type}{dP:Call}
variable{b9:Int}
def ar.ep(a:ar)(d:Md):ar:=
 {w:=a.w,S:=λc b=>if d=.cb/\c=ad then b<a.w.heap.size else a.S c b,h:=λ_=>ae,bx:=λ_=>ae,H:=[]}
theorem b6.length:∀{a bs:List AV},b6 M c9 a bs->Z bs=Z a
 |_,_,.nil _=>rfl
 |_,_,.cons _ _ _ _ _ _ b=>by simp[b6.length b]
theorem fF.length:∀{a bs:List (List AV)},fF M c9 a bs->Z bs=Z a
 |_,_,.nil _=>rfl
 |_,_,.cons _ _ _ _ _ _ b=>by simp[fF.length b]
theorem fF.width:∀{c bs:List (List AV)},fF M c9 c bs->(∀a∈c,Z a=U)->∀a∈bs,Z a=U
 |_,_,.nil _,_=>by simp
 |_,_,.cons _ i f vs g h d,e=>by
  intro a b;rcases b5.1 b with rfl|b;rw[h.length];grind;exact fF.width d (by grind) a b
theorem ar.zb(g:Good Y)(h:Y.S T U)(a:F=T\/(c9=.cb/\F=ad)):(Y.ep c9).S F U:=by
 simp only[ar.ep];split;exact g.iG U (g.iF T U h);grind
theorem Fv(g:Good Y){id:Nat}(d:Y.H[id]?=aa (.arr U N b0))(f:Y.h id=aa (z,dh)):
 ∃a c,Y.w.heap[z]?=aa (.cells a c (0,0))/\Z b0*N<=a.size/\(∀b∈b0,Z b=N)/\RL Y b0.flatten (a.toList.take (Z b0*N))/\∀e∈a.toList.take (Z b0*N),e.oneCell'=true:=by
 let⟨j,i⟩:=g.gI id _ d;grind
theorem Pb{off len:Nat}(b:∀a∈b0,Z a=U):∀a∈(b0.drop off).take len,Z a=U:=by grind
theorem RL.split{a:List AV}(h:RL Y (bE++a) hK):RL Y bE (hK.take (Z bE))/\RL Y a (hK.drop (Z bE)):=by
 grind[RL.take,RL.drop,List.take_left,List.drop_left]
theorem ar.Pd(g:Good Y)(h:Y.S T U):(Y.ep .df).S ad U:=by
 simp only[ar.ep];exact g.iF T U h
theorem ar.Pe{E:ar}(g:Good E){m:Md}:Rm (E.ep .df) (E.ep m)where
 S:=λa b h=>ar.zb g (T:=a) (by grind[ar.ep]) (.inl rfl)
 heap:=λ_ _ _=>rfl
 k3:=c5 _
 kG:=λid c h=>absurd h (Ol _)
mutual
theorem aM.fG{o:ar}(g:Good o):∀{p:Md}{w r:AV}{x:Value},aM o.H p w r->p≠.res->R o w x->R (o.ep p) r x
 |_,_,_,_,.int _ D aZ,a,h=>by cases h;exact .int D aZ
 |_,_,_,_,.bool _ d,a,h=>by cases h;exact .bool d
 |_,_,_,_,.str _ ba,a,h=>by cases h;exact .str _
 |_,_,_,_,.gE _,a,h=>by cases h;exact .gE
 |_,_,_,_,.fN _,a,h=>by cases h;exact .fN
 |_,_,_,_,.jX _,a,h=>by cases h;exact .jX
 |_,_,_,_,.undef _ _,a,_=>.undef _
 |_,_,_,_,.aq _ d,a,h=>by cases h;exact .jN d _ _
 |_,_,_,_,.dG _ d,a,h=>by cases h;exact .jN d _ _
 |_,_,_,_,.agg _ l B b,a,h=>by
  cases h with
  |agg _ vs k j=>exact .agg _ _ (b6.fG g b a k) j
 |_,_,_,_,.aB _ l B b,a,h=>by
  cases h with
  |aB _ vs k=>exact .aB _ _ (b6.fG g b a k)
 |_,_,_,_,.xB p _ d i z b,a,h=>by
  have c:=b.length
  cases h with
  |jN _ Q cap=>have:z=[]:=by simpa using c
               subst this;exact .jN _ _ _
  |sl _ _ s v D cap l m t n e u V E k j=>
   rw[<-c]
   exact .sl _ _ s v D cap l m t (ar.zb g n (.inl rfl)) e (b.width u) (by omega) (by grind) (by rw[c];exact RL.gR (ar.Pe g) (fF.fG g b (by simp) k)) (by grind)
 |_,_,_,_,.CC d i z b,_,h=>by
  have c:=b.length
  cases h with
  |jN _ Q cap=>have:z=[]:=by simpa using c
               subst this;exact .jN _ _ _
  |sl _ _ s v D cap l m t n e u V E k j=>
   rw[<-c]
   exact .sl _ _ s v D cap l m t (ar.Pd g n) e (b.width u) (by omega) (by grind) (by rw[c];exact fF.fG g b (by simp) k) (by grind)
 |_,_,_,_,.CD _ _ _ _,a,_=>absurd rfl a
 |_,_,_,_,.AK d i z b,a,h=>by
  have c:=b.length
  cases h with
  |jN _ Q cap=>have:z=[]:=by simpa using c
               subst this;exact .jN _ _ _
  |sl _ _ s v D cap l m t n e u V E k j=>
   rw[<-c]
   exact .sl _ _ s v D cap l m t (ar.zb g n (.inr ⟨rfl,rfl⟩)) e (b.width u) (by omega) (by grind) (by rw[c];exact fF.fG g b a k) (by grind)
 |_,_,_,_,.vX id am off len f i z A c b,a,h=>by
  have I:=b.length
  have aA:Z ((i.drop off).take len)=len:=by simp;omega
  rw[aA]at I
  cases h with
  |q _ _ _ _ _ ac U au G=>
   obtain⟨Q,cap,rfl,a5,a9,W⟩:=G f i A
   by_cases aE:len=0
   subst aE
   have:z=[]:=by simpa using I
   subst this;exact .jN _ _ _
   rcases W with W|⟨d,ai,J,rfl,E⟩
   omega
   let⟨l,m,e,az,M,k,j⟩:=Fv g A J
   have K:off*f+len*f<=Z i*f:=by rw[<-sJ];exact my _ c
   have F:=RL.take (len*f) (RL.drop (off*f) k)
   rw[k5 _ _ _ _ K,<-uT off len M]at F
   rw[<-I]
   refine .sl ad z d (off*f) f cap l m (0,0) ?_ e (b.width (Pb M)) (by omega) (by grind) (by rw[I];exact fF.fG g b a F) ?_
   grind[ar.ep]
   intro r L
   rw[I,<-k5 _ (Z i*f) _ _ K]at L
   grind
 |_,_,_,_,.pE _ _ _ _ _ _ _ _ _ _,a,_=>absurd rfl a
 |_,_,_,_,.uN p _ d l B off b,a,h=>by
  have c:=b.length
  cases h with
  |aH _ _ _ s v vs m t n e E k j=>
   exact .aH _ _ _ s v vs m t (ar.zb g n (.inl rfl)) e (by omega) (by rw[c];exact RL.gR (ar.Pe g) (b6.fG g b (by simp) k)) (by grind)
 |_,_,_,_,.Ja d l B off b,_,h=>by
  have c:=b.length
  cases h with
  |aH _ _ _ s v vs m t n e E k j=>
   exact .aH _ _ _ s v vs m t (ar.Pd g n) e (by omega) (by rw[c];exact b6.fG g b (by simp) k) (by grind)
 |_,_,_,_,.CF _ _ _ _ _,a,_=>absurd rfl a
 |_,_,_,_,.AL d l B off b,a,h=>by
  have c:=b.length
  cases h with
  |aH _ _ _ s v vs m t n e E k j=>
   exact .aH _ _ _ s v vs m t (ar.zb g n (.inr ⟨rfl,rfl⟩)) e (by omega) (by rw[c];exact b6.fG g b a k) (by grind)
 |_,_,_,_,.oU id am N off f i l B A S b,a,h=>by
  have c:=b.length
  cases h with
  |ptr _ _ _ _ _ ac U au G=>
   obtain⟨d,ai,J,rfl⟩:=G f i A
   let⟨vs,m,e,az,M,k,j⟩:=Fv g A J
   have X:Z l=f:=M l (qj S)
   have ax:N<Z i:=(fM.1 S).1
   have K:N*f+f<=Z i*f:=by
    have:=my f (show N+1<=Z i from ax)
    rw[q4]at this;exact this
   have F:=RL.take f (RL.drop (N*f) k)
   rw[AP M S,k5 _ _ _ _ K]at F
   refine .aH ad B off d (N*f) vs m (0,0) ?_ e (by omega) (by rw[c,X];exact b6.fG g b a F) ?_
   grind[ar.ep]
   intro r L
   rw[c,X,<-k5 _ (Z i*f) _ _ K]at L
   grind
 |_,_,_,_,.Fb _ _ _ _ _ _ _ _ _ _ _,a,_=>absurd rfl a
 |_,_,_,_,.y7 af vs ah O j y,a,h=>by
  cases h with
  |ih _ _ d clock i n e u C=>exact .ih _ _ d clock i (ar.zb g n (.inl rfl)) e (b6.fG g j a u) (b6.fG g y a C)
 |_,_,_,_,.xC af vs ah O j y,a,h=>by
  cases h with
  |ih _ _ d clock i n e u C=>exact .ih _ _ d clock i (ar.zb g n (.inl rfl)) e (b6.fG g j a u) (b6.fG g y a C)
 |_,_,_,_,.xD id a4 af vs ah O A j y,a,h=>by
  cases h with
  |b7 _ _ ac U G=>
   obtain⟨d,ai,J,rfl⟩:=G _ A rfl
   let⟨a2,i,clock,Y,e,u,C,_⟩:=g.gI id _ A
   rw[J]at Y
   injection Y with aj
   injection aj with ak _
   subst ak
   refine .ih _ _ d clock i ?_ e (b6.fG g j a u) (b6.fG g y a C)
   grind[ar.ep]
 |_,_,_,_,.fn _ a3 a0 bs l B j y,a,h=>by
  cases h with
  |fn _ _ _ O vs L C=>exact .fn _ _ _ _ _ (b6.fG g j a L) (b6.fG g y a C)
 |_,_,_,_,.iface _ P w r b,a,h=>by
  cases h with
  |iface _ _ x T=>exact .iface _ _ _ (aM.fG g b a T)
theorem b6.fG {o:ar} (g:Good o):∀{p:Md}{w r:List AV}{x:List Value},b6 o.H p w r->p≠.res->RL o w x->RL (o.ep p) r x
 |_,_,_,_,.nil _,a,h=>by cases h;exact .nil
 |_,_,_,_,.cons _ w r vs O b P,a,h=>by
  cases h with
  |cons _ x _ be T aR=>exact .cons _ _ _ _ (aM.fG g b a T) (b6.fG g P a aR)
theorem fF.fG {o:ar} (g:Good o):∀{p:Md}{w r:List (List AV)}{x:List Value},fF o.H p w r->p≠.res->RL o w.flatten x->RL (o.ep p) r.flatten x
 |_,_,_,_,.nil _,a,h=>by cases h;exact .nil
 |_,_,_,x,.cons _ w r vs O b P,a,h=>by
  rw[xo]at h⊢
  let⟨j,y⟩:=RL.split h
  have:=RL.append (b6.fG g b a j) (fF.fG g P a y)
  rwa[vO]at this
end
def JB(b:Prop)(a:Bool):Prop:=a=ab\/b
structure Fw(q:Prop)(E E':ar):Prop where
 w:E'.w=E.w
 S:∀br b,JB q br->E.S br b->E'.S br b
 h:∀id b z,E.h id=aa (b,z)->E'.S ab b
mutual
theorem aM.oX{k:Prop}{j u:ar}(g:Good j)(b:Fw k j u):∀{v:Md}{r f:AV}{l:Value},aM j.H v r f->v=.res->(k\/NB f)->R j r l->R u f l
 |_,_,_,_,.int _ b e,_,_,h=>by cases h;exact .int b e
 |_,_,_,_,.bool _ i,_,_,h=>by cases h;exact .bool i
 |_,_,_,_,.str _ ba,_,_,h=>by cases h;exact .str _
 |_,_,_,_,.gE _,_,_,h=>by cases h;exact .gE
 |_,_,_,_,.fN _,_,_,h=>by cases h;exact .fN
 |_,_,_,_,.jX _,_,_,h=>by cases h;exact .jX
 |_,_,_,_,.undef _ _,_,_,_=>.undef _
 |_,_,_,_,.aq _ i,_,_,h=>by cases h;exact .jN i _ _
 |_,_,_,_,.dG _ i,_,_,h=>by cases h;exact .jN i _ _
 |_,_,_,_,.agg _ s A c,a,hq,h=>by
  cases h with
  |agg _ vs n t=>exact .agg _ _ (b6.oX g b c a (hq.imp id λe=>by cases e;assumption) n) t
 |_,_,_,_,.aB _ s A c,a,hq,h=>by
  cases h with
  |aB _ vs n=>exact .aB _ _ (b6.oX g b c a (hq.imp id λe=>by cases e;assumption) n)
 |_,_,_,_,.xB _ E _ _ _ _,a,_,_=>absurd a E
 |_,_,_,_,.CC _ _ _ _,a,_,_=>by cases a
 |_,_,_,_,.AK _ _ _ _,a,_,_=>by cases a
 |_,_,_,_,.CD i m y c,a,hq,h=>by
  have p:=c.length
  cases h with
  |jN _ ah cap=>have:y=[]:=by simpa using p
                subst this;exact .jN _ _ _
  |sl _ _ M V a0 cap s x N P z az a4 ac n t=>
   by_cases ak:y=[]
   subst ak
   have:Z m=0:=by simpa using p.symm
   rw[this];exact .jN _ _ _
   have o:JB k i/\(k\/vY y):=by
    rcases hq with hq|hq
    exact⟨.inr hq,.inl hq⟩
    cases hq with
    |Jb _=>grind
    |sl _ h=>exact⟨.inl rfl,.inr h⟩
   rw[<-p]
   exact .sl _ _ M V a0 cap s x N (b.S _ _ o.1 P) (by rw[b.w];exact z) (c.width az) (by omega) (by grind) (by rw[p];exact fF.oX g b c a o.2 n) (by grind)
 |_,_,_,_,.vX _ _ _ _ _ _ _ _ _ _,a,_,_=>by cases a
 |_,_,_,_,.pE id ai off len d m y F p c,a,hq,h=>by
  have o:=c.length
  have aE:Z ((m.drop off).take len)=len:=by simp;omega
  rw[aE]at o
  cases h with
  |q _ _ _ _ _ au aj am Q=>
   obtain⟨ah,cap,rfl,a5,a9,X⟩:=Q d m F
   by_cases E:len=0
   subst E
   have:y=[]:=by simpa using o
   subst this;exact .jN _ _ _
   rcases X with X|⟨i,W,C,rfl,ac⟩
   omega
   let⟨s,x,z,aA,I,n,t⟩:=Fv g F C
   have D:off*d+len*d<=Z m*d:=by rw[<-sJ];exact my _ p
   have B:=RL.take (len*d) (RL.drop (off*d) n)
   rw[k5 _ _ _ _ D,<-uT off len I]at B
   have K:k\/vY y:=by
    rcases hq with hq|hq
    grind
    cases hq with
    |Jb _=>grind
    |sl _ h=>exact .inr h
   rw[<-o]
   refine .sl ab y i (off*d) d cap s x (0,0) (b.h id i W C) (by rw[b.w];exact z) (c.width (Pb I)) (by omega) (by grind) (by rw[o];exact fF.oX g b c a K B) ?_
   intro f G
   rw[o,<-k5 _ (Z m*d) _ _ D]at G
   grind
 |_,_,_,_,.uN _ E _ _ _ _ _,a,_,_=>absurd a E
 |_,_,_,_,.Ja _ _ _ _ _,a,_,_=>by cases a
 |_,_,_,_,.AL _ _ _ _ _,a,_,_=>by cases a
 |_,_,_,_,.CF i s A off c,a,hq,h=>by
  have p:=c.length
  cases h with
  |aH _ _ _ M V vs x N P z ac n t=>
   have o:JB k i/\(k\/sT A):=by
    rcases hq with hq|hq
    exact⟨.inr hq,.inl hq⟩
    cases hq with
    |aH _ _ h=>exact⟨.inl rfl,.inr h⟩
   exact .aH _ _ _ M V vs x N (b.S _ _ o.1 P) (by rw[b.w];exact z) (by omega) (by rw[p];exact b6.oX g b c a o.2 n) (by grind)
 |_,_,_,_,.oU _ _ _ _ _ _ _ _ _ _ _,a,_,_=>by cases a
 |_,_,_,_,.Fb id ai J off d m s A F T c,a,hq,h=>by
  have p:=c.length
  cases h with
  |ptr _ _ _ _ _ au aj am Q=>
   obtain⟨i,W,C,rfl⟩:=Q d m F
   let⟨vs,x,z,aA,I,n,t⟩:=Fv g F C
   have Y:Z s=d:=I s (qj T)
   have ax:J<Z m:=(fM.1 T).1
   have D:J*d+d<=Z m*d:=by
    have:=my d (show J+1<=Z m from ax)
    rw[q4]at this;exact this
   have B:=RL.take d (RL.drop (J*d) n)
   rw[AP I T,k5 _ _ _ _ D]at B
   refine .aH ab A off i (J*d) vs x (0,0) (b.h id i W C) (by rw[b.w];exact z) (by omega) (by rw[p,Y];exact b6.oX g b c a (hq.imp (λl=>l) λe=>by cases e;assumption) B) ?_
   intro f G
   rw[p,Y,<-k5 _ (Z m*d) _ _ D]at G
   grind
 |_,_,_,_,.y7 _ _ _ _ _ _,a,_,_=>by cases a
 |_,_,_,_,.xC _ _ _ _ _ _,a,_,_=>by cases a
 |_,_,_,_,.xD _ _ _ _ _ _ _ _ _,a,_,_=>by cases a
 |_,_,_,_,.fn _ a3 a2 bs s A t O,a,hq,h=>by
  cases h with
  |fn _ _ _ af vs G aR=>
   have K:k:=hq.elim id λe=>by cases e
   exact .fn _ _ _ _ _ (b6.oX g b t a (.inl K) G) (b6.oX g b O a (.inl K) aR)
 |_,_,_,_,.iface _ L r f c,a,hq,h=>by
  cases h with
  |iface _ _ l U=>exact .iface _ _ _ (aM.oX g b c a (.inl (hq.elim id λe=>by cases e)) U)
theorem b6.oX {k:Prop} {j u:ar} (g:Good j) (b:Fw k j u):∀{v:Md}{r f:List AV}{l:List Value},b6 j.H v r f->v=.res->(k\/sT f)->RL j r l->RL u f l
 |_,_,_,_,.nil _,_,_,h=>by cases h;exact .nil
 |_,_,_,_,.cons _ r f vs af c L,a,hq,h=>by
  cases h with
  |cons _ l _ be U aZ=>exact .cons _ _ _ _ (aM.oX g b c a (hq.imp id λe=>by cases e;assumption) U) (b6.oX g b L a (hq.imp id λe=>by cases e;assumption) aZ)
theorem fF.oX {k:Prop} {j u:ar} (g:Good j) (b:Fw k j u):∀{v:Md}{r f:List (List AV)}{l:List Value},fF j.H v r f->v=.res->(k\/vY f)->RL j r.flatten l->RL u f.flatten l
 |_,_,_,_,.nil _,_,_,h=>by cases h;exact .nil
 |_,_,_,l,.cons _ r f vs af c L,a,hq,h=>by
  rw[xo]at h⊢
  let⟨t,O⟩:=RL.split h
  have:=RL.append (b6.oX g b c a (hq.imp id λe=>by cases e;assumption) t) (fF.oX g b L a (hq.imp id λe=>by cases e;assumption) O)
  rwa[vO]at this
end
section
variable{P:Program}{G:Nat->Option (List AV)}{A:bR}
inductive jZ(E:ar):List AV->List Value->Prop
 |nil:jZ E [] []
 |cons (v:AV) (u:Value) (vs:List AV) (us:List Value) (h:RT E v u) (t:jZ E vs us):jZ E (v::vs) (u::us)
theorem jZ.append:∀{b bs:List AV}{c vs:List Value},jZ Y b c->jZ Y bs vs->jZ Y (b++bs) (c++vs)
 |_,_,_,_,.nil,a=>a
 |_,_,_,_,.cons _ _ _ _ h d,a=>.cons _ _ _ _ h (jZ.append d a)
theorem jZ.of:∀{a:List AV}{b:List Value},RL Y a b->jZ Y a b
 |_,_,.nil=>.nil
 |_,_,.cons _ _ _ _ h c=>.cons _ _ _ _ (.inl h) (jZ.of c)
theorem jZ.eval(c:St Y L s.tmps)(b:du G Y):∀(a:List Operand),jZ Y (a.map (l G L)) (a.map s.eval)
 |[]=>.nil
 |x::a=>.cons _ _ _ _ (dH c b x) (jZ.eval c b a)
theorem jZ.pl:∀{a:List AV}{b:List Value},jZ Y a b->RL Y (a.map AV.pl) b
 |_,_,.nil=>.nil
 |_,_,.cons _ _ _ _ h c=>.cons _ _ _ _ (R.pl h) (jZ.pl c)
structure CO(P:Program)(f:Nat):Prop where
 ex:∃fn body,P.funcs[f]?=aa fn/\fn.body=aa body/\(fn.name== "runtime.NumGoroutine")=ab
theorem JC{w:World}(a:CO P U)(args:Array Value):(callFunc U args).run P w=.ok (.enter U args) w:=by
 let⟨fn,b,d,c,e⟩:=a.ex;simp_all[callFunc]
theorem abY{w:World}(b:TypeId)(a:Addr)(c d:String):(Builtin.ssaWrapNilChk_ #[b] b #[.pointer (aa a),strVal c,strVal d]).run P w=.ok (.pointer (aa a)) w:=rfl
theorem Pf{args:List AV}(k:St Y L s.tmps)(m:du G Y)(ac:B.op=.call dP)(a:ja P G L dP=aa (U,args))(Q:CO P U):
 ∃l,(execOp s.eval B).run P Y.w=.ok (.enter U l.toArray) Y.w/\jZ Y args l:=by
 unfold ja at a;have n:=jZ.eval k m dP.args.toList;split at a
 ·rename_i f C
  split at a
  case h_2=>simp at a
  case h_1 y first cap q=>
  simp only[e1,eE]at a;let⟨rfl,rfl⟩:=a;have b:=dH k m f;rw[q]at b;replace b:=b.resolve_right (by grind);generalize K:s.eval f=ak at b;cases b with
  |fn _ _ _ l vs g z=>
   refine⟨l.toList++dP.args.toList.map s.eval++vs.toList,?_,((jZ.of (jZ.pl (jZ.of g))).append n).append (jZ.of (jZ.pl (jZ.of z)))⟩;simp_all[execOp,resolve,Deferred.ofValue,invoke,JC]
 ·rename_i f name C
  split at a
  case h_2=>simp at a
  case h_1 d aj q=>
  split at a
  case h_2=>simp at a
  case h_1 ai F=>
  have b:=dH k m f;rw[q]at b;replace b:=b.resolve_right (by grind);generalize K:s.eval f=ak at b;cases b with
  |iface _ _ e I=>
   let⟨i,o⟩:∃i,P.info? d=aa i:=by
    rcases o:P.info? d with _|i;grind;grind
   simp only[o,Ct]at F;have T:(execOp s.eval B).run P Y.w=(callMethod (.iface d e) name (dP.args.map s.eval)).run P Y.w:=by
    have N:(#[Value.iface d e]++dP.args.map s.eval)[0]?=aa (Value.iface d e):=by simp[Array.getElem?_append]
    have g:(#[Value.iface d e]++dP.args.map s.eval).extract 1 (#[Value.iface d e]++dP.args.map s.eval).size=dP.args.map s.eval:=by
     rw[<-oB];simp[gP]
    simp only[execOp,ac,resolve,C,K,Sem.run_bind,Sem.run_pure,Result.andThen_ok,invoke];rw[N,g]
   have V:∃M,P.types.size+Made.depth=M+1:=⟨P.types.size+99,by simp[Made.depth]⟩;let⟨M,X⟩:=V;split at a;rename_i y x H E J;simp only[e1,eE]at a;let⟨rfl,rfl⟩:=a;refine⟨e::dP.args.toList.map s.eval,?_,.cons _ _ _ _ (.inl (R.pl (.inl I))) n⟩;simp_all[callMethod,method,typeInfo,follow,receiverAt,run_underlying,Place.get,JC]
   ·rename_i y x H E J
    split at a
    case h_2=>simp at a
    case h_1 aE c=>
    simp only[e1,eE]at a;let⟨rfl,rfl⟩:=a;unfold oR at c;rcases A:pD L aj.pl with _|r;grind;let⟨v,off⟩:=r;simp only[A]at c;split at c
    case isFalse=>simp at c
    case isTrue j=>
    simp at c;subst c;obtain⟨am,t,vs,ax,az,rfl,S,aA,O,g⟩:=Jj k (.inl (R.pl (.inl I))) A;let⟨au,D⟩:=sH.1 j.2.2;let⟨h,p⟩:=info_of_underlying D;rw[jw p]at j;have c:Z ((v.drop off).take h.size)=h.size:=by simp;omega
    have ah:=Jh (P:=P) S (t+off) p D (by omega) j.2.1;refine⟨(if fp P x then .agg ((vs.toList.drop (t+off)).take h.size).toArray else((vs.toList.drop (t+off)).take h.size).headD undef)::dP.args.toList.map s.eval,?_,.cons _ _ _ _ (.inl (R.pl (.inl ?_))) n⟩;have:∀u:Value,(u::dP.args.toList.map s.eval).toArray=#[u]++dP.args.map s.eval:=λu=>by rw[<-oB];simp
    have af:ai.path=#[]:=by rw[<-oB];simpa using H
    rw[T,this];simp only[callMethod,X,method,Sem.run_bind,typeInfo,run_program,o,F,Sem.run_pure,Result.andThen_ok,follow,E,receiverAt,run_underlying J,Place.get,af,Array.isEmpty_empty,if_true,abY,asAddr,ah,JC Q];rw[jw p];refine Fj ?_ ?_ (λW=>by rw[c];exact j.2.1 W);have z:=RL.take h.size (RL.drop off O);grind[k5,List.drop_drop];intro f b;apply g;rw[<-vM,<-k5 _ (Z v) _ _ (by omega)]at b;grind
   grind
 grind
end
variable{fX:Option Tmp}{o:Array Oper}{ly:List Oper}{cz:Code}
section
variable{P:Program}{G:Nat->Option (List AV)}{An:Nat->bR}{X:fq}
def nW(d:ar)(e:AS)(c b:Act)(f:World):Prop:=
 ∃a,a.w=f/\St a e b.tmps/\Fr d a/\b.tmps.size=c.tmps.size/\b.defers=c.defers
theorem kp(a:Act)(b:Option Tmp)(c:Value):(a.put b c).tmps.size=a.tmps.size:=by
 cases b<;>simp[Act.put]
theorem nr(a:Act)(b:Option Tmp)(c:Value):(a.put b c).defers=a.defers:=by
 cases b<;>rfl
theorem St.CP(a:St Y L s.tmps){c:AV}(i:RT Y c bA)(f:∀d,fX=aa d->d<s.tmps.size):St Y (gj fX (c,L)) (s.put fX bA).tmps:=by
 rcases fX with _|d;exact a;have g:=f d rfl;exact{
  bM:=a.bM
  hp:=a.hp
  env:=λb w h=>by
   simp only[gj,fO]at h;simp only[Act.put];by_cases e:b=d;simp_all;rw[if_neg e]at h;have:=a.env b w h;simp_all[Cq]
  bx:=a.bx}
theorem CQ(m:St Y L s.tmps)(h:ga o L B=aa T):Region.wanted B (yielded o s.tmps)=T:=by
 unfold ga at h;unfold Region.wanted;rcases i:B.guard with _|g;grind;let⟨l,p⟩:=g;simp only[i]at h⊢;rcases d:(o[l]?).bind (·.dst)with _|t;grind;simp only[d]at h;rcases c:look t L.env with _|v;grind;have a:=m.env t v c;simp only[c]at h;unfold yielded;simp only[d,Ct];cases v with
 |bool f=>
  simp at h;have e:=R.y8 a;have:s.tmps[t]?=aa (.bool f):=by
   have j:t<s.tmps.size:=by
    rcases aaI t s.tmps.size with b|b;exact b;simp[Array.getElem?_eq_none b,undef]at e
   simpa[j]using e
  simp_all
 |aB vs=>
  rcases vs with _|⟨_,_⟩;simp at h;subst h;replace a:=a.resolve_right (by grind);rcases k:s.tmps[t]? with _|u;rfl;simp[k]at a;cases a with
  |aB _ vs n=>rfl
  simp at h
 |_=>simp at h
theorem Pg(h:gG o bq=[])(b:∀a∈bq,a<o.size):bq=[]:=by
 rcases bq with _|⟨a,bq⟩;rfl;grind[gG]
theorem CR(h:gG o bq=B::ly)(c:∀a∈bq,a<o.size):∃a b,bq=a::b/\o[a]?=aa B/\gG o b=ly:=by
 rcases bq with _|⟨a,bq⟩;simp[gG]at h;grind[gG]
def CS(b:ar)(c:List Obj)(r:AV):Ending->World->Prop
 |.returned d,e=>∃a,a.w=e/\Fr b a/\Good a/\a.H=c/\R a r d
 |_,_=>False
def jy(P:Program)(G:Nat->Option (List AV))(b:Nat)(args:List AV)(d:List Obj)(r:AV)(e:List Obj):Prop:=
 CO P b/\∀(a:ar)(c:List Value),Good a->(∀f,a.bx f=ae)->a.H=d->RL a args c->du G a->Calls P b c.toArray a.w (CS a e r)
theorem nW.trans{a b:Act}(d:Fr Y gA)(l:a.tmps.size=s.tmps.size)(k:a.defers=s.defers)(h:nW gA L a b e2):nW Y L s b e2:=by
 let⟨c,e,f,g,i,j⟩:=h;exact⟨c,e,f,d.trans g,i.trans l,j.trans k⟩
theorem Ph{E:ar}(g:Good E)(m:Md):Good (E.ep m)where
 iF:=λa b h=>by
  simp only[ar.ep]at h⊢;split at h;grind;split;exact g.iG b (g.iF a b h);exact g.iF a b h
 iG:=λb h=>by
  simp only[ar.ep]at h;split at h;exact h;exact g.iG b h
 dC:=λid b z e=>by cases e
 jY:=λi j b z c e=>by cases e
 blt:=λk b e=>by cases e
 mK:=λi j b e=>by cases e
 gI:=by grind[id,ar.ep]
theorem Pj(a:Md):(Y.ep a).base=Y.base:=by
 simp[ar.base,ar.ep]
theorem Pk{d:ar}{o:AS}{p:Act}(c:St d o p.tmps){f:Md}(m:f≠.res):∀{i bs:List AV}{g:List Value},qt o f i bs->jZ d i g->RL (d.ep f) bs g
 |_,_,_,.nil,h=>by cases h;exact .nil
 |_,_,_,.cons J I vs g v B,h=>by
  cases h with
  |cons _ K _ L b A=>
   refine .cons _ _ _ _ ?_ (Pk c m B A);cases v with
   |of _ _ _ a=>
    rw[c.hp]at a;rcases b with b|⟨n,off,j,rfl,_,_⟩;exact aM.fG c.bM a m b;cases a;exact .undef _
   |lp n off q r w a=>
    rw[c.hp]at a;rcases b with b|⟨G,H,j,e,y,rfl⟩;cases b
    injection e with s t;subst s;subst t;let⟨D,C,u,l,x,k,E⟩:=c.bx n q w;rw[y]at l;injection l with e;subst e;have z:=a.length;have F:=k.length;have:=R.aH (E:=d.ep .cb) ad r off j 0 C u (0,0) (by grind[ar.ep]) x (by grind)
     (by rw[z,ll,gP (by omega)];exact b6.fG c.bM a (by simp) k) (by grind)
    grind
theorem Pl(e:St Y L s.tmps)(b:Fr (Y.ep c9) gA)(f:Good gA){o r:AV}(y:R gA o bA)(z:aM gA.H .res o r)(x:c9=.cb->NB r):
 ∃d,d.w=gA.w/\St d L s.tmps/\Fr Y d/\R d r bA:=by
 have m:c0 Y.w gA.w (λ_=>False):=⟨b.os,b.output,b.tape,b.size,λa t _=>b.heap a t (λ_ _ c=>by cases c) (λ_ c=>by cases c)⟩;let⟨k,q⟩:=ar.Jm e.bM m;refine⟨Y.df gA.w,rfl,?_,k,?_⟩;have:=St.mono e k q (λ_ _ h=>h) (λn j u=>m.block j (e.bM.blt n j u).1 (λh=>h));simpa[ar.df,<-e.hp]using this;have n:Fw (c9≠.cb) gA (Y.df gA.w):={
  w:=rfl
  S:=λi a hf l=>by
   have g:=f.iG a (f.iF i a l);rcases b.pH i a l with h|h;simp only[ar.ep]at h;split at h;rename_i v;rcases hf with hf|hf;grind;grind;exact .inl h;exact .inr ⟨h,g⟩
  h:=λid a p c=>by
   have g:=(f.dC id a p c).1;rcases b.oW id a p c with⟨A,B,h⟩|h;cases h
   exact .inr ⟨h,g⟩}
 grind[aM.oX]
def ar.zc(a:ar):ar:={a with bx:=λ_=>ae}
theorem abZ{E:ar}(g:Good E):Good E.zc where
 iF:=g.iF
 iG:=g.iG
 dC:=g.dC
 jY:=g.jY
 blt:=λk b e=>by cases e
 mK:=λi j b e=>by cases e
 gI:=λid o h=>by
  have:=g.gI id o h;have f:Rm E E.zc:=⟨λ_ _ h=>h,λ_ _ _=>rfl,c5 _,λid n _ h=>⟨n,h,hM.refl _ _⟩⟩;cases o with
  |arr p q l=>
   refine⟨this.1,this.2.imp (λh=>h) λ⟨b,cs,m,h1,h2,a,c,d⟩=>⟨b,cs,m,h1,h2,a,RL.gR f c,d⟩⟩
  |mp fl ks vs=>
   let⟨b,l,clock,h1,h2,a,c,d⟩:=this;exact⟨b,l,clock,h1,h2,RL.gR f a,RL.gR f c,d⟩
  |fm _=>exact this
  |iD _ _=>exact this
theorem ab0(a:ar):Rm a a.zc:=⟨λ_ _ h=>h,λ_ _ _=>rfl,c5 _,λid b _ h=>⟨b,h,hM.refl _ _⟩⟩
def ar.Fx(a b:ar):ar:={b with bx:=a.bx}
theorem ab1(j:St Y L s.tmps)(b:Fr Y.zc gA)(e:Good gA){r:AV}(C:R gA r bA):
 ∃k,k.w=gA.w/\St k {L with hp:=gA.H} s.tmps/\Fr Y k/\R k r bA:=by
 have E:∀d a,Y.bx d=aa a->gA.w.heap[a]?=Y.w.heap[a]?:=λd a t=>b.heap a (j.bM.blt d a t).1 (λid o c=>(j.bM.blt d a t).2.2 id o c) (λ_ c=>by cases c);have l:Rm gA (Y.Fx gA):=⟨λ_ _ h=>h,λ_ _ _=>rfl,c5 _,λid G _ h=>⟨G,h,hM.refl _ _⟩⟩;have q:Fr Y (Y.Fx gA):={
  os:=b.os,output:=b.output,tape:=b.tape,size:=b.size,pG:=b.pG,pH:=b.pH
  heap:=λa A B M=>b.heap a A B (λ_ c=>by cases c)
  k3:=b.k3,kG:=b.kG,oW:=b.oW,rH:=λd a c=>.inl ⟨d,c⟩}
 have z:Good (Y.Fx gA):={
  iF:=e.iF,iG:=e.iG,dC:=e.dC,jY:=e.jY
  blt:=λd a c=>by
   let⟨f,g,i⟩:=j.bM.blt d a c;refine⟨jL f b.size,λD=>?_,λid o x=>?_⟩;rcases b.pH ad a D with h|h;exact g h;have:Y.zc.w.heap.size=Y.w.heap.size:=rfl;omega;rcases b.oW id a o x with⟨F,I,h⟩|h;exact i F I h;have:Y.zc.w.heap.size=Y.w.heap.size:=rfl;omega
  mK:=j.bM.mK
  gI:=λid u h=>by
   have:=e.gI id u h;cases u with
   |arr K O p=>
    refine⟨this.1,this.2.imp (λh=>h) λ⟨a,v,y,f,g,i,m,n⟩=>⟨a,v,y,f,g,i,RL.gR l m,n⟩⟩
   |mp J N vs=>
    let⟨a,p,clock,f,g,i,m,n⟩:=this;exact⟨a,p,clock,f,g,RL.gR l i,RL.gR l m,n⟩
   |fm _=>exact this
   |iD _ _=>exact this}
 exact⟨Y.Fx gA,rfl,St.mono j q z (λ_ _ h=>h) E,q,R.gR l C⟩
def fg.Fy:fg->Exit
 |.norm=>.normal
 |.exit id=>.exit id
 |.ret=>.ret
def Fz(a:ar)(b:Act)(e:fg)(f:AS)(d:Exit)(c:Act)(g:World):Prop:=d=e.Fy/\nW a f b c g
def FA(P:Program)(c:Code)(Q:Exit->Act->World->Prop)(h:Act)(w:World):Prop:=
 ∀(b:Frame)(f:List Item)(d:List Frame),∃e a g,Q e a g/\Arrives P (lone (b.at h (.code c::.inLoop c::f)) d w) b f d e a g
theorem FA.wp{Q:Exit->Act->World->Prop}{a:Act}{w:World}(h:FA P cz Q a w):(Code.loop cz).wp P Q a w:=λc i d=>by
 let⟨e,b,j,g,f⟩:=h c i d;exact⟨e,b,j,g,.of_steps (.one step_loop) f⟩
def CT(P:Program)(c:Code)(Q:Exit->Act->World->Prop)(a:Act)(w:World):Prop:=
 match c with
 |.loop b=>FA P b Q a w
 |c=>c.wp P Q a w
theorem CT.wp{Q:Exit->Act->World->Prop}{a:Act}{w:World}(h:CT P cz Q a w):cz.wp P Q a w:=by
 cases cz<;>first|exact h|exact FA.wp h
theorem CU{f:Type}(e:List Nat)(b:Nat):∀(a:List (Nat×f))(c:f),look b (k0 e a)=aa c->look b a=aa c
 |[],_,h=>by grind[k0]
 |(g,k)::a,c,h=>by
  simp only[k0]at h;simp only[look];split at h;simp only[look]at h;split at h;grind;rename_i d;rw[if_neg d];exact CU e b a c h;rename_i i;by_cases d:g=b;subst d;exfalso;have:∀a:List (Nat×f),look g (k0 e a)=none:=by
   intro a;induction a with
   |nil=>rfl
   |cons l a j=>
    grind[k0,look]
  grind;rw[if_neg d];exact CU e b a c h
theorem AW{f:Type}(b c:Nat):∀(a:List (Nat×f))(d:f),look c (lz b a)=aa d->look c a=aa d
 |[],_,h=>by grind[lz]
 |(g,k)::a,d,h=>by
  simp only[lz]at h;simp only[look];split at h;rename_i i;by_cases e:g=c;subst e;exfalso;have:∀a:List (Nat×f),look b (lz b a)=none:=by
   intro a;induction a with
   |nil=>rfl
   |cons l a j=>
    grind[lz,look]
  grind;rw[if_neg e];exact AW b c a d h;simp only[look]at h;split at h;grind;rename_i e;rw[if_neg e];exact AW b c a d h
theorem St.mI{E:ar}{s:AS}{t:Array Value}(st:St E s t)(ks a:List Nat):St E {env:=k0 ks s.env,bx:=k0 a s.bx,hp:=s.hp} t where
 bM:=st.bM
 hp:=st.hp
 env:=λk v h=>st.env k v (CU _ _ _ _ h)
 bx:=λk cs h=>st.bx k cs (CU _ _ _ _ h)
theorem St.drop(a:St Y L eG)(b:bR)(c:Operand):St Y (qu b c L) eG:=by
 unfold qu;split;split;exact{bM:=a.bM,hp:=a.hp,env:=λd e h=>a.env d e (AW _ _ _ _ h),bx:=a.bx};exact a;exact a
theorem AX(h:uO U o=ad)(c:o[N]?=aa B):(∀a,B.dst=aa a->a<U)/\∀b∈B.after,Region.binds .any b=ad->b.on<N:=by
 unfold uO at h;rw[eL]at h;have:=h (B,N) (by
  grind)
 grind[Array.all_eq_true_iff_forall_mem]
theorem FB:∀(n:Nat)(a:List Nat),a.Nodup->(∀b∈a,b<n)->Z a<=n
 |0,a,_,h=>by
  rcases a with _|⟨b,a⟩;simp;exact absurd (h b (by simp)) (Ol b)
 |n+1,a,c,h=>by
  by_cases d:n∈a;have:=FB n (a.erase n) (c.erase n) (by grind);grind;have:=FB n a c (by grind);omega
theorem Pm(m:uO U o=ad):∀(c b:Nat)(listed:Array Bool)(done:List Nat),listed.size=o.size->(∀i,i<o.size->(listed.getD i ad=ad<->i∈done))->done.Nodup->(∀i∈done,i<o.size)->o.size<=Z done+c->
 pF o done (Region.linearise.go .any o c b listed [])
 |0,b,listed,done,y,f,w,u,r=>by
  simp only[Region.linearise.go,arv,pF];intro i j;by_cases e:i∈done;exact e;exfalso;have p:(i::done).Nodup:=by grind
  have:=FB o.size (i::done) p (by
   grind)
  grind
 |c+1,b,listed,done,y,f,w,u,r=>by
  simp only[Region.linearise.go];change pF o done (match(Region.ready .any o listed)[b%Z (Region.ready .any o listed)]? with
   |aa i=>Region.linearise.go .any o c (b/Z (Region.ready .any o listed)) (listed.setIfInBounds i ad) [i]
   |ae=>[].reverse)
  rcases j:(Region.ready .any o listed)[b%Z (Region.ready .any o listed)]? with _|i;have F:Region.ready .any o listed=[]:=by
   rcases G:Region.ready .any o listed with _|⟨H,I⟩;rfl;grind[Nat.mod_lt]
  simp only[arv,pF];intro i;induction i using Nat.strongRecOn with
  |_ i A=>
   intro k;by_cases e:i∈done;exact e;exfalso;have d:o[i]?=aa o[i]:=by simp[k]
   have:i∈Region.ready .any o listed:=by
    rw[mem_ready];refine⟨?_,o[i],d,λa h g=>?_⟩;cases s:listed.getD i ad
    rfl;exact absurd ((f i k).1 s) e;have v:=(AX m d).2 a h g;have q:=A a.on v (by omega);have:=(f a.on (by omega)).2 q;have z:a.on<listed.size:=by omega
    simpa[z]using this
   grind
  simp only[];rw[linearise_go_acc,List.reverse_singleton,Oz];have l:=qj j;rw[mem_ready]at l;let⟨C,B,d,D⟩:=l;have E:i<o.size:=(kY.1 d).1;have x:i∉done:=by grind
  refine⟨x,⟨B,d,λa h g=>?_⟩,?_⟩;grind;refine Pm m c _ _ (i::done) (by grind) (λn t=>?_) (by grind) (λn t=>?_) (by simp;omega);by_cases a:i=n;simp_all;simp_all;omega;grind
theorem Pn(b:uO U o=ad)(a:Nat):pF o [] (Region.linearise .any o a):=
 Pm b o.size a _ [] (by simp) (by simp_all) .nil (by simp) (by simp)
theorem CV:∀{b done:List Nat},pF o done b->∀a∈b,a<o.size
 |[],_,_,_,h=>by cases h
 |j::b,done,h,a,hi=>by
  let⟨_,⟨e,d,_⟩,c⟩:=h;rcases b5.1 hi with rfl|hi;grind;exact CV c a hi
end
variable{q9:Int}{rD:K -> bZ}{oK:bZ}
section
variable{P:Program}{G:Nat->Option (List AV)}
theorem Po:∀(a c:List (Int×Int)),(a.map (·.1)).Nodup->∀b,gi b (a.foldl (λc d=>oP d.1 d.2 c) c)=match gi b a with|aa g=>aa g|ae=>gi b c
 |[],c,_,b=>by simp[gi]
 |(f,g)::a,c,h,b=>by
  simp only[eg,kZ]at h;rw[ni,Po a _ h.2 b,Ft];by_cases e:f=b;subst e;have:gi f a=none:=by
   have i:=h.1;clear h;induction a with
   |nil=>rfl
   |cons d a j=>
    grind[gi]
  grind[gi];simp[gi,e]
theorem JD:∀{a:List (Int×Int)}{c d:Int},gi c a=aa d->∃b:Nat,a[b]?=aa (c,d)
 |(g,i)::a,c,d,h=>by
  simp only[gi]at h;split at h;rename_i e;subst e;injection h with h;subst h;exact⟨0,rfl⟩;let⟨b,f⟩:=JD h;exact⟨b+1,f⟩
theorem Pp:∀{a:List (Int×Int)}{b:Int},gi b a=ae->∀(i:Nat)(c:Int),a[i]?≠aa (b,c)
 |(f,g)::a,b,h,i,c,d=>by
  simp only[gi]at h;split at h;cases h
  rename_i e;rcases i with _|i;grind;exact Pp h i c d
theorem ab2(h:(ey.map (·.1)).Nodup)(a:ey[U]?=aa (f,b9))(b:ey[N]?=aa (f,q9)):U=N:=by
 have c:(ey.map (·.1))[U]?=aa f:=by simp[a]
 have d:(ey.map (·.1))[N]?=aa f:=by simp[b]
 grind[List.getElem?_eq_some_iff,List.getElem?_inj]
theorem JE{f:ar}:∀{ks vs:List AV}{b:List (Int×Int)}{a:List MapEntry},nums ks vs=aa b->RL f ks (a.map (·.key))->RL f vs (a.map (·.val))->a.map (·.key)=b.map (λe=>Value.int .i64 e.1)/\a.map (·.val)=b.map (λe=>Value.int .i64 e.2)
 |ks,vs,b,a,h,c,i=>by
  unfold nums at h;split at h;injection h with h;subst h;rcases a with _|⟨d,a⟩;grind;cases c
  rename_i q ks r vs;simp only[dj]at h;obtain⟨p,m,rfl⟩:=h;cases a with
  |nil=>cases c
  |cons d a=>
   simp only[eg]at c i⊢;cases c with
   |cons _ _ _ _ g n=>
   cases i with
   |cons _ _ _ _ j o=>
   let⟨k,l⟩:=JE m n o;rw[k,l];generalize d.key=s at g;generalize d.val=t at j;cases g;cases j
   grind
  cases h
theorem qw(h:U<s.tmps.size):(s.put (aa U) bA).eval (.tmp U)=bA:=by
 simp[Act.put,Act.eval,h]
theorem qx(h:N≠U):(s.put (aa U) bA).eval (.tmp N)=s.eval (.tmp N):=by
 simp[Act.put,Act.eval,Cq h]
theorem tR(h:Fa m bq=ad)(a:U∈bq):(s.put (aa U) bA).eval m=s.eval m:=by
 cases m with
 |tmp b=>grind[qx,Fa]
 |_=>rfl
theorem St.qy{E:ar}{s:AS}{a:Act}(st:St E s a.tmps){d:Nat}{u:Value}(h:look d s.env=ae):St E s (a.put (aa d) u).tmps where
 bM:=st.bM
 hp:=st.hp
 env:=λk v b=>by
  have c:d≠k:=by grind
  have:=st.env k v b;simp_all[Act.put]
 bx:=st.bx
theorem JF(a:Nat):∀b:List (Nat×K),look a (lz a b)=ae
 |[]=>rfl
 |(d,e)::b=>by
  simp only[lz];split;exact JF a b;rename_i c;simp only[look];rw[if_neg c];exact JF a b
theorem JG:∀(c:List Nat)(b:List (Nat×K)),(∀a e,look a (lI c b)=aa e->look a b=aa e)/\∀a∈c,look a (lI c b)=ae
 |[],b=>⟨λ_ _ h=>h,λ_ h=>by cases h⟩
 |d::c,b=>by
  let⟨g,i⟩:=JG c b;refine⟨λa e h=>g a e (AW d a _ e h),λa f=>?_⟩;show look a (lz d (lI c b))=ae;rcases b5.1 f with rfl|f;exact JF a _;cases j:look a (lz d (lI c b))with
  |none=>rfl
  |some e=>grind[AW]
theorem wl{Q:Exit->Act->World->Prop}{w:World}{a:Next}(c:B.guard=ae)(e:(execOp s.eval B).run P w=.ok a e2)(d:a=.value bA\/a=.skip/\bA=undef)(h:wpList P o Q ly (s.put B.dst bA) e2):wpList P o Q (B::ly) s w:=by
 refine wpList_plain c λf b=>?_;unfold Oper.wp;rw[e];rcases d with rfl|⟨rfl,rfl⟩;exact b _ _ h;exact b _ _ h
theorem CW(o:St Y L eG){r:Nat}(j:c0 Y.w e2 (λa=>a=r))(B:¬Y.S ad r)(J:∀id i,Y.h id≠aa (r,i))(I:∀f,Y.bx f≠aa r):St (Y.wd e2) L eG:=by
 have g:=o.bM;have l:Rm Y (Y.wd e2):=⟨λ_ _ h=>h,λt a h=>j.block a (g.iG a (g.iF t a h)) λc=>B (c▸g.iF t a h),c5 _,λid D _ h=>⟨D,h,hM.refl _ _⟩⟩;have m:∀id a i,Y.h id=aa (a,i)->e2.heap[a]?=Y.w.heap[a]?:=λid a i c=>j.block a (g.dC id a i c).1 (by grind);refine⟨?_,o.hp,λf E h=>?_,λf p h=>?_⟩;exact{
  iF:=g.iF
  iG:=λa h=>jL (g.iG a h) j.size
  dC:=λid a i c=>⟨jL (g.dC id a i c).1 j.size,(g.dC id a i c).2⟩
  jY:=g.jY
  blt:=λf a c=>⟨jL (g.blt f a c).1 j.size,(g.blt f a c).2⟩
  mK:=g.mK
  gI:=λid u h=>by
   have:=g.gI id u h;cases u with
   |arr H N n=>exact⟨this.1,this.2.imp (λh=>h) λ⟨a,p,q,b,d,e,k,s⟩=>⟨a,p,q,b,(m id a _ b).trans d,e,RL.gR l k,s⟩⟩
   |mp G K vs=>
    let⟨a,n,clock,b,d,e,k,s⟩:=this;exact⟨a,n,clock,b,(m id a _ b).trans d,RL.gR l e,RL.gR l k,s⟩
   |fm M=>
    let⟨a,n,clock,v,b,d,e⟩:=this;exact⟨a,n,clock,v,b,(m id a _ b).trans d,e⟩
   |iD L pos=>
    let⟨a,F,b,d,e⟩:=this;exact⟨a,F,b,(m id a _ b).trans d,e⟩}
 rcases o.env f E h with A|⟨C,off,a,x,y,z⟩;exact .inl (R.gR l A);exact .inr ⟨C,off,a,x,y,z⟩;let⟨a,vs,q,b,d,e,k⟩:=o.bx f p h;exact⟨a,vs,q,b,(j.block a (g.blt f a b).1 (by grind)).trans d,RL.gR l e,k⟩
theorem Fr.CW{E0 E:ar}(f:Fr E0 E){r:Nat}(a:c0 E.w e2 (λb=>b=r))(hr:E0.w.heap.size<=r):Fr E0 (E.wd e2)where
 os:=a.os.trans f.os
 output:=a.output.trans f.output
 tape:=⟨a.tape.1.trans f.tape.1,iP f.tape.2 a.tape.2⟩
 size:=iP f.size a.size
 pG:=f.pG
 pH:=f.pH
 heap:=λb hb h1 h2=>(a.block b (jL hb f.size) (by omega)).trans (f.heap b hb h1 h2)
 k3:=f.k3
 kG:=f.kG
 oW:=f.oW
 rH:=f.rH
theorem JH(c:St Y L eG)(t:L.hp[U]?=aa hL)(s:hL.Cw=ad)(q:Y.h U=aa (N,z))(x:c0 Y.w e2 (λa=>a=N)){d:Array MapEntry}{clock:Nat}{f:List (Int×Int)}(v:z=0)(k:e2.heap[N]?=aa (.map d clock))
 (e:d.toList.map (·.key)=ey.map (λj=>Value.int .i64 j.1))(u:d.toList.map (·.val)=ey.map (λj=>Value.int .i64 j.2))(r:∀o,gi o ey=gi o f):
 ∃b,b.w=e2/\b.h=Y.h/\b.S=Y.S/\b.bx=Y.bx/\St b {L with hp:=L.hp.set U (.fm f)} eG/\Fr Y b:=by
 subst v;have l:=t;rw[c.hp]at l;have m:c0 Y.w e2 (λa=>∃z,Y.h U=aa (a,z)):=by grind
 let⟨i,p⟩:=ar.sV c.bM (id:=U) (j:=.fm f) (e:=Y.h U) m l (by cases hL<;>simp[Obj.Cw]at s<;>simp[hM])
  (λa z g=>⟨by grind,.inl ⟨z,g⟩⟩)
  (λi=>⟨N,d,clock,ey,by simp[ar.bW,q],k,e,u,r⟩)
 refine⟨Y.bW e2 U (.fm f) (Y.h U),rfl,by grind[ar.bW],rfl,rfl,?_,i⟩;have:=St.mono c i p (λ_ _ h=>h) (λn a e=>m.block a (c.bM.blt n a e).1 λ⟨A,g⟩=>(c.bM.blt n a e).2.2 _ _ g);simpa[ar.bW,c.hp]using this
theorem Pq{c:bZ}(h:x.map rD=[oK,c]):∃a b,x=[a,b]/\rD a=oK/\rD b=c:=by
 match x,h with
 |[a,b],h=>grind
theorem ab3{f g e:bZ}(h:x.map rD=[oK,f,g,e]):∃a b c d,x=[a,b,c,d]/\rD a=oK/\rD b=f/\rD c=g/\rD d=e:=by
 match x,h with
 |[a,b,c,d],h=>grind
theorem ab4{i j f g:bZ}(h:x.map rD=[oK,i,j,f,g]):∃a b c d e,x=[a,b,c,d,e]/\rD a=oK/\rD b=i/\rD c=j/\rD d=f/\rD e=g:=by
 match x,h with
 |[a,b,c,d,e],h=>simp at h;grind
theorem rI{op:Op}(h:AJ B=(op,fX)):B.op=op/\B.dst=fX:=by
 simp_all[AJ,Prod.fst,Prod.snd]
theorem ab5(o:St Y L s.tmps){id:Nat}(l:L.hp[id]?=aa hL)(d:hL.nums=aa ey)(m:RT Y (.b7 id) bA):
 ∃a b clock c,bA=.map (aa a)/\Y.h id=aa (a,0)/\Y.w.heap[a]?=aa (.map b clock)/\b.toList.map (·.key)=c.map (λk=>Value.int .i64 k.1)/\b.toList.map (·.val)=c.map (λk=>Value.int .i64 k.2)/\(∀n,gi n c=gi n ey)/\hL.Cw=true:=by
 cases hL with
 |mp t u vs=>
  let⟨a,b,clock,e,f,g,i,j,_⟩:=za o l m;let⟨p,q⟩:=JE d i j;exact⟨a,b,clock,ey,e,f,g,p,q,λ_=>rfl,rfl⟩
 |fm v=>
  let⟨a,b,clock,c,e,f,g,i,j,r⟩:=O2 o l m;injection d with d;subst d;exact⟨a,b,clock,c,e,f,g,i,j,r,rfl⟩
 |_=>cases d
structure Pr(E:ar)(s:AS)(a:Act)(l:List Nat)(j it:Nat)(g:Operand)(r bm bt n:Nat)(es:Array MapEntry)(L F:List (Int×Int))(a':Act)(w':World)(E':ar)(seen:Array Nat)(Lc:List (Int×Int))(ec:Array MapEntry)(cc c1:Nat):Prop where
 w:E'.w=w'
 st:St E' {env:=lI l s.env,bx:=s.bx,hp:=s.hp.set j (.fm Lc)} a'.tmps
 fr:Fr E E'
 h:E'.h=E.h
 S:E'.S=E.S
 bx:E'.bx=E.bx
 size:a'.tmps.size=a.tmps.size
 defers:a'.defers=a.defers
 it:a'.eval (.tmp it)=.pointer (aa ⟨r,0,ae⟩)
 g:a'.eval g=.map (aa bt)
 iter:w'.heap[r]?=aa (.mapIter (aa bm) n seen c1)
 c1:n<=c1
 src:w'.heap[bm]?=aa (.map es n)
 CX:w'.heap[bt]?=aa (.map ec cc)
 keys:ec.toList.map (·.key)=Lc.map (λp=>Value.int .i64 p.1)
 bF:ec.toList.map (·.val)=Lc.map (λp=>Value.int .i64 p.2)
 now:∀x,(∃i v,L[i]?=aa (x,v)/\seen.contains i=ad/\gi x Lc=aa v)\/((∀i v,L[i]?=aa (x,v)->seen.contains i=ab)/\gi x Lc=gi x F)
theorem ab6{w:World}(n:P.underlying u=aa (.map cr kj))(k:P.underlying cr=aa (.int q8)){b:Array MapEntry}{clock:Nat}(f:w.heap[U]?=aa (.map b clock))(t:b.toList.map (·.key)=ey.map (λc=>Value.int .i64 c.1))(x:b.toList.map (·.val)=ey.map (λc=>Value.int .i64 c.2))(a d:Int):
 ∃i o,(Instr.mapUpdate u (.map (aa U)) (.int .i64 a) (.int .i64 d)).run P w=.ok () {w with heap:=w.heap.setIfInBounds U (.map i o)}/\i.toList.map (·.key)=(oP a d ey).map (λc=>Value.int .i64 c.1)/\i.toList.map (·.val)=(oP a d ey).map (λc=>Value.int .i64 c.2):=by
 have m:(Instr.checkKey ab 10000 cr (.int .i64 a)).run P w=.ok () w:=by
  unfold Instr.checkKey;simp[run_underlying k]
 rcases Jx q8 a b.toList ey 0 t x with⟨p,j,y⟩|⟨l,v0,p,j,⟨h,q,s⟩,z⟩;have g:(Instr.findKey cr (.int .i64 a) b.toList).run P w=.ok ae w:=Go.MapKept.run_findKey k j;refine⟨b.push {key:=.int .i64 a,val:=.int .i64 d,born:=clock},clock+1,?_,by grind,by grind⟩;simp only[Instr.mapUpdate,Sem.run_bind,run_underlying n,Result.andThen_ok,Go.MapKept.run_getObj_map f,m,g];exact Go.MapKept.run_setObj_map _ f
 have g:(Instr.findKey cr (.int .i64 a) b.toList).run P w=.ok (aa (0+l,.int .i64 v0)) w:=Go.MapKept.run_findKey k j;simp only[e]at g;have r:b[l]?=aa h:=by simpa using q
 have v:(Instr.keyThatStays (.int .i64 a) (.int .i64 a)).run P w=.ok (.int .i64 a) w:=by simp[Instr.keyThatStays,Instr.sameBits]
 refine⟨b.modify l λh=>{h with key:=.int .i64 a,val:=.int .i64 d},clock,?_,?_,?_⟩;simp only[Instr.mapUpdate,Sem.run_bind,run_underlying n,Result.andThen_ok,Go.MapKept.run_getObj_map f,m,g,r,kd,nR,s,v];exact Go.MapKept.run_setObj_map _ f;grind[tQ,List.map_set];grind[tQ,List.map_set]
theorem ab7{a:List MapEntry}(m:a.map (·.key)=ey.map (λb=>Value.int .i64 b.1))(n:a.map (·.val)=ey.map (λb=>Value.int .i64 b.2))(l:a.map (·.born)=ay U):∀c∈a,∃g v0,ey[c.born]?=aa (g,v0)/\c.key=.int .i64 g/\c.val=.int .i64 v0:=λc o=>by
 let⟨b,h⟩:=List.getElem?_of_mem o;have i:(a.map (·.born))[b]?=aa c.born:=by rw[sK,h]<;>rfl
 have d:(a.map (·.key))[b]?=aa c.key:=by rw[sK,h]<;>rfl
 have e:(a.map (·.val))[b]?=aa c.val:=by rw[sK,h]<;>rfl
 rw[l]at i;rw[m,sK]at d;rw[n,sK]at e;let⟨p,j⟩:=fM.1 i;rw[Cr]at j;subst j;simp only[dj]at d e;let⟨⟨g,v0⟩,k,d⟩:=d;let⟨q,f,e⟩:=e;rw[k]at f;injection f with f;subst f;exact⟨g,v0,k,d.symm,e.symm⟩
theorem Ps(h:M[U]?=aa hL)(a:Obj):(M.set U a)[U]?=aa a:=by
 grind
set_option maxHeartbeats 4000000 in
theorem ab8{g:Operand}(H:CB P cz=aa (m,g,bq))(t:xv (l G L m) (l G L g) L.hp=aa M)(st:St Y L s.tmps)(hl:du G Y)(kw:gH s.tmps.size cz=ad):
 cz.wp P (Fz Y s .norm {env:=lI bq L.env,bx:=L.bx,hp:=M}) s Y.w:=by
 unfold CB at H;split at H
 case h_2=>cases H
 case h_1 av9 awE t7 awa awF cs avU agg Pi awG awc r3=>
 split at H
 case h_2=>cases H
 case h_1 ci awz avK A it awb k q F u e g4 f x awM O z Q d5 c2 awD K avR B avS awH N D E ha X bv em=>
 simp only at H;split at H
 case isFalse=>cases H
 case isTrue z2=>
 obtain⟨⟨rfl,Id,rfl,rfl,rfl,rfl,rfl,rfl,rfl,rfl,rfl,rfl,rfl,rfl,rfl,rfl⟩,kl,av4,J,wr,ws,fn⟩:=z2;simp only[e1,eE]at H;let⟨rfl,rfl,rfl⟩:=H;let⟨awo,awp,f2,ht,hu⟩:=Pq ha;let⟨aig,awq,ds,hw,hH⟩:=Pq X;let⟨awr,aws,awt,awu,awv,aR,hO,h1,h3,h4,ii⟩:=ab4 bv;let⟨aww,awx,ob,awy,cc,io,ip,iC,i0⟩:=ab3 em;let⟨alt,lw⟩:=rI ht;let⟨awA,l0⟩:=rI hu;let⟨md,f8⟩:=rI hw;let⟨mk,f9⟩:=rI hH;let⟨awB,mp⟩:=rI hO;let⟨and,ms⟩:=rI h1
 let⟨app,mt⟩:=rI h3;let⟨arm,m0⟩:=rI h4;let⟨arr,m1⟩:=rI ii;let⟨ask,m2⟩:=rI io;let⟨atR,m3⟩:=rI ip;let⟨at8,m4⟩:=rI iC;let⟨awC,at9⟩:=rI i0;rw[f2,ds,aR,cc]at fn;simp only[hD,dK,oz,AA,bc,IU,yP]at fn;let⟨ul,un,g8,g9,up,us,ut,v4,v5,v6,v9,wd,gc⟩:=fn;simp only[gH,uO,bc,eL]at kw
 have p:∀{r:Array Oper}{a0:Oper}{d9:Nat},(∀f∈r.toList.zipIdx,Option.all (· <s.tmps.size) f.1.dst=ad/\(f.1.after.all λe=> !Region.binds .any e||y (e.on<f.2))=ad)->a0∈r.toList->a0.dst=aa d9->d9<s.tmps.size:=by
  intro r a0 d9 f1 If z3;obtain⟨aZ,EQ,rfl⟩:=sL If;have:=(f1 (r.toList[aZ],aZ) (by grind)).1;rw[z3]at this;simpa using this
 let⟨ge,go,_,a2,d4⟩:=kw;have sp:A<s.tmps.size:=p ge (by grind) lw;have avT:u<s.tmps.size:=p ge (by rw[f2];simp) l0;have g2:q<s.tmps.size:=p go (by rw[ds];simp) f8;have s2:F<s.tmps.size:=p go (by rw[ds];simp) f9;have ty:x<s.tmps.size:=p a2 (by rw[aR];simp) mp;have t0:O<s.tmps.size:=p a2 (by rw[aR];simp) ms;have t1:Q<s.tmps.size:=p a2 (by rw[aR];simp) mt;have t2:K<s.tmps.size:=p a2 (by grind) m0
 have t3:B<s.tmps.size:=p a2 (by rw[aR];simp) m1;have sz:N<s.tmps.size:=p d4 (by rw[cc];simp) m2;have s0:D<s.tmps.size:=p d4 (by rw[cc];simp) m3;have s1:E<s.tmps.size:=p d4 (by rw[cc];simp) m4;clear p ge go a2 d4 ha X bv em ht hu hw hH hO h1 h3 h4 ii io ip iC i0 Id;unfold xv at t;split at t
 case h_2=>cases t
 case h_1 aZ v FS Do=>
 split at t
 case h_2=>cases t
 case h_1 PP vs a0 IR dl=>
 split at t
 case h_2=>cases t
 case h_1 ai az wn wf=>
 split at t
 case isFalse=>cases t
 case isTrue fx=>
 let⟨fx,H1⟩:=fx;injection t with t;subst t;let⟨d,i,clock,NE,i5,es,i9,Os,At⟩:=za st IR (FS▸dH st hl ci);let⟨avY,bD⟩:=At rfl;let⟨jp,Pa⟩:=JE wn i9 Os;let⟨bt,g5,g3,g1,av7,ca,hs,ke,ls,AM,Fd⟩:=ab5 st dl wf (Do▸dH st hl c2);let⟨Rd,avQ,awd,Op,av8,_⟩:=Jy wr;let⟨awf,awI,awe,Or,Nm,_⟩:=Jy ws;have xs:d≠bt:=λe=>fx (st.bM.jY aZ v d 0 0 i5 (e▸ca));have av1:Z PP=Z ai:=by
  have X:=i9.length;have bv:=congrArg List.length jp;simp only[kc]at X bv;omega
 have av6:i.size=clock:=by
  have X:=congrArg List.length bD;simp at X;omega
 have Lc:∀f∈i.toList,f.born<clock:=λf f6=>by
  have:f.born∈i.toList.map (·.born):=List.mem_map_of_mem f6;rw[bD,iw]at this;omega
 have GT:(i.toList.map (·.born)).Nodup:=by rw[bD];exact EU
 have wt:=ab7 jp Pa bD;let⟨r,f1⟩:∃r,r=Y.w.heap.size:=⟨_,rfl⟩;let⟨R,hm⟩:∃R,R=Y.w.alloc (.mapIter (aa d) clock #[] clock):=⟨_,rfl⟩;have kx:¬Y.S ad r:=λh=>by have:=st.bM.iG r h;omega
 have d0:∀id cl,Y.h id≠aa (r,cl):=λid cl e=>by have:=(st.bM.dC id r cl e).1;omega
 have lc:∀z,Y.bx z≠aa r:=λz e=>by have:=(st.bM.blt z r e).1;omega
 have ho:d≠r:=λe=>d0 aZ 0 (e▸i5);have fd:bt≠r:=λe=>d0 v 0 (e▸ca);have j:=JG [A,u,q,F,x,O,Q,K,B,N,D,E] L.env;refine wp_seq (wp_region_list ?_);rw[f2];apply wl ul (e2:=Y.w) (a:=.value (s.eval ci)) (bA:=s.eval ci) (by simp[execOp,alt]) (.inl rfl);rw[lw];have v1:(s.put (aa A) (s.eval ci)).eval (.tmp A)=.map (aa d):=by rw[qw sp,NE]
 refine wl un (e2:=R) (a:=.value (.pointer (aa ⟨r,0,ae⟩))) (bA:=.pointer (aa ⟨r,0,ae⟩)) (by
  have:=run_range_map (P:=P) Y.w avK Rd avQ d i clock Op es;simp_all[execOp]) (.inl rfl) ?_
 rw[l0];apply wpList_nil;show Code.wp P (.block t7 _) _ _ _;let⟨co,he⟩:∃co,co=(s.put (aa A) (s.eval ci)).put (aa u) (.pointer (aa ⟨r,0,ae⟩)):=⟨_,rfl⟩;rw[<-he];have avI:St Y {env:=lI [A,u,q,F,x,O,Q,K,B,N,D,E] L.env,bx:=L.bx,hp:=L.hp} s.tmps:={bM:=st.bM,hp:=st.hp,env:=λz d5 h=>st.env z d5 (j.1 z d5 h),bx:=st.bx};have n7:St Y {env:=lI [A,u,q,F,x,O,Q,K,B,N,D,E] L.env,bx:=L.bx,hp:=L.hp} co.tmps:=by
  rw[he];exact(avI.qy (j.2 A (by simp))).qy (j.2 u (by simp))
 have d3:c0 Y.w R (λU=>U=r):=by rw[hm];exact c0.alloc _ _ _
 have ex:R.heap[bt]?=aa (.map g5 g3):=(d3.block bt (kY.1 hs).1 fd).trans hs;have hn:R.heap[d]?=aa (.map i clock):=(d3.block d (kY.1 es).1 ho).trans es;have ld:R.heap[r]?=aa (.mapIter (aa d) clock #[] clock):=by rw[hm,f1];exact heap_alloc_new _ _
 let⟨gt,hk,hj,hg,hh,n8,g7⟩:=JH (CW n7 d3 kx d0 lc) (U:=v) dl Fd (N:=bt) ca (e2:=R) (c0.refl _ _) rfl ex ke ls (f:=g1) (λ_=>rfl);have g6:Fr Y gt:=((Fr.refl Y).CW d3 (by omega)).trans g7;have g0:Pr Y L s [A,u,q,F,x,O,Q,K,B,N,D,E] v u c2 r d bt clock i ai az co R gt #[] g1 g5 g3 clock:={
  w:=hk,st:=n8,fr:=g6,h:=hj,S:=hg,bx:=hh
  size:=by grind[kp]
  defers:=by grind[nr]
  it:=by grind[qw,kp]
  g:=by grind[tR]
  iter:=ld,c1:=c5 _,src:=hn,CX:=ex,keys:=ke,bF:=ls
  now:=λf=>.inr ⟨λ_ _ _=>by simp,AM f⟩}
 clear n7 n8 g7 g6 ex hn ld hk hj hg hh v1;refine wp_block (wp_loop (λrt d7=>∃n seen V ec cs c1,Pr Y L s [A,u,q,F,x,O,Q,K,B,N,D,E] v u c2 r d bt clock i ai az rt d7 n seen V ec cs c1) (λ_ d7=>match d7.heap[r]? with|aa (.mapIter _ _ seen _)=>(leftOf i seen).size|_=>0) ⟨_,_,_,_,_,_,g0⟩ ?_);clear g0;rintro d6 W ⟨n,seen,V,ec,cs,c1,I⟩;obtain rfl:=I.w;have Lz:¬n.S ad r:=by rw[I.S];exact kx
 have LT:∀id cl,n.h id≠aa (r,cl):=by rw[I.h];exact d0
 have LE:∀z,n.bx z≠aa r:=by rw[I.bx];exact lc
 refine wp_seq (wp_region_list ?_);rw[ds];rcases Go.run_next_at (P:=P) n.w aig.type r d clock c1 seen i clock I.iter I.src Lc I.c1 with⟨Fn,ce⟩|⟨e,z4,w1,d1,ce⟩;refine wl g8 (e2:=n.w) (a:=.value (.tuple #[.bool ab])) (bA:=.tuple #[.bool ab]) (by simp[execOp,md,I.it,ce]) (.inl rfl) ?_;rw[f8];have v2:(d6.put (aa q) (.tuple #[.bool ab])).eval (.tmp q)=.tuple #[.bool ab]:=qw (by rw[I.size];exact g2)
 apply wl g9 (e2:=n.w) (a:=.value (.bool ab)) (bA:=.bool ab) (by simp[execOp,mk,v2,Instr.extract]) (.inl rfl);rw[f9];apply wpList_nil;show Code.wp P (.seq (.cond _ _ _) _) _ _ _;refine wp_seq (wp_cond_false (qw (by rw[kp,I.size];exact s2)) (wp_exit ?_));simp only[Exit.then,Exit.inBlock,if_true];have avX:=Go.all_seen i seen Fn;have z9:∀f,gi f V=gi f (ai.foldl (λaz lt=>oP lt.1 lt.2 az) az):=by
  intro f;rw[Po ai az H1];rcases I.now f with⟨aZ,d5,EQ,-,i4⟩|⟨GE,i4⟩;grind[gi,absurd,Pp,JD,ab2];cases AC:gi f ai with
  |none=>exact i4
  |some B=>
   let⟨f7,i6⟩:=JD AC;have av3:f7<Z ai:=(fM.1 i6).1;have av0:f7∈i.toList.map (·.born):=by rw[bD,iw];omega
   grind
 let⟨rx,X,bv,em,avV,ok,t8⟩:=JH I.st (U:=v) (hL:=.fm V) (Ps dl _) rfl (N:=bt) (by rw[I.h];exact ca) (e2:=n.w) (c0.refl _ _) rfl I.CX I.keys I.bF z9;simp only[IV]at ok;refine⟨rfl,rx,X,(ok.qy (j.2 q (by simp))).qy (j.2 F (by simp)),I.fr.trans t8,?_,?_⟩;rw[kp,kp,I.size];rw[nr,nr,I.defers];let⟨i1,avZ⟩:=Go.mem_left z4;let⟨a,v0,avW,i2,i3⟩:=wt e i1;simp only[kZ,b5,jM,or_false,not_or]at kl
 let⟨_,⟨So,ST,awh,awi,awj,awk,awl,awm,awn,awg⟩,_,_,⟨SW,_⟩,⟨WF,_⟩,⟨WP,_⟩,⟨abs,acc,_⟩,⟨acl,act,_⟩,⟨adc,add⟩,UV,_⟩:=kl;rw[i2,i3]at ce;let⟨c,eo⟩:∃c,c=Go.ChangeMaps.setBlock w1 r (.mapIter (aa d) clock (seen.push e.born) clock):=⟨_,rfl⟩;rw[<-eo]at ce;have M2:r<n.w.heap.size:=(kY.1 I.iter).1;have f4:w1.heap=n.w.heap:=by rcases d1 with rfl|rfl<;>rfl
 have d2:c0 n.w c (λU=>U=r):=by
  rw[eo];refine⟨by rcases d1 with rfl|rfl<;>rfl,by rcases d1 with rfl|rfl<;>rfl,by rcases d1 with rfl|rfl<;>exact⟨rfl,by first|exact c5 _|exact AB _⟩,by simp[Go.ChangeMaps.setBlock,f4],λU ww Hx=>?_⟩;simp only[Go.ChangeMaps.setBlock,f4];grind
 have f3:c.heap[d]?=aa (.map i clock):=(d2.block d (kY.1 I.src).1 ho).trans I.src;have le:c.heap[bt]?=aa (.map ec cs):=(d2.block bt (kY.1 I.CX).1 fd).trans I.CX;have f0:c.heap[r]?=aa (.mapIter (aa d) clock (seen.push e.born) clock):=by
  rw[eo];simp only[Go.ChangeMaps.setBlock,f4];rw[arw,if_pos rfl,if_pos M2]
 have z5:=Go.run_entry_at (P:=P) c r d clock seen i clock e f0 f3 i1 GT;rw[i2,i3]at z5;apply wl g8 (e2:=c) (a:=.value (.tuple #[.bool ad,.int .i64 a,.int .i64 v0])) (bA:=.tuple #[.bool ad,.int .i64 a,.int .i64 v0]) (by simp[execOp,md,I.it,ce]) (.inl rfl);rw[f8];let⟨a3,aj⟩:∃a3,a3=d6.put (aa q) (.tuple #[.bool ad,.int .i64 a,.int .i64 v0]):=⟨_,rfl⟩;rw[<-aj]
 have aux:a3.tmps.size=s.tmps.size:=by rw[aj,kp,I.size]
 have avL:a3.eval (.tmp q)=.tuple #[.bool ad,.int .i64 a,.int .i64 v0]:=by rw[aj];exact qw (by rw[I.size];exact g2)
 apply wl g9 (e2:=c) (a:=.value (.bool ad)) (bA:=.bool ad) (by simp[execOp,mk,avL,Instr.extract]) (.inl rfl);rw[f9];let⟨a4,aA⟩:∃a4,a4=a3.put (aa F) (.bool ad):=⟨_,rfl⟩;rw[<-aA];have m5:a4.tmps.size=s.tmps.size:=by rw[aA,kp,aux]
 apply wpList_nil;show Code.wp P (.seq (.cond _ _ _) _) _ _ _;refine wp_seq (wp_cond_true (by grind[qw]) (wp_skip ?_));show Code.wp P (.block agg _) _ _ _;refine wp_block (wp_seq (wp_region_list ?_));rw[aR];have Pi:a4.eval (.tmp u)=.pointer (aa ⟨r,0,ae⟩):=by
  rw[aA,qx ST,aj,qx So,I.it]
 apply wl up (e2:=c) (a:=.value (.tuple #[.int .i64 a,.int .i64 v0])) (bA:=.tuple #[.int .i64 a,.int .i64 v0]) (by simp_all[execOp]) (.inl rfl);rw[mp];let⟨a5,aE⟩:∃a5,a5=a4.put (aa x) (.tuple #[.int .i64 a,.int .i64 v0]):=⟨_,rfl⟩;rw[<-aE];have m6:a5.tmps.size=s.tmps.size:=by rw[aE,kp,m5]
 have op:a5.eval (.tmp x)=.tuple #[.int .i64 a,.int .i64 v0]:=by rw[aE];exact qw (by rw[m5];exact ty)
 apply wl us (e2:=c) (a:=.value (.int .i64 a)) (bA:=.int .i64 a) (by simp[execOp,and,op,Instr.extract]) (.inl rfl);rw[ms];let⟨a9,ak⟩:∃a9,a9=a5.put (aa O) (.int .i64 a):=⟨_,rfl⟩;rw[<-ak];have m7:a9.tmps.size=s.tmps.size:=by rw[ak,kp,m6]
 have avM:a9.eval (.tmp x)=.tuple #[.int .i64 a,.int .i64 v0]:=by rw[ak,qx SW,op]
 apply wl ut (e2:=c) (a:=.value (.int .i64 v0)) (bA:=.int .i64 v0) (by simp[execOp,app,avM,Instr.extract]) (.inl rfl);rw[mt];let⟨ba,am⟩:∃ba,ba=a9.put (aa Q) (.int .i64 v0):=⟨_,rfl⟩;rw[<-am];have m8:ba.tmps.size=s.tmps.size:=by rw[am,kp,m7]
 have avN:ba.eval (.tmp O)=.int .i64 a:=by rw[am,qx WF,ak];exact qw (by rw[m6];exact t0)
 apply wl v4 (e2:=c) (a:=.value (.int .i64 a)) (bA:=.int .i64 a) (by simp[execOp,arm,avN]) (.inl rfl);rw[m0];let⟨be,au⟩:∃be,be=ba.put (aa K) (.int .i64 a):=⟨_,rfl⟩;rw[<-au];have m9:be.tmps.size=s.tmps.size:=by rw[au,kp,m8]
 have avO:be.eval (.tmp Q)=.int .i64 v0:=by rw[au,qx WP,am];exact qw (by rw[m7];exact t1)
 apply wl v5 (e2:=c) (a:=.value (.int .i64 v0)) (bA:=.int .i64 v0) (by simp[execOp,arr,avO]) (.inl rfl);rw[m1];let⟨bi,ax⟩:∃bi,bi=be.put (aa B) (.int .i64 v0):=⟨_,rfl⟩;rw[<-ax];have ne:bi.tmps.size=s.tmps.size:=by rw[ax,kp,m9]
 apply wpList_nil;show Code.wp P (.region _ _ _) _ _ _;apply wp_region_list;rw[cc];have os:bi.eval c2=.map (aa bt):=by
  rw[ax,tR J (by simp),au,tR J (by simp),am,tR J (by simp),ak,tR J (by simp),aE,tR J (by simp),aA,tR J (by simp),aj,tR J (by simp),I.g]
 apply wl v6 (e2:=c) (a:=.value (.map (aa bt))) (bA:=.map (aa bt)) (by simp[execOp,ask,os]) (.inl rfl);rw[m2];let⟨bm,af⟩:∃bm,bm=bi.put (aa N) (.map (aa bt)):=⟨_,rfl⟩;rw[<-af];have nl:bm.tmps.size=s.tmps.size:=by rw[af,kp,ne]
 have u8:bm.eval (.tmp K)=.int .i64 a:=by rw[af,qx acc,ax,qx abs,au];exact qw (by rw[m8];exact t2)
 apply wl v9 (e2:=c) (a:=.value (.int .i64 a)) (bA:=.int .i64 a) (by simp[execOp,atR,u8]) (.inl rfl);rw[m3];let⟨br,ah⟩:∃br,br=bm.put (aa D) (.int .i64 a):=⟨_,rfl⟩;rw[<-ah];have n6:br.tmps.size=s.tmps.size:=by rw[ah,kp,nl]
 have avP:br.eval (.tmp B)=.int .i64 v0:=by rw[ah,qx act,af,qx acl,ax];exact qw (by rw[m9];exact t3)
 apply wl wd (e2:=c) (a:=.value (.int .i64 v0)) (bA:=.int .i64 v0) (by simp[execOp,at8,avP]) (.inl rfl);rw[m4];let⟨C,ac⟩:∃C,C=br.put (aa E) (.int .i64 v0):=⟨_,rfl⟩;rw[<-ac];have avH:C.tmps.size=s.tmps.size:=by rw[ac,kp,n6]
 have awJ:C.eval (.tmp N)=.map (aa bt):=by rw[ac,qx add,ah,qx adc,af];exact qw (by rw[ne];exact sz)
 have awK:C.eval (.tmp D)=.int .i64 a:=by rw[ac,qx UV,ah];exact qw (by rw[nl];exact s0)
 have awL:C.eval (.tmp E)=.int .i64 v0:=by rw[ac];exact qw (by rw[n6];exact s1)
 let⟨el,d8,Ok,i8,lm⟩:=ab6 (P:=P) Or Nm le I.keys I.bF a v0;let⟨T,eq⟩:∃T:World,T={c with heap:=c.heap.setIfInBounds bt (.map el d8)}:=⟨_,rfl⟩;rw[<-eq]at Ok;apply wl gc (e2:=T) (a:=.skip) (bA:=undef) (by simp_all[execOp]) (.inr ⟨rfl,rfl⟩);rw[at9];apply wpList_nil;have z0:bt<c.heap.size:=(kY.1 le).1;have f5:c0 c T (λcz=>cz=bt):=by
  rw[eq];refine⟨rfl,rfl,⟨rfl,c5 _⟩,by simp,λU ww Hx=>?_⟩;show(c.heap.setIfInBounds bt _)[U]?=_;grind
 have li:T.heap[bt]?=aa (.map el d8):=by
  rw[eq];show(c.heap.setIfInBounds bt _)[bt]?=_;rw[arw,if_pos rfl,if_pos z0]
 have i7:T.heap[r]?=aa (.mapIter (aa d) clock (seen.push e.born) clock):=(f5.block r (kY.1 f0).1 (Cq fd)).trans f0;have Ne:T.heap[d]?=aa (.map i clock):=(f5.block d (kY.1 f3).1 xs).trans f3;let⟨gQ,g4,t4,t5,t6,ol,t9⟩:=JH (CW I.st d2 Lz LT LE) (U:=v) (hL:=.fm V) (Ps dl _) rfl (N:=bt) (by show n.h v=_;rw[I.h];exact ca) (e2:=T) f5 rfl li i8 lm (f:=oP a v0 V) (λ_=>rfl);simp only[IV]at ol
 have av2:=λz Fi=>j.2 z Fi;have avJ:St gQ {env:=lI [A,u,q,F,x,O,Q,K,B,N,D,E] L.env,bx:=L.bx,hp:=L.hp.set v (.fm (oP a v0 V))} C.tmps:=by
  have pl:=ol.qy (a:=d6) (u:=.tuple #[.bool ad,.int .i64 a,.int .i64 v0]) (j.2 q (by simp));rw[<-aj]at pl;have pp:=pl.qy (u:=.bool ad) (j.2 F (by simp));rw[<-aA]at pp;have ps:=pp.qy (u:=.tuple #[.int .i64 a,.int .i64 v0]) (j.2 x (by simp));rw[<-aE]at ps;have pu:=ps.qy (u:=.int .i64 a) (j.2 O (by simp));rw[<-ak]at pu;have qr:=pu.qy (u:=.int .i64 v0) (j.2 Q (by simp));rw[<-am]at qr
  have rc:=qr.qy (u:=.int .i64 a) (j.2 K (by simp));rw[<-au]at rc;have rd:=rc.qy (u:=.int .i64 v0) (j.2 B (by simp));rw[<-ax]at rd;have rg:=rd.qy (u:=.map (aa bt)) (j.2 N (by simp));rw[<-af]at rg;have ro:=rg.qy (u:=.int .i64 a) (j.2 D (by simp));rw[<-ah]at ro;have pm:=ro.qy (u:=.int .i64 v0) (j.2 E (by simp));rw[<-ac]at pm;exact pm
 refine⟨⟨gQ,seen.push e.born,oP a v0 V,el,d8,clock,{
  w:=g4,st:=avJ,fr:=(I.fr.CW d2 (by omega)).trans t9,h:=t4.trans I.h,S:=t5.trans I.S,bx:=t6.trans I.bx
  size:=avH
  defers:=by
   show C.defers=s.defers;rw[ac,nr,ah,nr,af,nr,ax,nr,au,nr,am,nr,ak,nr,aE,nr,aA,nr,aj,nr,I.defers]
  it:=by
   show C.eval _=_;grind[qx]
  g:=by
   show C.eval _=_;rw[ac,tR J (by simp),ah,tR J (by simp),af,tR J (by simp),os]
  iter:=i7,c1:=c5 _,src:=Ne,CX:=li,keys:=i8,bF:=lm
  now:=λf=>?_}⟩,?_⟩
 by_cases f6:a=f;grind[Ft];rw[Ft,if_neg f6];rcases I.now f with⟨f7,v1,i6,av5,Eq⟩|⟨GE,Eq⟩;grind;grind;show(match T.heap[r]? with|aa (.mapIter _ _ seen _)=>(leftOf i seen).size|_=>0)<(match n.w.heap[r]? with|aa (.mapIter _ _ seen _)=>(leftOf i seen).size|_=>0);rw[i7,I.iter];simp_all[Go.left_shrinks]
end
variable{mA:Code}{kh:AS}{jv:fg}{gC:List Obj}
section
variable{P:Program}{G:Nat->Option (List AV)}{An:Nat->bR}{X:fq}
theorem ab9(m:St Y L s.tmps){r:ResultVar}{v:AV}(h:xE P L r=aa v):
 ∃n,((match r with|.tmp a=>pure (s.tmps.getD a undef)|.cell c a=>do loadVar a (<-asAddr (s.tmps.getD c undef))):Sem Value).run P Y.w=.ok n Y.w/\R Y v n:=by
 have env:∀a,RT Y ((look a L.env).getD .undef) (s.tmps.getD a undef):=by
  intro a;rcases l:look a L.env with _|v;exact .inl (.undef _);exact m.env a v l
 cases r with
 |tmp a=>
  simp[xE]at h;subst h;simp_all[R.pl]
 |cell c a=>
  simp only[xE,dj]at h;obtain⟨E,h,rfl⟩:=h;have f:=env c;unfold oR at h;rcases j:pD L ((look c L.env).getD .undef)with _|q;grind;let⟨i,off⟩:=q;simp only[j]at h;split at h
  case isFalse=>simp at h
  case isTrue d=>
  simp at h;subst h;let⟨y,g,vs,A,B,x,t,D,p,o⟩:=Jj m f j;let⟨z,k⟩:=sH.1 d.2.2;let⟨b,e⟩:=info_of_underlying k;rw[jw e]at d;have l:Z ((i.drop off).take b.size)=b.size:=by simp;omega
  have u:=Jh (P:=P) t (g+off) e k (by omega) d.2.1;refine⟨if fp P a then .agg ((vs.toList.drop (g+off)).take b.size).toArray else((vs.toList.drop (g+off)).take b.size).headD undef,by simp only[x,asAddr,Sem.run_bind,Sem.run_pure,Result.andThen_ok,u],R.pl (.inl ?_)⟩;rw[jw e];refine Fj ?_ ?_ (by grind);have C:=RL.take b.size (RL.drop off p);grind[k5,List.drop_drop];intro F f;apply o
  rw[<-vM,<-k5 _ (Z i) _ _ (by omega)]at f;grind
theorem JI{a:ar}{b:AS}{d:Act}(i:St a b d.tmps):∀{rs:List ResultVar}{vs:List AV},vZ P b rs=aa vs->
 ∃c,(rs.mapM (λr=>match r with|.tmp e=>pure (d.tmps.getD e undef)|.cell j e=>do loadVar e (<-asAddr (d.tmps.getD j undef))):Sem (List Value)).run P a.w=.ok c a.w/\RL a vs c
 |[],vs,h=>by
  simp[vZ]at h;subst h;exact⟨[],by simp,.nil⟩
 |r::rs,vs,h=>by
  simp only[vZ]at h;rcases f:xE P b r with _|v;grind;rcases g:vZ P b rs with _|p;grind;simp[f,g]at h;subst h;let⟨m,n,k⟩:=ab9 i f;let⟨c,o,l⟩:=JI i g;refine⟨m::c,?_,.cons _ _ _ _ k l⟩;simp_all
theorem JJ(l:St Y L s.tmps){fn:Func}{r:AV}(h:xF P fn L=aa r):∃g,(results fn s.tmps).run P Y.w=.ok g Y.w/\R Y r g:=by
 unfold xF at h;have key:∀b:List Value,(fn.results.toList.mapM (λr=>match r with|.tmp a=>pure (s.tmps.getD a undef)|.cell c a=>do loadVar a (<-asAddr (s.tmps.getD c undef))):Sem (List Value)).run P Y.w=.ok b Y.w->
  (results fn s.tmps).run P Y.w=.ok (if h:b.toArray.size=1 then b.toArray[0]else .tuple b.toArray) Y.w:=by
  intro b e;unfold results;rw[Array.mapM_eq_mapM_toList];simp only[Sem.run_bind,map_eq_pure_bind,Sem.run_pure];have k:=e
  rw[show(λr:ResultVar=>(match r with|.tmp a=>pure (s.tmps.getD a undef)|.cell c a=>do loadVar a (<-asAddr (s.tmps.getD c undef)):Sem Value))=(λm:ResultVar=>(match m with|.tmp a=>pure (s.tmps.getD a undef)|.cell c a=>do loadVar a (<-asAddr (s.tmps.getD c undef)):Sem Value))from rfl]at k
  apply Eq.trans (congrArg (λr=>(Result.andThen (Result.andThen r λs i=>Result.ok s.toArray i) λs i=>Result.ok (if h:s.size=1 then s[0]else Value.tuple s) i)) k);rfl
 split at h;rename_i g f;simp at h;subst h;let⟨b,e,d⟩:=JI l f;cases d with
 |cons _ u _ v q n=>
  cases n
  grind
 rename_i vs p f;simp at h;subst h;let⟨b,e,d⟩:=JI l f;have o:Z b≠1:=by
  intro j;rw[d.length]at j;rcases vs with _|⟨m,t⟩;simp at j;simp_all
 refine⟨.tuple b.toArray,by grind,.aB _ _ (by omega)⟩;simp at h
theorem RL.nU{e:ar}:∀(k:Nat){c:List AV}{d:List Value},RL e c d->∀(pre:List Value)(post:List Value),Z pre=k->∀a b,look a (nU k c)=aa b->RT e b ((pre++d++post).toArray.getD a undef)
 |_,_,_,.nil,_,_,_,a,b,h=>by simp[AM.nU,look]at h
 |k,_,_,.cons l j c d m i,pre,post,g,a,b,h=>by
  simp only[AM.nU,look]at h;split at h;rename_i f;subst f;simp at h;subst h
  left
  simp_all;have:=RL.nU (k+1) i (pre++[j]) post (by simp[g]) a b h;grind
theorem JK{E:ar}{args:List AV}(g:Good E)(a:RL E args hK)(n:Nat):St E {env:=nU 0 args,bx:=[],hp:=E.H} (hK.toArray++Array.replicate (n -hK.toArray.size) undef)where
 bM:=g
 hp:=rfl
 env:=λk v h=>by
  have:=RL.nU 0 a [] (db (n -hK.toArray.size) undef) rfl k v h;have e:hK.toArray++Array.replicate (n -hK.toArray.size) undef=([]++hK++db (n -hK.toArray.size) undef).toArray:=by
   rw[<-oB];simp
  rw[e];exact this
 bx:=by grind[look]
variable(P G An X)
def l8(c:Array Oper)(h:List Oper)(i j:AS):Prop:=
 ∀(a:ar)(b:Act)(Q:Exit->Act->World->Prop)(d:List Nat),gG c d=h->(∀g∈d,g<c.size)->St a i b.tmps->du G a->uO b.tmps.size c=ad->(∀e f,nW a j b e f->Q .normal e f)->wpOps P c Q d b a.w
def MC(c:Code)(e:AS)(d:fg)(f:AS):Prop:=
 ∀(a:ar)(b:Act),St a e b.tmps->du G a->gH b.tmps.size c=ad->CT P c (Fz a b d f) b a.w
variable{P G An X}
theorem JL:l8 P G o [] L L:=λa b Q g d e f _ _ c=>by
 have:=Pg d e;subst this;exact c b a.w ⟨a,rfl,f,Fr.refl a,rfl,rfl⟩
theorem Pt(p:ga o L B=aa ab)(r:l8 P G o ly (gj B.dst (.aB [],L)) n):l8 P G o (B::ly) L n:=λa d Q x i k c f l g=>by
 obtain⟨w,s,rfl,b,j⟩:=CR i k;have q:=CQ c p;have h:=(AX l b).1;simp only[wpOps,b,q,eZ,if_false];have t:=c.CP (fX:=B.dst) (c:=.aB []) (bA:=undef) (.inl (.aB [] #[] .nil)) h;exact r a (d.put B.dst undef) Q s j (by grind) t f (by grind[kp])
  (λe u m=>g e u (m.trans (Fr.refl a) (kp _ _ _) (nr _ _ _)))
theorem JM{f:bR}{r:AV×AS}(x:ga o L B=aa ad)(t:aV P G f L B.dst B.op=aa r)(z:l8 P G o ly (gj B.dst r) n):l8 P G o (B::ly) L n:=λH h Q K l p a c s j=>by
 obtain⟨J,A,rfl,d,m⟩:=CR l p;have y:=CQ a x;have k:=(AX s d).1;let⟨O,N⟩:=r;let⟨M,E,g,v,q,w,D,b⟩:=O9 a c t;simp only[wpOps,d,y,if_true];refine .inl ?_;have C:=D.CP (fX:=B.dst) w k;have e:=z g (h.put B.dst E) Q A m (by grind) C (c.mono b a.bM) (by grind[kp])
  (λi F u=>j i F (u.trans b (kp _ _ _) (nr _ _ _)))
 unfold Oper.wp;rw[v];rcases q with rfl|⟨rfl,rfl⟩;exact e;exact e
theorem Pu{args d:List AV}{g r:AV}(R:ga o L B=aa ad)(I:B.op=.call dP)(x:ja P G L dP=aa (U,args))
 (E:c9≠.res)(v:qt L c9 args d)(K:jy P G U d [] g M)(ai:aM M .res g r)(F:c9=.cb->NB r)(T:l8 P G o ly (gj B.dst (r,L)) n):l8 P G o (B::ly) L n:=λi k Q au A D a b H s=>by
 obtain⟨am,V,rfl,f,C⟩:=CR A D;have S:=CQ a R;have y:=(AX H f).1;let⟨w,z⟩:=K;let⟨Y,N,O⟩:=Pf a b I x w;simp only[wpOps,f,S,if_true];refine .inl ?_;unfold Oper.wp;rw[N,Oper.upon_enter];apply Calls.mono (z (i.ep c9) Y (Ph a.bM c9) (λ_=>rfl) rfl (Pk a E v O) (b.Jd (Pj c9)));intro m h c;cases m with
 |returned Z=>
  let⟨ac,aj,p,q,ah,u⟩:=c;let⟨j,ak,X,e,t⟩:=Pl a p q u (by grind) F;have W:=X.CP (fX:=B.dst) (.inl t) y;have:=T j (k.put B.dst Z) Q V C (by grind) W (b.mono e a.bM) (by grind[kp])
   (λl h J=>s l h (J.trans e (kp _ _ _) (nr _ _ _)))
  grind
 |panicked _=>exact c.elim
 |outgrown=>exact c.elim
theorem Pv{args:List AV}{r:AV}(K:ga o L B=aa ad)(F:B.op=.call dP)(x:ja P G L dP=aa (U,args))
 (H:jy P G U (args.map AV.pl) L.hp r M)(O:l8 P G o ly (gj B.dst (r.pl,{L with hp:=M})) n):l8 P G o (B::ly) L n:=λd k Q af A D a b E t=>by
 obtain⟨ac,S,rfl,f,C⟩:=CR A D;have N:=CQ a K;have y:=(AX E f).1;let⟨w,z⟩:=H;let⟨V,I,J⟩:=Pf a b F x w;simp only[wpOps,f,N,if_true];refine .inl ?_;unfold Oper.wp;rw[I,Oper.upon_enter];apply Calls.mono (z d.zc V (abZ a.bM) (λ_=>rfl) a.hp.symm (RL.gR (ab0 d) J.pl) (b.Jd rfl));intro m i c;cases m with
 |returned h=>
  let⟨W,Y,p,q,s,v⟩:=c;let⟨j,Z,g,e,u⟩:=ab1 a p q v;rw[s]at g;have T:=g.CP (fX:=B.dst) (c:=r.pl) (.inl (R.pl (.inl u))) y;have:=O j (k.put B.dst h) Q S C (by grind) T (b.mono e a.bM) (by grind[kp])
   (λl i hp=>t l i (hp.trans e (kp _ _ _) (nr _ _ _)))
  grind
 |panicked _=>exact c.elim
 |outgrown=>exact c.elim
theorem Pw(a:Array Oper):∀n,n<=a.size->gG a (ay n)=a.toList.take n
 |0,_=>by simp[gG]
 |n+1,h=>by
  have b:=Pw a n (by omega);grind[gG,List.range_succ,List.take_succ_eq_append_getElem]
theorem JN(a:Array Oper):gG a (ay a.size)=a.toList:=by
 simp[Pw,gP]
theorem Px{a:bR}{id:Nat}(j:l8 P G o o.toList L n):MC P G (.region id o ab) L .norm (sU a n):=λb d k h m=>by
 apply wp_region;apply j b d _ (ay o.size) (JN o) (by grind) k h (by grind[gH]);intro l p i;let⟨c,e,f,g⟩:=i;exact⟨rfl,c,e,f.mI _ _,g⟩
theorem Py{i:bR}(s:P.follows .mixedOrders=ad){id:Nat}(v:∀g,pF o [] g->l8 P G o (gG o g) L n):MC P G (.region id o ad) L .norm (sU i n):=λa c b r t=>by
 have f:uO c.tmps.size o=true:=by simpa[gH]using t
 refine wp_region_draw λy=>?_;simp only[Region.schedule,s,AD,if_true];have e:=Pn f y;let⟨d,k⟩:=ar.Jl (e2:={a.w with drawn:=a.w.drawn+1}) b.bM ⟨rfl,rfl,⟨rfl,AB _⟩,c5 _,λ_ _ _=>rfl⟩;have x:St (a.wd {a.w with drawn:=a.w.drawn+1}) L c.tmps:=by
  have:=St.mono b d k (λ_ _ h=>h) (λ_ _ _=>rfl);simpa[ar.wd,<-b.hp]using this
 apply v _ e _ c _ _ rfl (CV e) x (r.mono d b.bM) f;intro A z u;let⟨j,l,m,p,q⟩:=u;exact⟨rfl,j,l,m.mI _ _,d.trans p,q⟩
theorem Pz(h:MC P G cz L .norm n)(k:MC P G mA n jv kh):MC P G (.seq cz mA) L jv kh:=λe g d b c=>by
 simp only[gH,bc]at c;refine wp_seq (wp_mono (h e g d b c.1).wp ?_);rintro j i w1 ⟨rfl,f,rfl,p,a,o,l⟩;apply wp_mono (k f i p (b.mono a d.bM) (by grind)).wp;rintro j q r ⟨rfl,m⟩;cases jv<;>exact⟨rfl,m.trans a o l⟩
theorem PA(h:MC P G cz L jv n)(j:jv≠.norm):MC P G (.seq cz mA) L jv n:=λc d f e a=>by
 simp only[gH,bc]at a;refine wp_seq (wp_mono (h c d f e a.1).wp ?_);rintro i g w1 ⟨rfl,b⟩;cases jv with
 |norm=>grind
 |exit id=>exact⟨rfl,b⟩
 |ret=>exact⟨rfl,b⟩
theorem PC{b:bR}(g:l G L m=.bool T)(h:MC P G (if T then cz else mA) (qu b m L) jv n):MC P G (.cond m cz mA) L jv n:=λf c e d a=>by
 simp only[gH,bc]at a;have i:=R.y8 (g▸dH e d m);apply wp_cond i;have j:gH c.tmps.size (if T then cz else mA)=true:=by cases T;exact a.2;exact a.1
 exact(h f c (e.drop b m) d j).wp
theorem PE{id:Nat}(h:MC P G cz L jv n)(j:jv≠.exit id):MC P G (.block id cz) L jv n:=λc d f e b=>by
 simp only[gH]at b;refine wp_block (wp_mono (h c d f e b).wp ?_);rintro i g w1 ⟨rfl,a⟩;cases jv with
 |norm=>exact⟨rfl,a⟩
 |exit k=>
  simp only[fg.Fy,Exit.inBlock];rw[if_neg (by grind)];exact⟨rfl,a⟩
 |ret=>exact⟨rfl,a⟩
theorem PG{id:Nat}(h:MC P G cz L (.exit id) n):MC P G (.block id cz) L .norm n:=λb c f d a=>by
 simp only[gH]at a;refine wp_block (wp_mono (h b c f d a).wp ?_);rintro i g w1 ⟨rfl,e⟩;simp only[fg.Fy,Exit.inBlock,if_true];exact⟨rfl,e⟩
theorem PH(h:MC P G cz L .norm n)(m:MC P G (.loop cz) (Fc L n) jv kh):MC P G (.loop cz) L jv kh:=λi a g e r=>by
 have s:gH a.tmps.size cz=true:=by simpa[gH]using r
 intro b f c;obtain⟨y,k,w1,⟨rfl,j,rfl,w,d,v,q⟩,o⟩:=(h i a g e s).wp b (.inLoop cz::f) c;have u:=m j k (w.mI _ _) (e.mono d g.bM) (by grind);obtain⟨z,l,x,⟨rfl,t⟩,p⟩:=u b f c;exact⟨_,l,x,⟨rfl,t.trans d v q⟩,.of_steps (Steps.trans o (.one step_inLoop)) p⟩
theorem PI(h:MC P G cz L jv n)(i:jv≠.norm):MC P G (.loop cz) L jv n:=λb a o f j=>by
 have k:gH a.tmps.size cz=true:=by simpa[gH]using j
 intro d m e;obtain⟨p,c,w1,⟨rfl,l⟩,g⟩:=(h b a o f k).wp d (.inLoop cz::m) e;refine⟨_,c,w1,⟨rfl,l⟩,.pass (x:=.inLoop cz) rfl (λ_ _=>.inl ?_) g⟩;cases jv<;>simp[fg.Fy]at i⊢
theorem PJ(h:MC P G cz L jv n):MC P G (.scope cz) L jv n:=λb c f d a=>by
 simp only[gH]at a;refine wp_scope_straight (wp_mono (h b c f d a).wp ?_);rintro i g w1 ⟨rfl,e⟩;cases jv<;>exact⟨rfl,e⟩
theorem PK{fn:Func}{args:List AV}{r:AV}(k:P.funcs[U]?=aa fn)(j:fn.body=aa cz)(s:(fn.name== "runtime.NumGoroutine")=ab)(A:Z args<=fn.ntmps)(B:gH fn.ntmps cz=ad)
 (h:MC P G cz {env:=nU 0 args,bx:=[],hp:=M} jv L)(t:jv=.norm\/jv=.ret)(u:xF P fn L=aa r):jy P G U args M r L.hp:=by
 refine⟨⟨fn,cz,k,j,s⟩,λe b g z o i n=>?_⟩;apply calls_of_wp k j;have D:(b.toArray++Array.replicate (fn.ntmps -b.toArray.size) undef).size=fn.ntmps:=by
  have:=i.length;simp;omega
 have l:=JK g i fn.ntmps;rw[o]at l;have v:=(h e {tmps:=b.toArray++Array.replicate (fn.ntmps -b.toArray.size) undef,defers:=[]} l n (by grind)).wp;apply wp_mono v;rintro y f w1 ⟨rfl,a,rfl,d,m,C,q⟩;let⟨c,x,p⟩:=JJ d u;have hp:f.defers=[]/\∃c,(results fn f.tmps).run P a.w=.ok c a.w/\CS e L.hp r (.returned c) a.w:=⟨q,c,x,a,rfl,m,d.bM,d.hp.symm,p⟩;rcases t with rfl|rfl<;>exact hp
theorem PM{g:Operand}(a:CB P cz=aa (m,g,bq))(c:xv (l G L m) (l G L g) L.hp=aa M):MC P G cz L .norm {env:=lI bq L.env,bx:=L.bx,hp:=M}:=λf i e b d=>by
 have h:=ab8 a c e b d;cases cz with
 |loop j=>cases a
 |_=>exact h
theorem aca(A:P.follows .mixedOrders=ad)(z:∀U args M r gC,X U args M r gC->jy P G U args M r gC){args:List AV}{r:AV}(h:k1 P G An X U args M r gC):jy P G U args M r gC:=by
 refine k1.rec (motive_1:=λd x y c l _=>l8 P G x y c l) (motive_2:=λd m c n l _=>MC P G m c n l) (motive_3:=λU args M r gC _=>jy P G U args M r gC)
  ?_ ?_ ?_ ?_ ?_ ?_ ?_ ?_ ?_ ?_ ?_ ?_ ?_ ?_ ?_ ?_ ?_ ?_ ?_ ?_ ?_ ?_ ?_ h
 grind[JL];grind[Pt];grind[JM];grind[Pu];grind[Pv];intro d c a k b e f;exact wp_skip ⟨rfl,a,rfl,b,Fr.refl a,rfl,rfl⟩;intro d w c a k b e f;exact wp_label ⟨rfl,a,rfl,b,Fr.refl a,rfl,rfl⟩;grind[id,Px];grind[id,Py];grind[Pz];grind[PA];grind[PC];grind[id,PE];grind[id,PG];grind[PH];grind[PI];intro d id c a k b e f;exact wp_exit ⟨rfl,a,rfl,b,Fr.refl a,rfl,rfl⟩
 intro d c a k b e f;exact wp_ret ⟨rfl,a,rfl,b,Fr.refl a,rfl,rfl⟩;grind[PJ];intro d k c C l n s p t _ v a o b e f;exact v a o ⟨b.bM,t.trans b.hp,λi j h=>b.env i j (s i j h),λi j h=>b.bx i j (p i j h)⟩ e f;intro d m c B g w gC q u;exact PM q u;grind[PK];grind
end
inductive Cl where
 |pure|rd|jb|box
 deriving DecidableEq
def AY(a:Program)(b:Array TypeId):Cl:=
 match(b[0]?).bind a.underlying with
 |aa (.slice _)|aa .string|aa (.array _ _)=>.pure
 |_=>.rd
def aC(d:Program)(b:bR)(e:Oper->Bool)(a:Oper):Cl:=
 match a.op with
 |.move _|.pick ..|.build ..|.binOp ..|.unOp ..|.convert ..|.makeInterface ..|.makeFunc ..|.field ..|.index ..|.extract ..|.typeAssert ..=>.pure
 |.assign _=>if(a.dst.bind (look · b.acc)).isSome then .jb else .pure
 |.buildSlice _ f _=>if f≠0/\a.dst.any (· ∈b.own)=ad then .jb else .pure
 |.load ..|.nilCheck _|.fieldAddr ..|.indexAddr ..|.lookup ..|.slice ..=>.rd
 |.alloc _=>if a.dst.any (· ∈b.lb)then .box else .jb
 |.box ..=>if a.dst.any (· ∈b.lb)then .box else if a.dst.any (· ∈b.own)then .jb else .pure
 |.call c=>
  match c.callee with
  |.builtin .len=>AY d c.argTypes
  |.builtin .min|.builtin .max=>.pure
  |.builtin _=>.jb
  |_=>if e a then .jb else .rd
 |_=>.jb
variable{cH:Oper -> Bool}
section
variable{P:Program}{G:Nat->Option (List AV)}{A:bR}
theorem acb(h:∀a,m=.tmp a->look a n.env=look a L.env):l G n m=l G L m:=by
 cases m with
 |tmp a=>grind[l]
 |_=>rfl
theorem acd{a:AV}(c:n.hp=L.hp)(d:∀b off,a=.lp b off->look b n.bx=look b L.bx):pD n a=pD L a:=by
 cases a<;>simp[pD,c]
 grind
theorem PN{b:AV}(d:n.hp=L.hp)(c:∀a off,b=.lp a off->look a n.bx=look a L.bx):oR P n u b=oR P L u b:=by
 simp[oR,acd d c]
theorem JO{a:AV}(b:n.hp=L.hp):mJ n U a=mJ L U a:=by
 simp_all[mJ]
theorem ace{a:AV}(b:n.hp=L.hp):vT P n u a U=vT P L u a U:=by
 simp[vT,JO b]
theorem acf{c b:AV}(a:n.hp=L.hp):rG P n u c b=rG P L u c b:=by
 unfold rG;simp only[JO a,a]
theorem acg{a:AV}(b:n.hp=L.hp):vV n a=vV L a:=by
 simp[vV,b]
theorem ach{c b:AV}{ok:Bool}(a:n.hp=L.hp):uM P n u c b ok=uM P L u c b ok:=by
 simp[uM,acg a,a]
theorem PQ{a:AV}(b:n.hp=L.hp):l7 P n u a=l7 P L u a:=by
 simp[l7,b]
theorem aci{a:AV}{c b:Option AV}(d:n.hp=L.hp):nm P n u a c b=(nm P L u a c b).map λr=>(r.1,n):=by
 unfold nm;cases a with
 |aq=>
  grind
 |dG=>
  grind
 |str e=>
  grind
 |sl f h=>
  simp only
  repeat' split
  all_goals grind
 |q id g off len=>
  simp only[d]
  repeat' split
  all_goals grind
 |_=>rfl
def Ag(c:Array Oper)(b:Oper)(d e:AS):Prop:=∀a∈b.looksAt c,look a e.env=look a d.env
theorem Ag.op{g:Array Oper}{c:Oper}{d e:AS}(h:Ag g c d e):∀a∈c.op.operands,l G e a=l G d a:=λa i=>
 acb λb f=>h b (by
  subst f;exact OA _ (xr.2 ⟨.tmp b,by grind,rfl⟩))
theorem Ag.wanted(h:Ag o B L n):ga o n B=ga o L B:=by
 unfold ga;rcases b:B.guard with _|a;rfl;let⟨d,w⟩:=a;simp only;rcases c:(o[d]?).bind (·.dst)with _|k;rfl;simp only;rw[h k (List.mem_append_right _ (by simp[b,c]))]
def oY(d:Array Oper)(c:Oper)(e:AS)(b:Nat):Prop:=∃a∈c.looksAt d,∃off,look a e.env=aa (.lp b off)
theorem acj{off:Nat}(h:l G L m=.lp U off):∃c,m=.tmp c/\look c L.env=aa (.lp U off):=by
 cases m with
 |tmp c=>
  simp only[l]at h;rcases e:look c L.env with _|v;grind;grind
 |const v=>
  simp only[l]at h;rcases b:rF v with _|a;grind;simp[b]at h;subst h;exfalso;unfold rF at b;split at b;simp at b;unfold ofValue at b;grind
 |global g=>
  grind[l]
 |func d=>simp[l]at h
theorem oY.of(c:m∈B.op.operands){off:Nat}(h:l G L m=.lp U off):oY o B L U:=by
 obtain⟨a,rfl,b⟩:=acj h;exact⟨a,OA _ (xr.2 ⟨.tmp a,by grind,rfl⟩),off,b⟩
def jz(a:AS)(r:Option (AV×AS)):Option (AV×AS):=r.map λr=>(r.1,a)
theorem PT:∀{parts:List (Nat×AV)}{a r:List (List AV)},lH U a parts=aa r->r.length=Z a
 |[],a,r,h=>by grind[lH]
 |(b,c)::parts,a,r,h=>by
  simp only[lH]at h;split at h;have:=PT h;grind;simp at h
theorem ack{own:Bool}{parts:List (Nat×AV)}(f:U=0\/own=ab):tM P own n u U parts=(tM P own L u U parts).map λr=>(r.1,n):=by
 unfold tM;split
 case h_2=>rfl
 case h_1 b g=>
 split
 case isFalse=>rfl
 case isTrue d=>
 split
 case h_2=>rfl
 case h_1 i h=>
 split
 case isFalse=>rfl
 case isTrue e=>
 split
 case h_2=>rfl
 case h_1 c a=>
 have:=PT a;grind
theorem acm(b:∀a∈B.op.operands,l G n a=l G L a)(d:aC P A cH B=.pure):aV P G A n B.dst B.op=jz n (aV P G A L B.dst B.op):=by
 unfold aC at d;generalize J:B.op=op at b d⊢;cases op<;>simp only[Op.operands,reduceCtorEq]at b d
 case move a=>simp[aV,jz,b]
 case pick f t q=>
  simp[aV,jz,b];grind
 case build e j=>
  have:(j.toList.map λc=>(c.1,l G n c.2))=j.toList.map λc=>(c.1,l G L c.2):=sM λc p=>by
   rw[b c.2 (by simp;exact⟨c.1,by simpa using p⟩)]
  simp only[aV,fS,jz,this,tI];rfl
 case binOp q e a O K=>simp[aV,fS,jz,b]<;>rfl
 case unOp M e a=>simp[aV,fS,jz,b]<;>rfl
 case convert t q a=>simp[aV,fS,jz,b]<;>rfl
 case makeInterface e a=>
  simp[aV,jz,b];grind
 case makeFunc u first cap=>
  have v:first.toList.map (λa=>(l G n a).pl)=first.toList.map (λa=>(l G L a).pl):=sM λa i=>by rw[b a (by simp[EW.1 i])]
  have w:cap.toList.map (λa=>(l G n a).pl)=cap.toList.map (λa=>(l G L a).pl):=sM λa i=>by rw[b a (by simp[EW.1 i])]
  simp only[aV,jz,v,w];grind
 case field e a u=>simp[aV,fS,jz,b]<;>rfl
 case index e a C=>simp[aV,fS,jz,b]<;>rfl
 case extract a C=>
  simp[aV,jz,b];grind
 case typeAssert a N e ok=>
  simp[aV,jz,b];grind
 case assign a=>
  split at d;simp at d;rename_i o;simp only[aV,jz];grind
 case box E a=>
  split at d;simp at d;rename_i o;split at d;simp at d;rename_i I;simp at b;simp only[aV,jz,b];grind
 case buildSlice e s j=>
  split at d;simp at d;rename_i o;have:(j.toList.map λc=>(c.1,l G n c.2))=j.toList.map λc=>(c.1,l G L c.2):=sM λc p=>by
   rw[b c.2 (by simp;exact⟨c.1,by simpa using p⟩)]
  have z:s=0\/(B.dst.any λa=>y (a∈A.own))=false:=by
   by_cases k:s=0;exact .inl k;exact .inr (by simpa usingλh=>o ⟨k,h⟩)
  simp only[aV,jz,this];exact ack z
 case call f=>
  have m:f.args.toList.map (l G n)=f.args.toList.map (l G L):=sM λa i=>b a (by
   simp only[Call.operands];split<;>simp[EW.1 i])
  split at d
  ·rename_i g
   simp only[aV,g,m];unfold ko jz;split;rename_i D a H x F;simp only[tI];have r:AY P f.argTypes=.pure:=d;unfold AY at r;have k:f.argTypes[0]?=aa D:=by
    have:=congrArg List.toArray x;simp at this;rw[this]<;>rfl
   simp only[k,Ct]at r;unfold l7;grind
   all_goals grind
  rename_i g;simp only[aV,g,m];unfold ko jz;split<;>first|grind|(simp[tI]<;>rfl)
  rename_i g;simp only[aV,g,m];unfold ko jz;split<;>first|grind|(simp[tI]<;>rfl)
  simp at d;grind
 grind
theorem acn(a:∀b∈B.op.operands,l G n b=l G L b)(e:n.hp=L.hp)(C:∀c,oY o B L c->look c n.bx=look c L.bx)(d:aC P A cH B=.rd):aV P G A n B.dst B.op=jz n (aV P G A L B.dst B.op):=by
 have f:∀b∈B.op.operands,∀c off,l G L b=.lp c off->look c n.bx=look c L.bx:=by grind[oY.of]
 unfold aC at d;generalize D:B.op=op at a d f⊢;cases op<;>simp only[Op.operands,reduceCtorEq]at a d f
 case load g b=>
  simp only[IW,b5,jM,or_false,forall_eq]at a f;simp only[aV,fS,jz,a,PN e f,tI];rfl
 case nilCheck b=>
  simp only[IW,b5,jM,or_false,forall_eq]at a;simp only[aV,fS,jz,a];split;rfl;simp only[JO e,tI]<;>rfl
 case fieldAddr g b u=>
  simp only[IW,b5,jM,or_false,forall_eq]at a;simp only[aV,fS,jz,a,ace e,tI]<;>rfl
 case indexAddr g b E=>
  simp at a;simp only[aV,fS,jz,a.1,a.2,acf e,tI]<;>rfl
 case lookup g s c ok=>
  simp at a;simp only[aV,fS,jz,a.1,a.2,ach e,tI]<;>rfl
 case slice g b i h t=>
  have k:=a b (by simp);cases t with
  |some s=>
   simp only[aV,jz,k];grind
  |none=>
  have r:i.map (l G n)=i.map (l G L):=by
   rcases i with _|y;rfl;grind
  have q:h.map (l G n)=h.map (l G L):=by
   rcases h with _|y;rfl;grind
  simp only[aV,jz,k,r,q];grind[aci]
 case call j=>
  have m:j.args.toList.map (l G n)=j.args.toList.map (l G L):=by simp_all[Call.operands]
  split at d
  ·rename_i p
   simp only[aV,p,m];unfold ko jz;split;simp only[PQ e,tI]<;>rfl
   all_goals grind
  simp at d;simp at d;simp at d;rename_i v w x z;simp only[aV];rfl
 case assign=>grind
 case buildSlice=>grind
 case alloc=>grind
 grind
def ns(a:AS)(r:Option (AV×AS)):Option (AV×AS):=r.map λr=>(r.1,{r.2 with env:=a.env})
theorem aco{c a:AV}(d:n.hp=L.hp)(f:n.bx=L.bx):oT P n u c a=ns n (oT P L u c a):=by
 have e:∀b,oS n b a=oS L b a:=by intro b;unfold oS;simp only[d]
 unfold oT ns;simp only[e,d]
 repeat' split
 all_goals grind
theorem PU(a:∀x∈B.op.operands,l G n x=l G L x)(b:n.hp=L.hp)(e:n.bx=L.bx)(d:aC P A cH B=.jb):aV P G A n B.dst B.op=ns n (aV P G A L B.dst B.op):=by
 unfold aC at d;generalize v:B.op=op at a d⊢;cases op<;>simp only[Op.operands,reduceCtorEq]at a d
 case assign x=>
  simp only[aV,ns];split;grind;simp[a];cases n;grind
 case buildSlice c y j=>
  have:(j.toList.map λf=>(f.1,l G n f.2))=j.toList.map λf=>(f.1,l G L f.2):=by grind[List.map_congr_left]
  simp only[aV,ns,this];unfold tM;simp only[b]
  repeat' split
  all_goals first|rfl|(simp[e];done)|(simp_all;done)|(cases n;simp_all)
 case alloc o=>
  split at d;simp at d;rename_i q;simp only[aV,ns];grind
 case box o x=>
  split at d;simp at d;rename_i q;split at d;rename_i u;simp at a;simp only[aV,ns,a];grind;grind
 case makeMap c r=>
  have t:y6 P G n c r=y6 P G L c r:=by
   rcases r with _|x;rfl;simp only[y6,a x (by simp)]
  simp only[aV,ns];grind
 case makeSlice c w g=>
  simp at a;simp only[aV,ns,a.1,a.2];unfold y3;simp only[b]
  repeat' split
  all_goals grind
 case store c x D=>
  simp at a;simp only[aV,ns,a.1,a.2];unfold vS;simp only[b,e]
  repeat' split
  all_goals grind
 case mapUpdate c h i k=>
  simp at a;simp only[aV,ns,a.1,a.2.1,a.2.2];unfold xA;simp only[b]
  repeat' split
  all_goals grind
 case insert c h i k=>
  simp at a;simp only[aV,ns,a.1,a.2.1,a.2.2];unfold xA;simp only[b]
  repeat' split
  all_goals grind
 case mapEntry c h i=>
  simp at a;simp only[aV,ns,a.1,a.2];unfold y5;simp only[b]
  repeat' split
  all_goals first|rfl|(simp[e];done)|(simp_all;done)|(cases n;simp_all)
 case entryStore c h C k=>
  simp at a;simp only[aV,ns,a.1,a.2.1,a.2.2];unfold AG;simp only[b]
  repeat' split
  all_goals grind
 case call g=>
  have p:g.args.toList.map (l G n)=g.args.toList.map (l G L):=by simp_all[Call.operands]
  simp only[aV,ns];split
  ·rename_i m s
   simp only[p];unfold ko;split;simp only[PQ b,tI]
   congr 1
   funext z
   cases n;simp_all
   ·split
    exact aco b e
    ·unfold tN
     simp only[b]
     repeat' split
     all_goals first|rfl|(simp[e];done)|(simp_all;done)|(cases n;simp_all)
   ·repeat' split
    all_goals first|rfl|(simp[e];done)|(simp_all;done)|(cases n;simp_all)
   ·unfold AI
    simp only[b]
    repeat' split
    all_goals first|rfl|(simp[e];done)|(simp_all;done)|(cases n;simp_all)
   ·unfold AH
    simp only[b]
    repeat' split
    all_goals first|rfl|(simp[e];done)|(simp_all;done)|(cases n;simp_all)
   grind;grind;rfl
  rfl
 case range c x=>
  simp only[IW,b5,jM,or_false,forall_eq]at a;simp only[aV,ns,a,b,sS];split;rw[tI]
  congr 1
  grind;rfl
 case next x m=>
  simp only[IW,b5,jM,or_false,forall_eq]at a;simp only[aV,ns,a,b,sS];split;rw[tI]
  congr 1
  grind;rfl
 all_goals first|rfl|(simp at d;done)
end
section
variable{P:Program}{G:Nat->Option (List AV)}{An:Nat->bR}{X:fq}{A:bR}
variable(P G An X)in
 inductive er(hc:Oper->Bool)(A:bR)(ops:Array Oper)(o:Oper)(s:AS):AS->Prop
 |skip (hw:ga ops s o=aa ab):er hc A ops o s (gj o.dst (.aB [],s))
 |op (r:AV×AS) (hw:ga ops s o=aa ad) (ho:aV P G A s o.dst o.op=aa r):er hc A ops o s (gj o.dst r)
 |uP (c:Call) (f:Nat) (m:Md) (args args':List AV) (r0 r:AV) (hp0:List Obj) (hh:hc o=ab) (hw:ga ops s o=aa ad) (ho:o.op=.call c) (hcl:ja P G s c=aa (f,args))
  (hm:m≠.res) (ha:qt s m args args') (hr:k1 P G An X f args' [] r0 hp0) (hs:aM hp0 .res r0 r) (hn:m=.cb->NB r):er hc A ops o s (gj o.dst (r,s))
 |uQ (c:Call) (f:Nat) (args:List AV) (r:AV) (hp':List Obj) (hh:hc o=ad) (hw:ga ops s o=aa ad) (ho:o.op=.call c) (hcl:ja P G s c=aa (f,args))
  (hr:k1 P G An X f (args.map AV.pl) s.hp r hp'):er hc A ops o s (gj o.dst (r.pl,{s with hp:=hp'}))
theorem er.cons(h:er P G An X cH A o B L n)(c:nV P G An X A o ly n kh):nV P G An X A o (B::ly) L kh:=by
 cases h with
 |skip a=>exact .skip _ _ _ _ _ _ a c
 |op r a b=>exact .op _ _ _ _ _ _ r a b c
 |uP d e t args i u r q k a b f l j g s m=>exact .uP _ _ _ _ _ _ d e t args i u r q a b f l j g s m c
 |uQ d e args r p k a b f g=>exact .uQ _ _ _ _ _ _ d e args r p a b f g c
theorem AZ(c b:K)(h:U≠N):∀a:List (Nat×K),put U c (put N b a)=put N b (put U c a)
 |[]=>by
  grind[put,absurd]
 |(e,w)::a=>by
  have d:=AZ c b h a;grind[put,absurd]
def jc(a:Nat):List (Nat×AV)->Bool
 |[]=>ad
 |(_,c)::b=> !c.gF a&&jc a b
theorem qz:∀{a:List (Nat×AV)},jc U a=ad->oQ U a=a
 |[],_=>rfl
 |(b,c)::a,h=>by
  simp only[jc,bc,gZ]at h;simp[oQ,h.1,qz h.2]
theorem xJ{c:AV}(b:c.gF U=ab):∀{a:List (Nat×AV)},jc U a=ad->jc U (put N c a)=ad
 |[],_=>by simp[put,jc,b]
 |(d,e)::a,h=>by
  simp only[jc,bc,gZ]at h;simp only[put];split;grind[jc];split;grind[jc];simp[jc,h.1,xJ b h.2]
theorem A0{off:Nat}:∀{a:List (Nat×AV)},jc U a=ad->look N a≠aa (.lp U off)
 |[],_=>by simp[look]
 |(b,c)::a,h=>by
  simp only[jc,bc,gZ]at h;simp only[look];split;grind[AV.gF];exact A0 h.2
theorem AN.ag{b c:AV}(g:n.hp=L.hp)(f:∀a off,b=.lp a off->look a n.bx=look a L.bx)(h:AN L c9 b c):AN n c9 b c:=by
 cases h with
 |of _ _ _ h=>exact .of _ _ _ (by grind)
 |lp a off d e i h=>exact .lp a off d e (by grind) (by grind)
theorem qt.ag(e:n.hp=L.hp):∀{a bs:List AV},(∀c∈a,∀b off,c=.lp b off->look b n.bx=look b L.bx)->qt L c9 a bs->qt n c9 a bs
 |_,_,_,.nil=>.nil
 |_,_,d,.cons _ _ _ _ h g=>.cons _ _ _ _ (h.ag e (d _ (by simp))) (qt.ag e (λc f=>d c (by simp[f])) g)
theorem PV(d:∀a∈dP.operands,l G n a=l G L a)(h:n.hp=L.hp):ja P G n dP=ja P G L dP:=by
 have e:dP.args.toList.map (l G n)=dP.args.toList.map (l G L):=sM λa k=>d a (by
  simp only[Call.operands];split<;>simp[EW.1 k])
 unfold ja;cases f:dP.callee with
 |value o=>
  grind[Call.operands]
 |invoke r name=>
  have g:=d r (by simp[Call.operands,f]);simp only[e,g];cases p:l G L r with
  |iface s c=>
   have j:∀b,oR P n b c.pl=oR P L b c.pl:=λb=>PN h (λq off i=>by cases c<;>simp[AV.pl]at i);simp only[j]
  |_=>rfl
 |builtin m=>rfl
theorem PW{a:AV}{off:Nat}:a.pl≠.lp U off:=by cases a<;>simp[AV.pl]
theorem acp{args:List AV}(h:ja P G L dP=aa (U,args)){a:AV}(d:a∈args){off:Nat}(c:a=.lp N off):∃b∈dP.operands,l G L b=.lp N off:=by
 have j:∀a∈dP.args.toList.map (l G L),a=.lp N off->∃b∈dP.operands,l G L b=.lp N off:=by
  intro a d c;obtain⟨b,i,rfl⟩:=cy.1 d;refine⟨b,?_,c⟩;simp only[Call.operands];split<;>simp[EW.1 i]
 have k:∀(f:List AV),a∈f.map AV.pl->False:=by
  intro f g;let⟨m,_,e⟩:=cy.1 g;rw[c]at e;exact PW e
 unfold ja at h;split at h;grind
 ·split at h
  case h_2=>simp at h
  grind[Option.some.injEq,Prod.mk.injEq,PW]
 simp at h
def et(a:Option Tmp)(c:AV)(b:AS):AS:=gj a (c,b)
theorem rJ(a:Option Tmp)(c:AV)(b:AS):(et a c b).hp=b.hp:=by cases a<;>rfl
theorem rK(a:Option Tmp)(c:AV)(b:AS):(et a c b).bx=b.bx:=by cases a<;>rfl
theorem JP(a:Option Tmp)(c:AV)(b:AS)(hp:List Obj)(bx:List (Nat×List AV)):et a c {b with hp:=hp,bx:=bx}={et a c b with hp:=hp,bx:=bx}:=by cases a<;>rfl
theorem v8(d:Option Tmp)(b:AV)(a:AS)(h:d≠aa U):look U (et d b a).env=look U a.env:=by
 rcases d with _|d;rfl;simp only[et,gj,fO];grind
theorem FC{d e:Option Tmp}(b a:AV)(f:AS)(h:∀c,d=aa c->e≠aa c):et d b (et e a f)=et e a (et d b f):=by
 rcases d with _|d;rfl;rcases e with _|e;rfl;have g:d≠e:=λi=>h d rfl (by rw[i]);simp only[et,gj];rw[AZ b a g]
theorem acq{op:BinOp}{a:AV}(h:kE op q8 f b9=aa a)(b:Nat):a.gF b=false:=by
 unfold kE at h;split at h<;>first|(simp at h;subst h;rfl)|(split at h<;>simp at h;subst h;rfl)|simp at h
theorem acr{op:BinOp}{b c:List UInt8}{a:AV}(h:vU op b c=aa a)(d:Nat):a.gF d=false:=by
 unfold vU at h;split at h<;>first|(simp at h;subst h;rfl)|simp at h
theorem acs{op:BinOp}{c d b:AV}(h:tL P op u c d=aa b)(a:Nat):b.gF a=false:=by
 unfold tL at h;split at h;split at h;split at h<;>simp at h;subst h;rfl
 split at h<;>simp at h;subst h;rfl
 grind[acq];exact acr h a;split at h<;>simp at h<;>subst h<;>rfl
 split at h;split at h;split at h<;>simp at h<;>subst h<;>rfl
 simp at h;simp at h;split at h<;>simp at h
 subst h;rfl;simp at h
theorem sW(a:AV)(b:Nat):a.pl.gF b=false:=by cases a<;>rfl
theorem JQ{a b:AV}(h:mJ L U a=aa b)(c:b.gF N=ad):∃off,a=.lp N off:=by
 cases a<;>simp[mJ]at h
 grind[AV.gF];grind[AV.gF];grind[AV.gF]
theorem PX{c a:AV}(h:l7 P L u c=aa a)(b:Nat):a.gF b=false:=by
 unfold l7 at h;split at h<;>first|(simp at h;subst h;rfl)|(split at h<;>simp at h;subst h;rfl)|simp at h
theorem acu{e a:AV}{d b:Option AV}(h:nm P L u e d b=aa (a,n))(c:Nat):a.gF c=false:=by
 unfold nm at h
 repeat' split at h
 all_goals first|(simp at h;done)|(simp at h;rw[<-h.1]<;>rfl)
theorem acv{e:AV}(c:aC P A cH B=.pure\/aC P A cH B=.rd)(h:aV P G A L B.dst B.op=aa (e,n))(w:e.gF U=ad):oY o B L U:=by
 have no:e.gF U=ab->oY o B L U:=by grind
 unfold aC at c;generalize v:B.op=op at h c;have z:∀a∈op.operands,∀off,l G L a=.lp U off->oY o B L U:=by grind[oY.of]
 cases op<;>simp only[reduceCtorEq,or_self,or_false,false_or]at c
 case move a=>simp[aV]at h;grind[sW]
 case assign a=>
  simp only[aV]at h;split at h;split at h<;>simp at h<;>exact no (by rw[<-h.1]<;>rfl)
  simp at h;exact no (by rw[<-h.1];exact sW _ _)
 case pick j i d=>
  simp only[aV]at h;grind[sW]
 case build b r=>
  simp only[aV]at h;let⟨h,_⟩:=lJ h;apply no;unfold y1 at h;split at h;split at h;simp only[dj]at h;obtain⟨_,_,rfl⟩:=h;rfl;simp at h;split at h;simp only[dj]at h;obtain⟨_,_,rfl⟩:=h;rfl;simp at h;simp at h
 case buildSlice b E r=>
  apply no;simp only[aV]at h;unfold tM at h;split at h;split at h;split at h;split at h;split at h;split at h;simp at h;rw[<-h.1]<;>rfl
  split at h<;>simp at h<;>rw[<-h.1]<;>rfl
  simp at h;simp at h;simp at h;simp at h;simp at h
 case load b a=>
  simp only[aV]at h;let⟨h,_⟩:=lJ h;simp only[dj]at h;grind[sW]
 case nilCheck a=>
  simp only[aV]at h;split at h;simp at h;exact no (by rw[<-h.1]<;>rfl);let⟨h,_⟩:=lJ h;grind[JQ,Op.operands]
 case fieldAddr b a f=>
  simp only[aV]at h;let⟨h,_⟩:=lJ h;unfold vT at h;grind[JQ,Op.operands]
 case indexAddr b a g=>
  simp only[aV]at h;let⟨h,_⟩:=lJ h;unfold rG at h;split at h;grind[JQ,Op.operands];split at h;split at h;split at h;split at h<;>simp at h;exact no (by rw[<-h]<;>rfl)
  simp at h;simp at h;split at h;split at h;split at h<;>simp at h;exact no (by rw[<-h]<;>rfl)
  simp at h;simp at h;simp at h;simp at h
 case binOp d b a J F=>
  simp only[aV]at h;grind[lJ,acs]
 case unOp H b a=>
  simp only[aV]at h;let⟨h,_⟩:=lJ h;apply no;unfold np at h;split at h<;>simp at h<;>subst h<;>rfl
 case convert i d a=>
  simp only[aV]at h;let⟨h,_⟩:=lJ h;apply no;unfold xx at h;split at h;simp at h;subst h;rfl;simp at h;subst h;rfl;split at h;split at h<;>simp at h;subst h;rfl
  simp at h;simp at h
 case makeInterface b a=>
  simp only[aV]at h;apply no;split at h<;>simp at h;rw[<-h.1]<;>rfl
 case makeFunc f first cap=>
  simp only[aV]at h;apply no;split at h<;>simp at h;rw[<-h.1]<;>rfl
 case field b a f=>
  simp only[aV]at h;let⟨h,_⟩:=lJ h;simp only[dj]at h;grind[sW]
 case index b a g=>
  simp only[aV]at h;let⟨h,_⟩:=lJ h;simp only[dj]at h;grind[sW]
 case lookup b C x ok=>
  simp only[aV]at h;let⟨h,_⟩:=lJ h;simp only[dj]at h;grind[sW]
 case extract a g=>
  simp only[aV]at h;grind[sW]
 case typeAssert a I b ok=>
  simp only[aV]at h;grind[sW]
 case slice b a y t D=>
  simp only[aV]at h;split at h;split at h<;>simp at h;exact no (by rw[<-h.1]<;>rfl)
  split at h;grind[acu];cases h
 case call j=>
  simp only[aV]at h;split at h;rename_i d m;unfold ko at h;rw[m]at c;split at h;simp only[dj,eE]at h;grind[PX];simp at c;simp at c;simp at c;simp at c;simp only[dj,eE]at h;obtain⟨_,h,rfl,_⟩:=h;obtain⟨_,_,_,_,_,rfl⟩:=O3 h;exact no rfl;simp only[dj,eE]at h;obtain⟨_,h,rfl,_⟩:=h;obtain⟨_,_,_,_,_,rfl⟩:=O4 h;exact no rfl;simp at h;simp at h
 case alloc=>grind
 case box s a=>
  split at c;simp at c;rename_i q;simp only[aV]at h;split at h;rename_i k p;have u:k∉A.lb:=by simpa[p]using q
  split at h
  skip
  split at h;grind;injection h with h;injection h with h _;exact no (by rw[<-h]<;>rfl);simp at h;simp at h
 all_goals simp[aV]at h
theorem PY{c a:AV}(h:aM M c9 c a)(b:Nat):a.gF b=false:=by
 cases h<;>rfl
theorem pJ(h:er P G An X cH A o B L n)(k:aC P A cH B=.pure\/aC P A cH B=.rd):
 ∃g,n=et B.dst g L/\(∀a,Ag o B L a->(aC P A cH B=.pure\/a.hp=L.hp/\∀b,oY o B L b->look b a.bx=look b L.bx)->er P G An X cH A o B a (et B.dst g a))/\∀b,g.gF b=ad->oY o B L b:=by
 cases h with
 |skip j=>exact⟨.aB [],rfl,λa d _=>.skip (by rw[d.wanted];exact j),λb x=>by cases x⟩
 |op r j f=>
  let⟨g,N⟩:=r;have key:∀a,Ag o B L a->(aC P A cH B=.pure\/a.hp=L.hp/\∀b,oY o B L b->look b a.bx=look b L.bx)->aV P G A a B.dst B.op=aa (g,a):=by
   intro a d c;rcases k with k|k;rw[acm d.op k,f]<;>rfl
   rcases c with c|c;grind;rw[acn (o:=o) d.op c.1 c.2 k,f]<;>rfl
  have m:=key L (λ_ _=>rfl) (by grind);rw[f]at m;simp at m;subst m;exact⟨g,rfl,λa d c=>.op (g,a) (by rw[d.wanted];exact j) (key a d c),by grind[acv]⟩
 |uP p s E args v F r C t j f e y w u m z=>
  refine⟨r,rfl,λa d c=>?_,by grind[PY]⟩;have I:B.op.operands=p.operands:=by rw[f]<;>rfl
  have D:aC P A cH B≠.pure:=by
   unfold aC;rw[f];simp only;split;rename_i i;unfold ja at e;rw[i]at e;simp at e;rename_i i;unfold ja at e;rw[i]at e;simp at e;rename_i i;unfold ja at e;rw[i]at e;simp at e;simp;split<;>simp
  have c:=c.resolve_left D;have H:∀q∈p.operands,l G a q=l G L q:=λq M=>d.op q (by grind);refine .uP p s E args v F r C t (by rw[d.wanted];exact j) f (by grind[PV]) y (qt.ag c.1 (λg K b off i=>?_) w) u m z;grind[acp,oY.of]
 |uQ p s args r J t j f e u=>
  grind[aC,ja]
theorem PZ{c:AV}(b:aC P A cH B=.jb)(h:aV P G A L B.dst B.op=aa (c,n)):n.env=L.env:=by
 have:=PU (P:=P) (G:=G) (A:=A) (cH:=cH) (B:=B) (L:=L) (n:=L) (λ_ _=>rfl) rfl rfl b;rw[h]at this;simp[ns]at this;have a:=congrArg AS.env this;exact a
theorem FD(h:er P G An X cH A o B L n)(F:aC P A cH B≠.box):
 ∃b g k,n=et B.dst b {L with hp:=g,bx:=k}/\∀a,Ag o B L a->a.hp=L.hp->a.bx=L.bx->er P G An X cH A o B a (et B.dst b {a with hp:=g,bx:=k}):=by
 have rd:(aC P A cH B=.pure\/aC P A cH B=.rd)->∃b g k,n=et B.dst b {L with hp:=g,bx:=k}/\∀a,Ag o B L a->a.hp=L.hp->a.bx=L.bx->er P G An X cH A o B a (et B.dst b {a with hp:=g,bx:=k}):=by
  intro z;let⟨b,v,p,_⟩:=pJ h z;refine⟨b,L.hp,L.bx,v,λa d e f=>?_⟩;have:=p a d (.inr ⟨e,λQ _=>by rw[f]⟩);rw[<-e,<-f];exact this
 cases u:aC P A cH B with
 |pure=>grind
 |rd=>grind
 |box=>grind
 |jb=>
  cases h with
  |skip j=>exact⟨.aB [],L.hp,L.bx,rfl,λa d e f=>by rw[<-e,<-f];exact .skip (by rw[d.wanted];exact j)⟩
  |op r j i=>
   let⟨b,c⟩:=r;have t:=PZ u i;refine⟨b,c.hp,c.bx,?_,λa d e f=>?_⟩;have:c={L with hp:=c.hp,bx:=c.bx}:=by cases c;simp at t;simp[t]
   rw[<-this]<;>rfl
   have p:=PU (G:=G) (A:=A) d.op e f u;rw[i]at p;have w:aV P G A a B.dst B.op=aa (b,{a with hp:=c.hp,bx:=c.bx}):=by rw[p]<;>rfl
   exact .op (b,{a with hp:=c.hp,bx:=c.bx}) (by rw[d.wanted];exact j) w
  |uP m s R args C S r M e j i x I E y N J=>
   grind[aC,ja]
  |uQ m s args r g e j i x y=>
   refine⟨r.pl,g,L.bx,rfl,λa d H f=>?_⟩;have K:B.op.operands=m.operands:=by rw[i]<;>rfl
   have D:∀q∈m.operands,l G a q=l G L q:=λq O=>d.op q (by grind);have:=er.uQ (P:=P) (G:=G) (An:=An) (X:=X) (A:=A) (ops:=o) (o:=B) (s:=a) m s args r g e (by rw[d.wanted];exact j) i (by grind[PV]) (by grind);rw[<-f];exact this
theorem zd(h:er P G An X cH A o B L n)(e:aC P A cH B=.box)(C:B.guard=ae):
 ∃a g,B.dst=aa a/\n={env:=put a (.lp a 0) (oQ a L.env),bx:=put a g L.bx,hp:=L.hp}/\∀b,Ag o B L b->er P G An X cH A o B b {env:=put a (.lp a 0) (oQ a b.env),bx:=put a g b.bx,hp:=b.hp}:=by
 have m:∀b,ga o b B=aa true:=by grind[ga]
 cases h with
 |skip j=>grind
 |op r j c=>
  unfold aC at e;generalize F:B.op=op at e c;cases op<;>simp only[reduceCtorEq]at e
  case alloc q=>
   split at e;rename_i i;simp only[aV]at c;split at c;rename_i g a M d;have v:a∈A.lb:=by simpa[d]using i
   split at c;rename_i x;simp at c;subst c;refine⟨a,g,d,by simp[gj,d],λb k=>?_⟩;have:=er.op (P:=P) (G:=G) (An:=An) (X:=X) (hc:=cH) (A:=A) (ops:=o) (o:=B) (s:=b) (.lp a 0,{env:=oQ a b.env,bx:=put a g b.bx,hp:=b.hp}) (m b) (by simp_all[aV]);grind[gj];grind;grind;grind
  case box q f=>
   split at e;rename_i i;simp only[aV]at c;split at c;rename_i a d;have v:a∈A.lb:=by simpa[d]using i
   split at c;rename_i x;simp at c;subst c;refine⟨a,(l G L f).pl.cells,d,by simp[gj,d],λb k=>?_⟩;have K:l G b f=l G L f:=k.op f (by grind[Op.operands]);have:=er.op (P:=P) (G:=G) (An:=An) (X:=X) (hc:=cH) (A:=A) (ops:=o) (o:=B) (s:=b) (.lp a 0,{env:=oQ a b.env,bx:=put a (l G L f).pl.cells b.bx,hp:=b.hp}) (m b) (by simp_all[aV]);grind[gj];grind;grind;grind
  case assign=>grind
  case buildSlice=>grind
  grind[AY]
 |uP p s N args y O r I u j c t D z w J E=>
  grind[aC,AY]
 |uQ p s args r H u j c t w=>
  grind[aC,AY]
def wa(P:Program)(A:bR)(c:Oper->Bool)(d:Array Oper)(a b:Oper):Bool:=
 Oper.apart d a b&&
 match aC P A c a,aC P A c b with
 |.pure,.box=>b.guard.isNone
 |.rd,.box=>b.guard.isNone
 |.box,.pure=>a.guard.isNone
 |.box,.rd=>a.guard.isNone
 |.box,.box=>a.guard.isNone&&b.guard.isNone
 |.pure,_=>ad
 |_,.pure=>ad
 |.rd,.rd=>ad
 |_,_=>ab
def ze(P:Program)(A:bR)(c:Oper->Bool)(b:Oper)(d:AS):Prop:=aC P A c b=.box->∀a,b.dst=aa a->jc a d.env=ad
theorem FE{c:Oper}(h:∀a,B.dst=aa a->a∉c.looksAt o)(d:AV)(b:AS):Ag o c b (et B.dst d b):=λf e=>
 by grind[v8]
theorem Ag.symm(h:Ag o B L n):Ag o B n L:=λb a=>(h b a).symm
theorem swap{b:Oper}(r:er P G An X cH A o B L n)(p:er P G An X cH A o b n kh)(C:wa P A cH o B b=ad)(F:ze P A cH B L)(H:ze P A cH b L):
 ∃d,er P G An X cH A o b L d/\er P G An X cH A o B d kh:=by
 unfold wa at C;rw[bc]at C;let⟨Q,am⟩:=C;let⟨y,ah,ai⟩:=Oper.apart_spec Q;have plain:aC P A cH B≠.box->aC P A cH b≠.box->(aC P A cH B=.pure\/aC P A cH b=.pure\/aC P A cH B=.rd/\aC P A cH b=.rd)->∃d,er P G An X cH A o b L d/\er P G An X cH A o B d kh:=by
  intro Z ac T;rcases T with hp|hp|⟨hp,v⟩;obtain⟨k,rfl,i,_⟩:=pJ r (.inl hp);obtain⟨h,M,E,rfl,j⟩:=FD p ac;refine⟨_,j L (FE y k L).symm (by rw[rJ]) (by rw[rK]),?_⟩;have:=i (et b.dst h {L with hp:=M,bx:=E}) (λc f=>by grind[v8]) (.inl hp);grind[FC,JP];obtain⟨k,M,E,rfl,i⟩:=FD r Z;obtain⟨h,rfl,j,_⟩:=pJ p (.inl hp);refine⟨_,j L (λc f=>by grind[v8]) (.inl hp),?_⟩
  have:=i (et b.dst h L) (λc f=>by grind[v8]) (by rw[rJ]) (by rw[rK]);grind[JP,FC];obtain⟨k,rfl,i,_⟩:=pJ r (.inr hp);obtain⟨h,rfl,j,_⟩:=pJ p (.inr v);refine⟨_,j L (FE y k L).symm (by grind[rJ,rK]),?_⟩;have:=i (et b.dst h L) (λc f=>by grind[v8]) (by grind[rJ,rK]);grind[FC]
 have aj:aC P A cH B=.box->B.guard=ae->(aC P A cH b=.pure\/aC P A cH b=.rd)->∃d,er P G An X cH A o b L d/\er P G An X cH A o B d kh:=by
  intro l t v;obtain⟨a,m,s,rfl,i⟩:=zd r l t;have g:=F l a s;rw[qz g]at p;obtain⟨h,rfl,j,D⟩:=pJ p v;have K:∀c∈b.looksAt o,look c (put a (AV.lp a 0) L.env)=look c L.env:=by grind[fO]
  have u:∀c,oY o b {env:=put a (AV.lp a 0) L.env,bx:=put a m L.bx,hp:=L.hp} c->c≠a:=by
   rintro c ⟨N,J,off,x⟩ rfl;rw[K N J]at x;exact A0 g x
  have U:h.gF a=false:=by
   cases z:h.gF a
   rfl;exact absurd rfl (u a (D a z))
  refine⟨_,j L (λc f=>(K c f).symm) (.inr ⟨rfl,λc f=>by rw[fO,if_neg (u c f)]⟩),?_⟩;have:=i (et b.dst h L) (λc f=>by grind[v8]);have q:jc a (et b.dst h L).env=true:=by
   rcases Y:b.dst with _|e;exact g;exact xJ U g
  rw[qz q,rK,rJ]at this;have e:({env:=put a (.lp a 0) (et b.dst h L).env,bx:=put a m L.bx,hp:=L.hp}:AS)=et b.dst h {env:=put a (.lp a 0) L.env,bx:=put a m L.bx,hp:=L.hp}:=by
   rcases Y:b.dst with _|e;rfl;grind[et,gj,AZ]
  rw[e]at this;exact this
 have af:aC P A cH b=.box->b.guard=ae->(aC P A cH B=.pure\/aC P A cH B=.rd)->∃d,er P G An X cH A o b L d/\er P G An X cH A o B d kh:=by
  intro l t v;obtain⟨k,rfl,i,D⟩:=pJ r v;obtain⟨a,m,s,rfl,j⟩:=zd p l t;have g:=H l a s;have u:∀c,oY o B L c->c≠a:=by
   rintro c ⟨N,J,off,x⟩ rfl;exact A0 g x
  have V:k.gF a=false:=by
   cases z:k.gF a
   rfl;exact absurd rfl (u a (D a z))
  have q:jc a (et B.dst k L).env=true:=by
   rcases W:B.dst with _|e;exact g;exact xJ V g
  have O:=j L (FE y k L).symm;refine⟨_,O,?_⟩;rw[qz q,rK,rJ];rw[qz g];have:=i {env:=put a (.lp a 0) L.env,bx:=put a m L.bx,hp:=L.hp} (λc f=>by grind[fO]) (.inr ⟨rfl,λc f=>by rw[fO,if_neg (u c f)]⟩);have e:({env:=put a (.lp a 0) (et B.dst k L).env,bx:=put a m L.bx,hp:=L.hp}:AS)=et B.dst k {env:=put a (.lp a 0) L.env,bx:=put a m L.bx,hp:=L.hp}:=by
   rcases W:B.dst with _|e;rfl;grind[et,gj,AZ]
  rw[e];exact this
 have ak:aC P A cH B=.box->aC P A cH b=.box->B.guard=ae->b.guard=ae->∃d,er P G An X cH A o b L d/\er P G An X cH A o B d kh:=by
  intro l I t S;obtain⟨a,m,s,rfl,i⟩:=zd r l t;obtain⟨e,w,R,rfl,j⟩:=zd p I S;have g:=F l a s;have q:=H I e R;have au:a≠e:=by grind
  refine⟨_,j L (λc f=>?_),?_⟩;rw[qz g];grind[fO];have:=i {env:=put e (AV.lp e 0) (oQ e L.env),bx:=put e w L.bx,hp:=L.hp} (λc f=>by
   rw[qz q];grind[fO])
  simp only[qz g,qz q]at this⊢;have ax:jc a (put e (AV.lp e 0) L.env)=true:=xJ (by grind[AV.gF]) g;have az:jc e (put a (AV.lp a 0) L.env)=true:=by grind[xJ,AV.gF]
  simp_all[qz,AZ,Cq]
 grind[Option.isNone_iff_eq_none]
theorem P0{b d a:AV}(h:oT P L u b d=aa (a,n))(c:Nat):a.gF c=false:=by
 unfold oT at h
 repeat' split at h
 all_goals first|(simp at h;done)|(simp at h;rw[<-h.1]<;>rfl)
theorem acw{j:AV}(a:aC P A cH B=.jb)(h:aV P G A L B.dst B.op=aa (j,n))(p:Nat):j.gF p=false:=by
 unfold aC at a;generalize u:B.op=op at h a;cases op<;>simp only[reduceCtorEq]at a
 case assign c=>
  simp only[aV]at h;split at h;split at h<;>simp at h<;>rw[<-h.1]<;>rfl
  grind[sW]
 case buildSlice b x y=>
  simp only[aV]at h;unfold tM at h
  repeat' split at h
  all_goals first|(simp at h;done)|(simp at h;rw[<-h.1]<;>rfl)
 case alloc l=>
  split at a;simp at a;rename_i f;simp only[aV]at h;split at h;rename_i C d v e;have m:d∉A.lb:=by simpa[e]using f
  split at h;simp at h;rw[<-h.1]<;>rfl
  simp at h;simp at h
 case box l c=>
  split at a;simp at a;rename_i f;split at a;rename_i o;simp only[aV]at h;split at h;rename_i d e;have m:d∉A.lb:=by simpa[e]using f
  have t:d∈A.own:=by simpa[e]using o
  split at h;simp at h;rw[<-h.1]<;>rfl
  simp at h;simp at h;grind
 case makeMap b r=>
  simp only[aV]at h;split at h<;>simp at h;rw[<-h.1]<;>rfl
 case makeSlice b w k=>
  simp only[aV]at h;unfold y3 at h
  repeat' split at h
  all_goals first|(simp at h;done)|(simp at h;rw[<-h.1]<;>rfl)
 case store b c z=>
  simp only[aV,dj,eE]at h;obtain⟨_,_,rfl,_⟩:=h;rfl
 case mapUpdate b i g c=>
  simp only[aV,dj,eE]at h;obtain⟨_,_,rfl,_⟩:=h;rfl
 case insert b i g c=>
  simp only[aV,dj,eE]at h;obtain⟨_,_,rfl,_⟩:=h;rfl
 case entryStore b i g c=>
  simp only[aV,dj,eE]at h;obtain⟨_,_,rfl,_⟩:=h;rfl
 case mapEntry b i g=>
  simp only[aV]at h;unfold y5 at h
  repeat' split at h
  all_goals first|(simp at h;done)|(simp at h;rw[<-h.1]<;>rfl)
 case call k=>
  simp only[aV]at h;split at h
  ·unfold ko at h
   split at h;simp only[dj,eE]at h;grind[PX]
   ·split at h
    grind[P0]
    ·unfold tN at h
     repeat' split at h
     all_goals first|(simp at h;done)|(simp at h;rw[<-h.1]<;>rfl)
   split at h<;>simp at h
   rw[<-h.1]<;>rfl
   simp only[dj,eE]at h;obtain⟨_,_,rfl,_⟩:=h;rfl;simp only[dj,eE]at h;obtain⟨_,_,rfl,_⟩:=h;rfl;grind;grind;simp at h
  simp at h
 case range b c=>
  simp only[aV]at h;split at h;simp only[sS,dj,eE]at h;obtain⟨q,h,rfl,_⟩:=h;unfold vW at h;split at h<;>simp at h
  rw[<-h]<;>rfl
  simp at h
 case next c s=>
  simp only[aV]at h;split at h;simp only[sS,dj,eE]at h;obtain⟨q,h,rfl,_⟩:=h;unfold tP at h;split at h;split at h;split at h<;>simp at h<;>rw[<-h]<;>rfl
  simp at h;simp at h;simp at h
 all_goals simp[aV]at h
theorem P1(i:er P G An X cH A o B L n)(u:aC P A cH B=.box->B.guard=ae)(I:B.dst≠aa U)(d:jc U L.env=ad):jc U n.env=true:=by
 have put:∀(a:AV)(b:List (Nat×AV))(hp:List Obj)(bx:List (Nat×List AV)),a.gF U=ab->jc U b=ad->jc U (et B.dst a {env:=b,bx:=bx,hp:=hp}).env=true:=by
  intro a b hp bx z e;rcases Q:B.dst with _|k;exact e;exact xJ z e
 cases c:aC P A cH B with
 |pure=>
  obtain⟨a,rfl,_,l⟩:=pJ i (.inl c);refine put a _ _ _ ?_ d;cases j:a.gF U
  rfl;let⟨D,_,off,w⟩:=l U j;grind[absurd,A0]
 |rd=>
  obtain⟨a,rfl,_,l⟩:=pJ i (.inr c);refine put a _ _ _ ?_ d;cases j:a.gF U
  rfl;let⟨D,_,off,w⟩:=l U j;grind[absurd,A0]
 |box=>
  obtain⟨b,V,e,rfl,_⟩:=zd i c (u c);have M:b≠U:=by grind
  have hp:∀f:List (Nat×AV),jc U f=ad->jc U (oQ b f)=true:=by
   intro f;induction f with
   |nil=>intro _;rfl
   |cons E f C=>
    let⟨k,T⟩:=E;intro h;simp only[jc,bc,gZ]at h;simp only[oQ,jc,bc,gZ];refine⟨?_,C h.2⟩;split;rfl;exact h.1
  grind[xJ,AV.gF]
 |jb=>
  cases i with
  |skip m=>exact put _ _ _ _ rfl d
  |op r m g=>
   let⟨a,p⟩:=r;have e:=PZ c g;have:=put a p.env p.hp p.bx (acw c g U) (by rw[e];exact d);exact this
  |uP q s R args F S r O v m g t J H x y K=>exact put r _ _ _ (PY y U) d
  |uQ q s args r N v m g t x=>exact put r.pl _ _ _ (sW _ _) d
variable(P G An X A)in
 inductive qA(hc:Oper->Bool)(ops:Array Oper):List Nat->AS->AS->Prop
 |nil (s:AS):qA hc ops [] s s
 |cons (i:Nat) (o:Oper) (rest:List Nat) (s s1 s':AS) (ho:ops[i]?=aa o) (h:er P G An X hc A ops o s s1) (t:qA hc ops rest s1 s'):qA hc ops (i::rest) s s'
theorem qA.ops:∀{c:List Nat}{a b:AS},qA P G An X A cH o c a b->nV P G An X A o (gG o c) a b
 |_,_,_,.nil a=>.nil _ _ _
 |_,_,_,.cons f g d a j b e h i=>by
  have:gG o (f::d)=g::gG o d:=by simp[gG,e]
  rw[this];exact h.cons (qA.ops i)
structure zf(P:Program)(A:bR)(hc:Oper->Bool)(ops:Array Oper):Prop where
 guard:∀(i:Nat)(o:Oper),ops[i]?=aa o->aC P A hc o=.box->o.guard=ae
 slot:∀(i j:Nat)(o o':Oper),ops[i]?=aa o->ops[j]?=aa o'->i≠j->aC P A hc o=.box->∀d,o.dst=aa d->o'.dst≠aa d
def l9(P:Program)(A:bR)(b:Oper->Bool)(e:Array Oper)(d:List Nat)(f:AS):Prop:=∀c∈d,∀a,e[c]?=aa a->ze P A b a f
def P2(P:Program)(A:bR)(d:Oper->Bool)(a:Array Oper)(e f:Nat):Prop:=∀b c,a[e]?=aa b->a[f]?=aa c->wa P A d a b c=ad
theorem l9.step(c:zf P A cH o)(m:U∉bq)(g:o[U]?=aa B)(h:er P G An X cH A o B L n)(l:l9 P A cH o bq L):l9 P A cH o bq n:=by
 intro a f j i d b e;have p:a≠U:=λk=>m (k▸f);exact P1 h (c.guard U B g) (c.slot a U j B i g p d b e) (l a f j i d b e)
theorem P3(n:zf P A cH o):∀{b l:List Nat}{c d:AS},U∉b->b.Nodup->(∀a∈b,P2 P A cH o U a)->l9 P A cH o (U::b) c->qA P G An X A cH o (U::(b++l)) c d->qA P G An X A cH o (b++U::l) c d
 |[],_,_,_,_,_,_,_,h=>h
 |a::b,l,c,d,B,s,q,f,h=>by
  cases h with
  |cons _ i _ _ F _ g u y=>
   cases y with
   |cons _ j _ _ x _ e v z=>
    let⟨k,m,p⟩:=swap u v (q a (by simp) i j g e) (f U (by simp) i g) (f a (by simp) j e);have t:=kZ.1 s;have C:a≠U:=by grind
    have r:l9 P A cH o (U::b) k:=l9.step n (bq:=U::b) (U:=a) (by grind) e m (λw D=>f w (by
     grind))
    exact .cons a j _ c k d e m (P3 n (by grind) t.2 (by grind) r (.cons U i _ k x d g p z))
inductive pK(c:Nat->Nat->Prop):List Nat->List Nat->Prop
 |nil:pK c [] []
 |cons (i:Nat) (L α β:List Nat) (hα:∀a∈α,c i a) (h:pK c L (α++β)):pK c (i::L) (α++i::β)
theorem pK.mem{d:Nat->Nat->Prop}:∀{b c:List Nat},pK d b c->∀a,a∈c<->a∈b
 |_,_,.nil,a=>Iff.rfl
 |_,_,.cons f b g i e h,a=>by
  have:=pK.mem h a;simp only[dm,b5]at this⊢;constructor;rintro(h|h|h);exact .inr (this.1 (.inl h));exact .inl h;exact .inr (this.1 (.inr h));rintro(h|h);exact .inr (.inl h);rcases this.2 h with h|h;exact .inl h;exact .inr (.inr h)
theorem pK.run(b:zf P A cH o):∀{a k:List Nat}{d g:AS},pK (P2 P A cH o) a k->k.Nodup->a.Nodup->l9 P A cH o a d->qA P G An X A cH o a d g->qA P G An X A cH o k d g
 |_,_,_,_,.nil,_,_,_,h=>h
 |_,_,d,g,.cons e a r J E n,j,C,i,h=>by
  cases h with
  |cons _ H _ _ q _ m p I=>
   have l:=kZ.1 C;have F:(r++J).Nodup:=by
    have:=j;rw[tJ]at this⊢;let⟨u,v,w⟩:=this;exact⟨u,(kZ.1 v).2,λs x t b=>w s x t (by simp[b])⟩
   have z:e∉r:=by
    rw[tJ]at j;exactλB=>j.2.2 e B e (by simp) rfl
   have y:l9 P A cH o a q:=l9.step b l.1 m p (λf c=>i f (by simp[c]));have D:=pK.run b n F l.2 y I;refine P3 b z (by grind) E (λf c=>?_) (.cons e H _ d q g m p D);rcases b5.1 c with rfl|c;exact i _ (by simp);exact i f (by simp[(pK.mem n f).1 (by simp[c])])
inductive pL(ops:Array Oper):Nat->Nat->Prop
 |hv (j:Nat) (o:Oper) (e:Edge) (ho:ops[j]?=aa o) (he:e∈o.after) (hb:Region.binds .any e=ad):pL ops e.on j
 |trans (i k j:Nat) (h:pL ops i k) (h':pL ops k j):pL ops i j
def xK(a:Array Nat):List Edge->Nat
 |[]=>0
 |e::b=>if Region.binds .any e then(2^e.on|||a.getD e.on 0)|||xK a b else xK a b
def zg:List Oper->Array Nat->Array Nat
 |[],a=>a
 |o::r,a=>zg r (a.push (xK a o.after.toList))
theorem P4{g:Array Oper}{i:Array Nat}{c:Nat}{d:Oper}(f:g[c]?=aa d)(j:∀m a,(i.getD m 0).testBit a=ad->pL g a m):∀{b:List Edge},(∀e∈b,e∈d.after)->∀a,(xK i b).testBit a=ad->pL g a c
 |[],_,a,h=>by simp[xK]at h
 |e::b,l,a,h=>by
  simp only[xK]at h;have n:=P4 f j (b:=b) (by grind) a;split at h;rename_i k;rw[arx,arx]at h;simp only[hX]at h;rcases h with(h|h)|h;rw[Nat.testBit_two_pow]at h;simp at h;subst h;exact .hv c d e f (l e (by simp)) k;exact .trans a e.on c (j _ _ h) (.hv c d e f (l e (by simp)) k);grind;grind
theorem JR{d:Array Oper}:∀(r:List Oper)(b:Array Nat),(∀a,r[a]?=d[b.size+a]?)->(∀a c,(b.getD a 0).testBit c=ad->pL d c a)->∀a c,((zg r b).getD a 0).testBit c=ad->pL d c a
 |[],b,_,f=>f
 |o::r,b,g,f=>by
  simp only[zg];have i:d[b.size]?=aa o:=by have:=g 0;simpa using this.symm
  refine JR r _ (λa=>by have:=g (a+1);grind) (λa c h=>?_);rcases IQ a b.size with e|e|e;simp_all[Array.getElem?_push,Nat.ne_of_lt];subst e;have:(b.push (xK b o.after.toList)).getD b.size 0=xK b o.after.toList:=by simp
  grind[P4];grind
def FF(P:Program)(A:bR)(e:Oper->Bool)(a:Array Oper):Bool:=
 let g:=zg a.toList #[]
 (ay a.size).all λd=>(ay a.size).all λc=>
  match a[c]?,a[d]? with
  |aa b,aa f=>(!y (c<d)||(g.getD d 0).testBit c||wa P A e a b f)&&
   (!y (aC P A e b=.box)||(b.guard.isNone&&(y (c=d)||b.dst.isNone||b.dst !=f.dst)))
  |_,_=>ad
theorem acx{done:List Nat}(i:o[U]?=aa B)(f:∀a∈B.after,Region.binds .any a=ad->a.on∈done)(e:∀b∈done,∀N,pL o N b->N∈done)(h:pL o N z):z=U->N∈done:=by
 induction h with
 |hv z n a j g d=>
  grind
 |trans N m z h c k l=>
  grind
theorem JS:∀{e done:List Nat},pF o done e->(∀b∈done,∀a,pL o a b->a∈done)->∀c b d,e=c++b::d->∀a,pL o a b->a∈done\/a∈c
 |[],_,_,_,c,b,d,h,_,_=>by simp at h
 |y::p,done,g,k,c,b,d,h,a,f=>by
  let⟨_,⟨q,m,l⟩,i⟩:=g;have n:∀a,pL o a y->a∈done:=by grind[acx]
  rcases c with _|⟨r,j⟩;grind;simp at h;let⟨rfl,h⟩:=h;rcases JS i (by grind) j b d h a f with h1|h1;grind;grind
theorem JT:∀{b done:List Nat},pF o done b->b.Nodup/\(∀a∈b,a∉done)/\∀a,a<o.size->a∈done\/a∈b
 |[],done,h=>⟨.nil,by simp,λa d=>.inl (h a d)⟩
 |y::j,done,h=>by
  let⟨i,_,c⟩:=h;let⟨e,f,g⟩:=JT c;grind
theorem P5{r:Array Oper}{l:Nat->Nat->Prop}:∀(a c:List Nat),a.Pairwise (· <·)->c.Nodup->(∀b,b∈c<->b∈a)->(∀i∈a,∀b∈a,i<b->l i b\/pL r i b)->(∀f e j,c=f++e::j->∀i∈a,pL r i e->i∈f)->pK l a c
 |[],c,_,_,g,_,_=>by
  have:c=[]:=by simp_all[aaJ]
  subst this;exact .nil
 |i::a,c,x,v,g,o,H=>by
  have q:=AE.1 x;have E:i∉a:=by grind
  obtain⟨k,s,rfl⟩:=EX ((g i).2 (by simp));have p:=v;rw[tJ]at p;let⟨J,A,L⟩:=p;have K:=kZ.1 A;have F:i∉k:=by grind
  refine .cons i a k s (λd m=>?_) (P5 a (k++s) q.2 ?_ (λb=>?_) (λe y C z=>o e (by simp[y]) C (by simp[z])) ?_);have n:d∈i::a:=(g d).1 (by simp[m]);have w:d≠i:=by grind
  have u:d∈a:=by
   rcases b5.1 n with h|h;exact absurd h w;exact h
  rcases o i (by simp) d n (q.1 d u)with h|h;exact h;exfalso;obtain⟨f,j,rfl⟩:=EX m;grind;grind;grind;intro f e j h I G D;rcases List.append_eq_append_iff.1 h with⟨M,rfl,t⟩|⟨B,rfl,t⟩;grind;cases B with
  |nil=>
   grind
  |cons O N=>
   grind
theorem acy(r:FF P A cH o=ad)(B:l9 P A cH o (ay o.size) L)(h:qA P G An X A cH o (ay o.size) L n):∀i,pF o [] i->nV P G An X A o (gG o i) L n:=by
 intro i s;have p:∀a b c d,o[a]?=aa c->o[b]?=aa d->(a<b->((zg o.toList #[]).getD b 0).testBit a=ad\/wa P A cH o c d=ad)/\(aC P A cH c=.box->c.guard=ae/\(a≠b->c.dst=ae\/c.dst≠d.dst)):=by
  intro a b c d l m;have e:a<o.size:=(kY.1 l).1;have k:b<o.size:=(kY.1 m).1;unfold FF at r;simp only[eL]at r;have:=r b (iw.2 k) a (iw.2 e);simp only[l,m,bc,hX,gZ,decide_eq_false_iff_not,decide_eq_true_eq,IU,bne_iff_ne,ne_eq]at this;refine⟨λu=>?_,λt=>?_⟩;grind;grind
 let⟨x,K,I⟩:=JT s;have C:∀b,b∈i<->b∈ay o.size:=λb=>⟨λh=>iw.2 (CV s b h),λh=>(I b (iw.1 h)).resolve_left (by simp)⟩;have t:zf P A cH o:={
  guard:=λa g f q=>((p a a g g f f).2 q).1
  slot:=λa b g w f v D q J j=>by
   have:=((p a b g w f v).2 q).2 D;rcases this with h|h;rw[j]at h;cases h;rw[j]at h;exactλy=>h y.symm}
 refine(pK.run t (P5 (r:=o) _ i (aaK) x C ?_ ?_) x EU B h).ops;intro a e b k u;let⟨c,l⟩:∃c,o[a]?=aa c:=⟨o[a]'(iw.1 e),by simp[iw.1 e]⟩;let⟨d,m⟩:∃d,o[b]?=aa d:=⟨o[b]'(iw.1 k),by simp[iw.1 k]⟩;rcases((p a b _ _ l m).1 u)with h|h;exact .inr (JR o.toList #[] (λE=>by simp) (λE a h=>by simp at h) b a h);refine .inl λg w f v=>?_;grind;intro F c H z a e j
 exact(JS s (by simp) F c H z a j).resolve_left (by simp)
end
end AM
end Go
