/- SnapshotMatchesReference, 5 of 11 -/
import Derived.Test.YtmkbfepnleajhaaGreatDoorXd
import Derived.Shelf.Spec.SlicesInsertGrow
set_option maxRecDepth 100000
open List renaming length->Z,any_cons->TD,any_nil->Kq,getElem_set->ale,map_const'->KB,perm_append_comm_assoc->mi,perm_middle->alf
open Option renaming some->T,none->D,map_none->zW
open Bool renaming true->ab,false->aa,and_self->alg
open Decidable renaming decide->S
open Array renaming toList->bU
open Go.Proofs.Tryz renaming prog->a1
open List.Pairwise renaming imp_of_mem->anz
open List.Perm renaming append_left->kJ
open Nat renaming min_le_left->TR
namespace Go
namespace AM
open Go.Law
variable{U:Nat}{N ey:List Obj}{Y:AV}{fN:AV -> List Obj -> Prop}
variable{aU:Int}
variable{p bm:aN}
variable{O y:Nat}{dH:Nat -> List Nat}
end AM
namespace Law
variable{U:Nat}{il:List (Nat × Nat)}{O:Nat}{bu:List Nat}
section
variable{n:Nat}{D d:cO}{L:List (List Nat)}{of:Nat->Nat}{K:List (Nat×Nat)}
end
end Law
namespace AM
open Go.Law
def ct(b:Nat)(a:Nat->List AV):List (List AV):=(List.range b).map a
theorem RC(a:Nat)(b:Nat->List AV):Z (ct a b)=a:=by simp[ct]
variable{U O:Nat}
theorem zA(a:Nat->List AV)(b:O<U):(ct U a)[O]?=T (a O):=by simp[ct,b]
theorem RD(a:Nat->List AV)(c b:Nat)(d:List AV):(ct c a).set b d=ct c (bK a b d):=by
 refine wI λe=>?_;grind[bK,ct]
theorem BW{b c:Nat->List AV}(d:∀a,a<U->b a=c a):ct U b=ct U c:=rO (by grind)
section
variable{H:List Obj}{id m i:Nat}{F:Nat->List AV}{X:aN}
theorem u2(a:H[id]?=T (.arr 0 1 (ct m F)))(b:i<m):bY 1 (.q id 0 0 m) (I (i:Int)) H=T (.ptr id 0 i 0):=e3 a b
theorem ya(b:H[id]?=T (.arr 0 1 (ct m F)))(c:i<m){a:AV}(d:F i=[a]):aR 1 aa (.ptr id 0 i 0) H=T a:=by
 rw[cr b (zA F c),d]<;>rfl
theorem E4(b:H[id]?=T (.arr 0 1 (ct m F)))(d:i<m){g:AV}(f:F i=[g]){a:AV}(e:a.pl=a)(c:a.bP=ab):df 1 (.ptr id 0 i 0) a H=T (H.set id (.arr 0 1 (ct m (bK F i [a])))):=by
 rw[BR b (zA F d) (by grind) e c,RD,f]<;>rfl
end
variable{il:List (Nat × Nat)}{N:List Obj}
def flat(a:Nat->aN)(b:Nat):aN:=((List.range b).map a).flatten
theorem BY(b:Nat->aN):∀{m a:Nat},a<m->∃d e:aN,∀c:aN,flat (bK b a c) m=d++(c++e)
 |0,_,g=>by omega
 |m+1,a,g=>by
  have i:∀b:Nat->aN,flat b (m+1)=flat b m++b m:=by grind[flat,List.range_succ]
  by_cases f:a=m
  ·subst f
   refine⟨flat b a,[],λc=>?_⟩;rw[i];have k:flat (bK b a c) a=flat b a:=by
    unfold flat
    congr 1
    refine rO λj h=>?_;have:j<a:=by simpa using h
    unfold bK;grind
   grind[bK]
  ·obtain⟨d,e,l⟩:=BY b (m:=m) (a:=a) (by omega)
   refine⟨d,e++b m,λc=>?_⟩;grind[bK]
variable{z:Type}
theorem E5(a:Nat->z)(b:Nat):bK a b (a b)=a:=by
 grind[bK]
variable{p bm:aN}{iX:Obj}
theorem w.qF(b:w N (p++(U,iX)::bm))(a:Obj):w (N.set U a) (p++(U,a)::bm):=w.front (w.set (w.back b) a)
variable{mU:Nat × Nat}
variable{hB:List Obj -> Prop}
variable{M:aj}
theorem E6:sd M U O=ab<->((U:Int),(O:Int))∈(kv M).map (·.1):=by
 simp only[sd,qn,kh,FE,bG,beq_iff_eq];constructor
 ·rintro⟨⟨c,d⟩,b,rfl,rfl⟩;exact b
 ·intro a;exact⟨_,a,rfl,rfl⟩
theorem Jm(a:ky M):Z (kv M)<=10000:=by
 have b:=Bu M 100 M.ah a.2.1 [];have c:=k9 100 a.1;grind[kv]
theorem Jn(a:Nat):flat (λ_=>[]) a=[]:=by simp[flat]
variable{bu:List Nat}
variable{im:List (List Nat)}
variable{V F:Bool}
end AM
namespace Law
variable{z:Type}{U O y:Nat}{b9 lq:Nat -> Bool}{bu:List Nat}
section
def b6(b:Nat->z)(c:Nat)(d:z):Nat->z:=λa=>if a=c then d else b a
@[simp] theorem wo(c:Nat->z)(a:Nat)(b:z):b6 c a b a=b:=by simp[b6]
theorem oF(a:Nat->z)(c:z)(b:O≠U):b6 a U c O=a O:=by simp[b6,b]
inductive gK(G:Nat->List Nat):Nat->Nat->Prop
 |refl (x:Nat):gK G x x
 |step (x y z:Nat) (h:y∈G x) (t:gK G y z):gK G x z
namespace gK
variable{G:Nat->List Nat}
theorem gP(a:O∈G U):gK G U O:=.step U O O a (.refl O)
theorem trans(a:gK G U O)(b:gK G O y):gK G U y:=by
 induction a with
 |refl=>exact b
 |step c d f a _ e=>exact .step c d y a (e b)
theorem closed{a:Nat->Prop}(g:∀U O,a U->O∈G U->a O)(b:gK G U O)(c:a U):a O:=by
 induction b with
 |refl=>exact c
 |step d e f b _ h=>grind
end gK
structure TS where
 count:Nat
 aQ:Nat->Nat
 b4:Nat->Nat
 eo:Nat->Bool
 bw:List Nat
 of:Nat->Nat
 out:List (List Nat)
def TS.enter(a:TS)(b:Nat):TS:=
 {a with count:=a.count+1,aQ:=b6 a.aQ b (a.count+1),b4:=b6 a.b4 b (a.count+1),eo:=b6 a.eo b ab,bw:=a.bw++[b]}
def TS.pop(f:List Nat->List Nat)(a:TS)(e:Nat):TS:=
 let d:=a.bw.idxOf e
 let c:=a.bw.drop d
 {a with bw:=a.bw.take d,eo:=λb=>if b∈c then aa else a.eo b,of:=λb=>if b∈c then Z a.out else a.of b,out:=a.out++[f c]}
mutual
def ih(e:List Nat->List Nat)(c:Nat->List Nat):Nat->Nat->TS->TS
 |0,_,a=>a
 |f+1,b,a=>
  let a:=rF e c f b (c b) (a.enter b)
  if a.b4 b=a.aQ b then a.pop e b else a
def rF (e:List Nat->List Nat) (c:Nat->List Nat):Nat->Nat->List Nat->TS->TS
 |_,_,[],a=>a
 |f,b,d::g,a=>
  rF e c f b g
   (if a.aQ d=0 then
    let a:=ih e c f d a
    {a with b4:=b6 a.b4 b (min (a.b4 b) (a.b4 d))}
   else if a.eo d=ab then{a with b4:=b6 a.b4 b (min (a.b4 b) (a.aQ d))}else a)
end
def TS.gh(a:TS)(b:Nat):Prop:=a.aQ b≠0/\a.eo b=aa
structure Inv(G:Nat->List Nat)(n:Nat)(s:TS)(gr:List Nat):Prop where
 lt:∀x,s.aQ x≠0->x<n
 jE:∀x,s.aQ x<=s.count
 inj:∀x y,s.aQ x≠0->s.aQ x=s.aQ y->x=y
 eo:∀x,s.eo x=ab<->x∈s.bw
 jF:∀x∈s.bw,s.aQ x≠0
 fC:s.bw.Pairwise λx y=>s.aQ x<s.aQ y
 tC:∀x∈gr,x∈s.bw
 wq:∀x y,s.gh x->y∈G x->s.gh y
 black:∀x,s.aQ x≠0->x∉gr->∀y∈G x,s.aQ y≠0
 down:∀x∈s.bw,∀y∈s.bw,s.aQ x<=s.aQ y->gK G x y
 up:∀x∈s.bw,∃g∈gr,s.aQ g<=s.aQ x/\gK G x g
 nM:∀x,s.gh x->∃l,s.out[s.of x]?=T l/\x∈l
 u3:∀i l,s.out[i]?=T l->∀x∈l,s.gh x/\s.of x=i
 scc:∀x y,s.gh x->s.gh y->(s.of x=s.of y<->gK G x y/\gK G y x)
structure hT(s s':TS):Prop where
 aQ:∀x,s.aQ x≠0->s'.aQ x=s.aQ x
 b4:∀x,s.aQ x≠0->s'.b4 x=s.b4 x
 new:∀x,s.aQ x=0->s'.aQ x≠0->s.count<s'.aQ x
 count:s.count<=s'.count
 bw:∃oG,s'.bw=s.bw++oG/\∀x∈oG,s.count<s'.aQ x
 gh:∀x,s.gh x->s'.gh x
def TS.mh(b:TS)(a:Nat):Nat:=Z ((List.range a).filter λc=>b.aQ c=0)
theorem Jo(b:∀x,b9 x=ab->lq x=ab):∀a:List Nat,Z (a.filter b9)<=Z (a.filter lq)
 |[]=>di _
 |x::a=>by
  have c:=Jo b a;grind
theorem filter_lt(d:∀x,b9 x=ab->lq x=ab):∀{a:List Nat}{b:Nat},b∈a->lq b=ab->b9 b=aa->Z (a.filter b9)<Z (a.filter lq)
 |x::a,b,c,f,e=>by
  simp only[Co];rcases cf.1 c with rfl|c
  ·have:=Jo d a
   grind
  ·have g:=filter_lt d c f e
   grind
variable{fr jU:TS}
theorem RF(b:∀a,fr.aQ a≠0->jU.aQ a≠0):jU.mh U<=fr.mh U:=
 Jo (by grind) _
theorem hT.jF(b:hT fr jU)(a:fr.aQ U≠0):jU.aQ U≠0:=by rw[b.aQ U a];exact a
variable{fC:List Nat->List Nat}{G:Nat->List Nat}{n:Nat}
structure E8(G:Nat->List Nat)(n:Nat)(s s':TS)(gr:List Nat)(a:Nat):Prop where
 inv:Inv G n s' gr
 ext:hT s s'
 jF:s'.aQ a≠0
 rG:s'.b4 a<=s'.aQ a
 res:(s'.gh a/\s'.bw=s.bw/\s'.b4 a=s'.aQ a)\/(s'.b4 a<s'.aQ a/\(∃z∈s.bw,s'.aQ z=s'.b4 a/\gK G a z)/\a∈s'.bw/\∀x∈s'.bw,s.count<s'.aQ x->∀y∈G x,y∈s'.bw->s'.b4 a<=s'.aQ y)
structure oH(G:Nat->List Nat)(n:Nat)(s0 s:TS)(gr:List Nat)(a:Nat)(pre:List Nat):Prop where
 a0:s0.aQ a=0
 inv:Inv G n s (gr++[a])
 idx:∀x,s0.aQ x≠0->s.aQ x=s0.aQ x
 b4:∀x,s0.aQ x≠0->s.b4 x=s0.b4 x
 new:∀x,s0.aQ x=0->s.aQ x≠0->s0.count<s.aQ x
 jE:s0.count+1<=s.count
 ia:s.aQ a=s0.count+1
 gh:∀x,s0.gh x->s.gh x
 bw:∃oG,s.bw=s0.bw++a::oG/\∀x∈oG,s0.count+1<s.aQ x
 rG:s.b4 a<=s.aQ a
 yb:∃z∈s.bw,s.aQ z=s.b4 a/\gK G a z
 oG:∀x∈s.bw,s.aQ a<s.aQ x->∀y∈G x,y∈s.bw->s.b4 a<=s.aQ y
 pre:∀b∈pre,s.aQ b≠0/\(b∈s.bw->s.b4 a<=s.aQ b)
theorem RG(c:Inv G n fr bu)(u:fr.aQ U=0)(E:U<n)(x:∀g∈bu,gK G g U):oH G n fr (fr.enter U) bu U []:=by
 have F:U∉fr.bw:=λh=>c.jF U h u;have w:∀a,fr.aQ a≠0->a≠U:=by grind
 have v:∀a,fr.aQ a≠0->(fr.enter U).aQ a=fr.aQ a:=λa b=>oF _ _ (w a b);have l:(fr.enter U).aQ U=fr.count+1:=wo _ _ _;have m:(fr.enter U).bw=fr.bw++[U]:=rfl;have i:∀a∈fr.bw,(fr.enter U).aQ a=fr.aQ a:=λa b=>v a (c.jF a b);have o:∀a,(fr.enter U).gh a<->fr.gh a:=by
  intro a;by_cases f:a=U
  ·subst f
   constructor
   ·rintro⟨_,h⟩
    have:(fr.enter a).eo a=true:=wo _ _ _;grind
   ·rintro⟨h,_⟩;omega
  ·show b6 fr.aQ U _ a≠0/\b6 fr.eo U ab a=aa<->_
   rw[oF _ _ f,oF _ _ f];exact Iff.rfl
 have H:∀a∈fr.bw,gK G a U:=by
  intro a b;obtain⟨g,s,_,A⟩:=c.up a b;exact A.trans (x g s)
 refine{a0:=u,inv:=?_,idx:=v,b4:=λa b=>oF _ _ (w a b),new:=?_,jE:=di _,ia:=l,gh:=by grind,bw:=⟨[],rfl,by simp⟩,rG:=?_,yb:=?_,oG:=?_,pre:=by simp}
 ·refine{lt:=?_,jE:=?_,inj:=?_,eo:=?_,jF:=?_,fC:=?_,tC:=?_,wq:=?_,black:=?_,down:=?_,up:=?_,nM:=?_,u3:=?_,scc:=?_}
  ·intro a b
   by_cases f:a=U
   ·omega
   ·exact c.lt a (by have:(fr.enter U).aQ a=fr.aQ a:=oF _ _ f;omega)
  ·intro a
   by_cases f:a=U
   ·subst f;rw[l];exact di _
   ·have:(fr.enter U).aQ a=fr.aQ a:=oF _ _ f
    rw[this];exact Nat.le_succ_of_le (c.jE a)
  ·intro a d b j
   by_cases f:a=U
   ·by_cases p:d=U
    ·rw[f,p]
    ·have k:(fr.enter U).aQ d=fr.aQ d:=oF _ _ p
     rw[f,l,k]at j;have:=c.jE d;omega
   ·have q:(fr.enter U).aQ a=fr.aQ a:=oF _ _ f
    by_cases p:d=U
    ·rw[p,l,q]at j
     have:=c.jE a;omega
    ·have k:(fr.enter U).aQ d=fr.aQ d:=oF _ _ p
     rw[q,k]at j;rw[q]at b;exact c.inj a d b j
  ·intro a
   rw[m];by_cases f:a=U
   ·subst f
    have:(fr.enter a).eo a=true:=wo _ _ _;simp[this]
   ·have:(fr.enter U).eo a=fr.eo a:=oF _ _ f
    rw[this,c.eo a];simp[f]
  ·intro a b
   rw[m]at b;rcases c5.1 b with h|h
   ·rw[i a h];exact c.jF a h
   grind
  ·rw[m,ak5]
   refine⟨c.fC.imp_of_mem (by grind),by simp,?_⟩;intro a b d e;simp at e;subst e;rw[i a b,l];have:=c.jE a;omega
  ·intro a b
   rw[m];rcases c5.1 b with h|h
   ·exact c5.2 (.inl (c.tC a h))
   grind
  ·intro a d b e
   exact(o d).2 (c.wq a d ((o a).1 b) e)
  ·intro a b t d e
   simp only[c5,lV,not_or]at t;have q:(fr.enter U).aQ a=fr.aQ a:=oF _ _ t.2;rw[q]at b;have:=c.black a b t.1 d e;grind
  ·intro a b d e j
   rw[m]at b e;replace b:=c5.1 b;replace e:=c5.1 e;rcases b with b|b<;>rcases e with e|e
   ·rw[i a b,i d e]at j
    exact c.down a b d e j
   ·grind
   ·simp at b;subst b
    rw[l,i d e]at j;have:=c.jE d;omega
   ·simp at b e;subst b;subst e;exact .refl _
  ·intro a b
   rw[m]at b;rcases c5.1 b with b|b
   ·obtain⟨g,s,k,r⟩:=c.up a b
    refine⟨g,by grind,?_,r⟩;rw[i a b,i g (c.tC g s)];exact k
   ·simp at b;subst b
    exact⟨a,by simp,di _,.refl _⟩
  ·intro a b;exact c.nM a ((o a).1 b)
  ·intro B C y a b
   obtain⟨k,r⟩:=c.u3 B C y a b;exact⟨(o a).2 k,r⟩
  ·intro a d b e;exact c.scc a d ((o a).1 b) ((o d).1 e)
 ·intro a b I
  by_cases f:a=U
  ·grind
  ·have:(fr.enter U).aQ a=fr.aQ a:=oF _ _ f
   omega
 ·have:(fr.enter U).b4 U=fr.count+1:=wo _ _ _
  omega
 ·refine⟨U,by grind,?_,.refl _⟩
  have:(fr.enter U).b4 U=fr.count+1:=wo _ _ _;omega
 ·intro a b z
  rw[m]at b;rcases c5.1 b with b|b
  ·rw[i a b,l]at z
   have:=c.jE a;omega
  grind
theorem Inv.RH(a:Inv G n fr bu)(b:Nat->Nat):Inv G n {fr with b4:=b} bu:=
 {lt:=a.lt,jE:=a.jE,inj:=a.inj,eo:=a.eo,jF:=a.jF,fC:=a.fC,tC:=a.tC,wq:=a.wq,black:=a.black,down:=a.down,up:=a.up,nM:=a.nM,u3:=a.u3,scc:=a.scc}
theorem oH.ne{pre:List Nat}(b:oH G n fr jU bu U pre)(c:fr.aQ O≠0):O≠U:=λa=>c (a▸b.a0)
theorem RI{pre:List Nat}(a:oH G n fr jU bu U pre)(i:O∈G U)(s:jU.aQ O≠0)(m:jU.eo O=ab):
 oH G n fr {jU with b4:=b6 jU.b4 U (min (jU.b4 U) (jU.aQ O))} bu U (pre++[O]):=by
 have j:O∈jU.bw:=(a.inv.eo O).1 m;have e:b6 jU.b4 U (min (jU.b4 U) (jU.aQ O)) U=min (jU.b4 U) (jU.aQ O):=wo _ _ _;refine{a0:=a.a0,inv:=a.inv.RH _,idx:=a.idx,b4:=λd c=>?_,new:=a.new,jE:=a.jE,ia:=a.ia,gh:=a.gh,bw:=a.bw,rG:=?_,yb:=?_,oG:=?_,pre:=?_}
 ·show b6 jU.b4 U _ d=_
  rw[oF _ _ (a.ne c)];exact a.b4 d c
 ·show b6 jU.b4 U _ U<=_
  rw[e];exact iU (TR _ _) a.rG
 ·obtain⟨t,f,g,r⟩:=a.yb
  by_cases h:jU.aQ O<jU.b4 U
  ·refine⟨O,j,?_,.gP i⟩
   grind
  grind
 ·intro d c l q o p
  show b6 jU.b4 U _ U<=_;rw[e];exact iU (TR _ _) (a.oG d c l q o p)
 ·intro b k
  show jU.aQ b≠0/\(b∈jU.bw->b6 jU.b4 U _ U<=jU.aQ b);rw[e];rcases c5.1 k with h|h
  ·obtain⟨f,g⟩:=a.pre b h
   grind
  grind
theorem RJ{pre:List Nat}(a:oH G n fr jU bu U pre)(e:jU.aQ O≠0)(d:¬jU.eo O=ab):oH G n fr jU bu U (pre++[O]):=
 {a with
  pre:=λb c=>by
   rcases c5.1 c with h|h
   ·exact a.pre b h
   ·simp at h;subst h
    exact⟨e,λh=>absurd ((a.inv.eo b).2 h) d⟩}
theorem RK{a:TS}{pre:List Nat}(c:oH G n fr jU bu U pre)(v:O∈G U)(u:jU.aQ O=0)(e:E8 G n jU a (bu++[U]) O):
 oH G n fr {a with b4:=b6 a.b4 U (min (a.b4 U) (a.b4 O))} bu U (pre++[O]):=by
 have k:jU.aQ U≠0:=by rw[c.ia];omega
 have o:b6 a.b4 U (min (a.b4 U) (a.b4 O)) U=min (jU.b4 U) (a.b4 O):=by rw[wo,e.ext.b4 U k]
 have g:∀b,jU.aQ b≠0->a.aQ b=jU.aQ b:=e.ext.aQ;have J:jU.count<a.aQ O:=e.ext.new O u e.jF;obtain⟨H,z,r⟩:=e.ext.bw;have A:∀b∈jU.bw,b∈a.bw:=by grind
 have w:∀b∈a.bw,b∈jU.bw\/jU.count<a.aQ b:=by
  intro b d;rw[z]at d;rcases c5.1 d with h|h
  ·exact .inl h
  ·exact .inr (r b h)
 have K:jU.b4 U<=jU.count:=by
  have:=c.rG;have:=c.inv.jE U;omega
 refine{a0:=c.a0,inv:=e.inv.RH _,idx:=?_,b4:=?_,new:=?_,jE:=iU c.jE e.ext.count,ia:=?_,gh:=λb h=>e.ext.gh b (c.gh b h),bw:=?_,rG:=?_,yb:=?_,oG:=?_,pre:=?_}
 ·intro b d
  have i:=c.idx b d;grind
 ·intro b d
  have i:=c.idx b d;show b6 a.b4 U _ b=_;rw[oF _ _ (c.ne d),e.ext.b4 b (by omega)];exact c.b4 b d
 ·intro b d E
  show fr.count<a.aQ b;by_cases h:jU.aQ b=0
  ·have:=e.ext.new b h E
   have:=c.jE;omega
  ·rw[g b h];exact c.new b d h
 ·show a.aQ U=_
  rw[g U k,c.ia]
 ·obtain⟨oG,i,q⟩:=c.bw
  refine⟨oG++H,?_,?_⟩
  ·grind
  ·intro b d
   show fr.count+1<a.aQ b;rcases c5.1 d with h|h
   ·grind
   ·have:=r b h
    have:=c.jE;omega
 ·show b6 a.b4 U _ U<=a.aQ U
  rw[o,g U k];exact iU (TR _ _) c.rG
 ·obtain⟨f,i,q,I⟩:=c.yb
  have M:a.aQ f=jU.aQ f:=g f (c.inv.jF f i);have left:jU.b4 U<=a.b4 O->∃f∈a.bw,a.aQ f=b6 a.b4 U (min (a.b4 U) (a.b4 O)) U/\gK G U f:=by grind
  rcases e.res with⟨_,_,h⟩|⟨_,⟨t,B,L,C⟩,_,_⟩
  ·grind
  ·by_cases h:jU.b4 U<=a.b4 O
   ·exact left h
   ·exact⟨t,A t B,by grind,(gK.gP v).trans C⟩
 ·intro b d l m F p
  show b6 a.b4 U _ U<=a.aQ m;replace l:a.aQ U<a.aQ b:=l;replace d:b∈a.bw:=d;replace p:m∈a.bw:=p;rw[o];by_cases s:b∈jU.bw
  ·rcases w m p with h|h
   ·have y:jU.aQ U<jU.aQ b:=by rw[g U k,g b (c.inv.jF b s)]at l;exact l
    have:=c.oG b s y m F h;grind
   omega
  ·rcases e.res with⟨_,h,_⟩|⟨_,_,_,h⟩
   ·grind
   grind
 ·intro j x
  show a.aQ j≠0/\(j∈a.bw->b6 a.b4 U _ U<=a.aQ j);rw[o];rcases c5.1 x with h|h
  ·obtain⟨i,q⟩:=c.pre j h
   grind
  grind
theorem ahe(a:oH G n fr jU bu U (G U))(y:jU.b4 U≠jU.aQ U):E8 G n fr jU bu U:=by
 have z:jU.b4 U<jU.aQ U:=Nat.lt_of_le_of_ne a.rG y;obtain⟨C,o,B⟩:=a.bw;have d:=a.inv;have u:U∈jU.bw:=by rw[o];simp
 have x:jU.aQ U≠0:=by rw[a.ia];omega
 refine{inv:=?_,ext:=?_,jF:=x,rG:=a.rG,res:=.inr ⟨z,?_,u,?_⟩}
 ·exact{d with
   tC:=λb c=>d.tC b (by grind)
   black:=λb c I i f=>by
    by_cases j:b=U
    ·subst j;exact(a.pre i f).1
    ·exact d.black b c (by grind) i f
   up:=λb c=>by
    obtain⟨g,e,E,s⟩:=d.up b c;rcases c5.1 e with e|e
    ·grind
    ·simp at e;subst e
     obtain⟨k,l,r,p⟩:=a.yb;obtain⟨m,v,F,t⟩:=d.up k l;have A:m≠g:=by grind
     have w:m∈bu:=by simpa[A]using v
     exact⟨m,w,by omega,s.trans (p.trans t)⟩}
 ·refine⟨a.idx,a.b4,a.new,by have:=a.jE;omega,⟨U::C,o,?_⟩,a.gh⟩
  intro b c;rcases cf.1 c with rfl|c
  ·rw[a.ia];omega
  grind
 ·obtain⟨k,l,r,p⟩:=a.yb
  refine⟨k,?_,r,p⟩;rw[o]at l;rcases c5.1 l with h|h
  ·exact h
  ·rcases cf.1 h with rfl|h
   ·omega
   ·have:=B k h;have:=a.ia;omega
 ·intro b c H i f q
  by_cases j:b=U
  ·subst j;exact(a.pre i f).2 q
  ·refine a.oG b c ?_ i f q
   have:jU.aQ b≠jU.aQ U:=λh=>j (d.inj b U (by omega) h);have:=a.ia;omega
theorem RM:∀{a c:List Nat},U∉a->(a++U::c).idxOf U=Z a
 |[],c,_=>by simp
 |x::a,c,b=>by
  simp only[cf,not_or]at b;have e:(x==U)=false:=by simpa usingλd=>b.1 d.symm
  simp[List.idxOf_cons,e,RM b.2]
theorem RN(a4:∀k a,a∈fC k<->a∈k)(q:Inv G n fr bu)(f:oH G n fr jU bu U (G U))(x:jU.b4 U=jU.aQ U):E8 G n fr (jU.pop fC U) bu U:=by
 obtain⟨d,s,a3⟩:=f.bw;have e:=f.inv;have N:U∉fr.bw:=λh=>q.jF U h f.a0;have B:jU.bw.idxOf U=Z fr.bw:=by rw[s];exact RM N
 have P:jU.bw.drop (jU.bw.idxOf U)=U::d:=by rw[B,s,List.drop_left']<;>rfl
 have V:jU.bw.take (jU.bw.idxOf U)=fr.bw:=by rw[B,s,List.take_left']<;>rfl
 have Q:jU.aQ U≠0:=by rw[f.ia];omega
 have R:∀a∈fr.bw,jU.aQ a=fr.aQ a:=λa b=>f.idx a (q.jF a b);have aB:∀a∈fr.bw,jU.aQ a<=fr.count:=λa b=>by rw[R a b];exact q.jE a
 have w:∀a∈U::d,fr.count<jU.aQ a:=by
  intro a b;rcases cf.1 b with rfl|b
  ·rw[f.ia];omega
  ·grind
 have p:∀a∈U::d,a∈jU.bw:=by grind
 have ax:∀a∈fr.bw,a∉U::d:=by grind
 have O:∀a∈bu,a∈fr.bw:=q.tC;have a9:∀a∈jU.bw,a∈fr.bw\/a∈U::d:=by grind
 have af:∀a∈U::d,∀c∈G a,c∈U::d\/jU.gh c:=by
  intro a b c i;have ah:=w a b;have Y:jU.aQ c≠0:=by
   by_cases j:a=U
   ·subst j;exact(f.pre c i).1
   ·refine e.black a (by omega) ?_ c i
    grind
  cases C:jU.eo c with
  |false=>exact .inr ⟨Y,C⟩
  |true=>
   have E:=(e.eo c).1 C;have aq:jU.b4 U<=jU.aQ c:=by
    by_cases j:a=U
    ·subst j;exact(f.pre c i).2 E
    ·refine f.oG a (p a b) ?_ c i E
     have:jU.aQ a≠jU.aQ U:=λh=>j (e.inj a U (by omega) h);have:=f.ia;omega
   grind
 have K:∀a c,(a∈U::d\/jU.gh a)->c∈G a->(c∈U::d\/jU.gh c):=by
  intro a c b i;rcases b with b|b
  ·grind
  ·exact .inr (e.wq a c b i)
 have z:∀a∈U::d,gK G a U:=by
  intro a b;obtain⟨g,o,_,y⟩:=e.up a (p a b);rcases c5.1 o with o|o
  ·have ak:=O g o
   rcases gK.closed (a:=λa=>a∈U::d\/jU.gh a) K y (.inl b)with h|h
   ·grind
   ·have:=(e.eo g).2 (by grind)
    rw[h.2]at this;cases this
  ·grind
 have A:∀a∈U::d,gK G U a:=by
  intro a b;refine e.down U (p U (by simp)) a (p a b) ?_;have:=w a b;have:=f.ia;omega
 have H:(jU.pop fC U).aQ=jU.aQ:=rfl;have l:(jU.pop fC U).bw=fr.bw:=V;have I:∀a,(jU.pop fC U).eo a=if a∈U::d then aa else jU.eo a:=by grind[TS.pop]
 have u:∀a,(jU.pop fC U).of a=if a∈U::d then Z jU.out else jU.of a:=by grind[TS.pop]
 have J:(jU.pop fC U).out=jU.out++[fC (U::d)]:=by simp only[TS.pop,P]
 have t:∀a,(jU.pop fC U).gh a<->(jU.gh a\/a∈U::d):=by
  intro a;unfold TS.gh;rw[H,I];by_cases h:a∈U::d
  ·simp only[h,if_true,or_true,and_true,iff_true]
   have:=w a h;omega
  ·simp[h]
 have S:∀a,jU.gh a->a∉U::d:=λa b h=>by
  have:=(e.eo a).2 (p a h);rw[b.2]at this;cases this
 refine{inv:=?_,ext:=?_,jF:=Q,rG:=f.rG,res:=.inl ⟨(by grind),l,x⟩}
 ·refine{lt:=e.lt,jE:=e.jE,inj:=e.inj,eo:=?_,jF:=?_,fC:=?_,tC:=?_,wq:=?_,black:=?_,down:=?_,up:=?_,nM:=?_,u3:=?_,scc:=?_}
  ·intro a
   rw[I,l];by_cases h:a∈U::d
   ·grind
   ·simp only[h,if_false]
    rw[e.eo a,s,c5];grind
  ·intro a b
   rw[l]at b;exact e.jF a (by grind)
  ·rw[l,H]
   have:=e.fC;grind
  ·grind
  ·grind
  ·intro a b bb c i
   by_cases j:a=U
   ·subst j;exact(f.pre c i).1
   ·exact e.black a b (by grind) c i
  ·intro a b c i
   rw[l]at b i;exact e.down a (by grind) c (by grind)
  ·intro a b
   rw[l]at b;obtain⟨g,o,L,M⟩:=q.up a b;grind
  ·intro a b
   rw[t]at b;rw[u,J];by_cases h:a∈U::d
   ·grind
   ·obtain⟨k,x,be⟩:=e.nM a (b.resolve_right h)
    grind
  ·intro F k r a b
   rw[J]at r;rw[t,u];by_cases h:F<Z jU.out
   ·rw[lU h]at r
    obtain⟨L,M⟩:=e.u3 F k r a b;grind
   ·rw[FH (by omega)]at r
    grind
  ·intro a c b i
   rw[t]at b i;rw[u,u];have ar:∀v,jU.gh v->jU.of v<Z jU.out:=λv ac=>by
    obtain⟨k,x,_⟩:=e.nM v ac;grind
   have au:∀a c,a∈U::d->jU.gh c->¬gK G c a:=λa c b i y=>S a (gK.closed (λad ae W X=>e.wq ad ae W X) y i) b;by_cases h:a∈U::d<;>by_cases m:c∈U::d
   ·simp only[h,m,if_true,true_iff]
    exact⟨(z a h).trans (A c m),(z c m).trans (A a h)⟩
   ·grind
   ·grind
   ·simp only[h,m,if_false]
    exact e.scc a c (b.resolve_right h) (i.resolve_right m)
 ·refine⟨f.idx,f.b4,f.new,by have:=f.jE;exact Nat.le_of_succ_le this,by grind,λa b=>(t a).2 (.inl (f.gh a b))⟩
theorem E9(d:U<n)(c:fr.aQ U=0):(fr.enter U).mh n<fr.mh n:=by
 refine filter_lt (b:=U) ?_ (la.2 d) (by simp[c]) ?_
 ·intro a e
  simp only[decide_eq_true_eq]at e⊢;by_cases b:a=U
  ·grind
  ·have:(fr.enter U).aQ a=fr.aQ a:=oF _ _ b
   omega
 ·have:(fr.enter U).aQ U=fr.count+1:=wo _ _ _
  simp[this]
mutual
theorem Fa(q:∀t d,d∈fC t<->d∈t)(l:∀d,d<n->∀y∈G d,y<n):∀(f a:Nat)(b:TS)(c:List Nat),Inv G n b c->b.aQ a=0->a<n->(∀g∈c,gK G g a)->b.mh n<=f->E8 G n b (ih fC G f a b) c a
 |0,a,b,c,z,u,e,i,o=>by
  have:=E9 (fr:=b) e u;omega
 |f+1,a,b,c,z,u,e,i,o=>by
  have E:=E9 (fr:=b) e u;have m:=Fb q l f a e c i b (G a) [] (b.enter a) (RG z u e i) (by simp) (by omega);grind[ih,RN,ahe]
theorem Fb (q:∀t d,d∈fC t<->d∈t) (l:∀d,d<n->∀y∈G d,y<n):∀(f a:Nat)(_:a<n)(c:List Nat)(_:∀g∈c,gK G g a)(p:TS)(k pre:List Nat)(b:TS),oH G n p b c a pre->G a=pre++k->b.mh n<=f->oH G n p (rF fC G f a k b) c a (G a)
 |f,a,e,c,i,p,[],pre,b,m,v,o=>by
  simp only[rF];rw[v,rP];exact m
 |f,a,e,c,i,p,j::k,pre,b,m,v,o=>by
  have s:j∈G a:=by rw[v];simp
  have x:G a=(pre++[j])++k:=by rw[v];simp
  simp only[rF];split
  ·rename_i r
   have A:=Fa q l f j b (c++[a]) m.inv r (l a e j s) (by
    intro g B;rcases c5.1 B with h|h
    ·exact(i g h).trans (.gP s)
    ·simp at h;subst h;exact .gP s) o
   refine Fb q l f a e c i p k (pre++[j]) _ (RK m s r A) x ?_;exact iU (RF (fr:=b) (λd C=>A.ext.jF C)) o
  ·rename_i r
   split
   ·rename_i w
    exact Fb q l f a e c i p k (pre++[j]) _ (RI m s r w) x o
   ·rename_i w
    exact Fb q l f a e c i p k (pre++[j]) _ (RJ m r w) x o
end
def TS.init:TS:={count:=0,aQ:=λ_=>0,b4:=λ_=>0,eo:=λ_=>aa,bw:=[],of:=λ_=>0,out:=[]}
theorem RO:Inv G n TS.init []:=by
 refine{lt:=?_,jE:=?_,inj:=?_,eo:=?_,jF:=?_,fC:=?_,tC:=?_,wq:=?_,black:=?_,down:=?_,up:=?_,nM:=?_,u3:=?_,scc:=?_}<;>simp[TS.init,TS.gh]
def kb(fC:List Nat->List Nat)(G:Nat->List Nat)(c:Nat):List Nat->TS->TS
 |[],b=>b
 |a::d,b=>kb fC G c d (if b.aQ a=0 then ih fC G c a b else b)
theorem RP(k:∀e c,c∈fC e<->c∈e)(i:∀c,c<n->∀p∈G c,p<n)(d:Nat)(j:n<=d):∀(e:List Nat)(b:TS),(∀a∈e,a<n)->Inv G n b []->
 Inv G n (kb fC G d e b) []/\(∀a∈e,(kb fC G d e b).aQ a≠0)/\∀c,b.aQ c≠0->(kb fC G d e b).aQ c≠0
 |[],b,_,g=>⟨g,by simp,λ_ f=>f⟩
 |a::e,b,l,g=>by
  simp only[kb];have m:b.mh n<=d:=iU (iU (vh _ _) (by simp)) j;have step:Inv G n (if b.aQ a=0 then ih fC G d a b else b) []/\(if b.aQ a=0 then ih fC G d a b else b).aQ a≠0/\∀c,b.aQ c≠0->(if b.aQ a=0 then ih fC G d a b else b).aQ c≠0:=by
   split
   ·rename_i f
    have h:=Fa k i d a b [] g f (l a (by simp)) (by simp) m;exact⟨h.inv,h.jF,λc o=>h.ext.jF o⟩
   ·grind
  obtain⟨q,r,s⟩:=RP k i d j e _ (by grind) step.1;grind
theorem ahf(r:∀b a,a∈fC b<->a∈b)(l:∀a,a<n->∀d∈G a,d<n)(h:Nat)(m:n<=h)(e:TS)(q:e=kb fC G h (List.range n) TS.init):
 e.bw=[]/\(∀a,a<n->∃b,e.out[e.of a]?=T b/\a∈b)/\(∀i b,e.out[i]?=T b->∀a∈b,a<n/\e.of a=i)/\∀a d,a<n->d<n->(e.of a=e.of d<->gK G a d/\gK G d a):=by
 subst q;obtain⟨f,u,_⟩:=RP (G:=G) (n:=n) r l h m (List.range n) TS.init (by grind) RO;have s:(kb fC G h (List.range n) TS.init).bw=[]:=by
  apply Tx.2;intro a c;obtain⟨g,o,_⟩:=f.up a c;simp at o
 have j:∀a,a<n->(kb fC G h (List.range n) TS.init).gh a:=by
  intro a c;refine⟨(by grind),?_⟩;cases p:(kb fC G h (List.range n) TS.init).eo a with
  |false=>rfl
  |true=>
   have:=(f.eo a).1 p;grind
 exact⟨s,λa c=>f.nM a (j a c),λi b k a c=>⟨f.lt a (f.u3 i b k a c).1.1,(f.u3 i b k a c).2⟩,λa d c t=>f.scc a d (j a c) (j d t)⟩
end
end Law
namespace AM
open Go.Law
def fV(c:Nat)(a:Nat->Nat):List (List AV):=(List.range c).map λb=>cN (a b)
variable{U O:Nat}
theorem RQ(a:Nat->Nat)(b:O<U):(fV U a)[O]?=T (cN (a O)):=by simp[fV,b]
theorem ahg(a:Nat->Nat)(c b d:Nat):(fV c a).set b (cN d)=fV c (Go.Law.b6 a b d):=by
 refine wI λe=>?_;grind[Go.Law.b6,fV]
variable{N:List Obj}{jV:Nat -> Nat}
theorem zB{id g:Nat}(a:N[id]?=T (.arr g 1 (fV U jV)))(b:O<U):aR 1 aa (.ptr id g O 0) N=T (I (jV O:Int)):=by
 rw[cr a (RQ jV b)]<;>rfl
theorem BZ{id g:Nat}(a:Nat)(b:N[id]?=T (.arr g 1 (fV U jV)))(c:O<U):df 1 (.ptr id g O 0) (I (a:Int)) N=T (N.set id (.arr g 1 (fV U (Go.Law.b6 jV O a)))):=by
 rw[BR b (RQ jV c) (by simp[cN]) rfl rfl];have:(cN (jV O)).set 0 (I (a:Int))=cN a:=rfl;rw[this,ahg]
theorem ahh(a b:Int):PR C 297 [I a,I b] (.bool (S (a<b))):=by
 refine aaG.pr ?_;simp only[bo];refine f (Hd a) ?_;simp only[fE,cZ,if_false,A,Q,G];simp
structure zC(f:Nat->Nat)(i j:Nat):Prop where
 le:j<=i
 fz:∀a b,a<b->b<=i->a≠j->b≠j->f a<=f b
 up:∀b,j<b->b<=i->f j<=f b
theorem zC.step(b:zC jV U (O+1))(o:jV (O+1)<jV O):zC (dt jV O (O+1)) U O:=by
 have n:dt jV O (O+1) O=jV (O+1):=by simp[dt]
 have j:dt jV O (O+1) (O+1)=jV O:=by simp[dt]
 have g:∀f,f≠O->f≠O+1->dt jV O (O+1) f=jV f:=by grind[dt]
 refine⟨by have:=b.le;omega,λd a l h k i=>?_,λa h m=>?_⟩
 ·by_cases e:d=O+1
  ·subst e
   rw[j,g a i (by omega)];exact b.fz O a (by omega) h (by omega) (by omega)
  ·rw[g d k e]
   by_cases c:a=O+1
   ·subst c
    rw[j];exact b.fz d O (by omega) (by omega) e (by omega)
   ·rw[g a i c]
    exact b.fz d a l h e c
 ·rw[n]
  by_cases c:a=O+1
  ·grind
  ·rw[g a (by omega) c]
   exact b.up a (by omega) m
theorem zC.done(c:zC jV U O)(e:O=0\/jV (O -1)<=jV O):∀b a,b<a->a<=U->jV b<=jV a:=by
 intro b a g h;by_cases d:b=O
 ·subst d;exact c.up a g h
 ·by_cases f:a=O
  ·subst f
   have e:=e.resolve_left (by omega);by_cases i:b=a -1
   ·grind
   ·exact iU (c.fz b (a -1) (by omega) (by omega) d (by omega)) e
  ·exact c.fz b a g h d f
def k6(a:Nat->Nat)(b:Nat):List Nat:=(List.range b).map a
variable{y:Nat}
theorem ahi(d:O<U)(e:y<U):(k6 (dt jV O y) U).Perm (k6 jV U):=by
 have a:=(Jd d e).map jV;rw[wG]at a;have c:jV∘dt (λb=>b) O y=dt jV O y:=by
  funext b
  simp only[dt,Cq];split
  ·rfl
  ·split<;>rfl
 rw[c]at a;exact a
variable{p:aN}
theorem ahj{id g:Nat}(a0:U<=1000000)(Y:w N ((id,.arr g 1 (fV U jV))::p)):
 HR C 291 [.q id g 0 U,I 0,I (U:Int)] N (λah P=>ah=.aE []/\∃l,(k6 l U).Perm (k6 jV U)/\(∀i h,i<h->h<U->l i<=l h)/\w P ((id,.arr g 1 (fV U l))::p)):=by
 refine ZY.hq ?_;rw[show aS .s .add (I 0) (I 1)=T (I ((0+1:Nat):Int))from ba (U:=0) (by omega),Q];refine bB (z:=Nat×(Nat->Nat)×List Obj) (λd=>[I (d.1:Int)]) (λd=>d.2.2) (λd=>U -d.1) (λd=>1<=d.1/\(k6 d.2.1 U).Perm (k6 jV U)/\(∀i h,i<h->h<d.1->h<U->d.2.1 i<=d.2.1 h)/\w d.2.2 ((id,.arr g 1 (fV U d.2.1))::p)) (0+1,jV,N) ⟨by simp,.refl _,λi h k n _=>by simp at n;omega,Y⟩ ?_
 rintro⟨t,X,R⟩ ⟨ac,J,L,y⟩ aq M;simp only at ac J L y M⊢;simp only[G,A,Q,a];refine b (λF=>?_) (λaB=>?_)
 ·have F:t<U:=by simpa using F
  refine bB (z:=Nat×(Nat->Nat)×List Obj) (λd=>[I (d.1:Int)]) (λd=>d.2.2) (λd=>d.1) (λd=>(k6 d.2.1 U).Perm (k6 jV U)/\zC d.2.1 t d.1/\w d.2.2 ((id,.arr g 1 (fV U d.2.1))::p)) (t,X,R) ⟨J,⟨di _,λi h k n au ax=>L i h k (by omega) (by omega),λh k n=>by omega⟩,y⟩ ?_;rintro⟨c,e,x⟩ ⟨K,r,o⟩ ar O;simp only at K r o O⊢;have j:=o.get (U:=id) (iX:=.arr g 1 (fV U e)) (by simp);have aQ:=r.le
  refine eh (N:=x) (S (0<c)&&S (e c<e (c -1))) (λv E=>?_) ?_
  ·simp only[G,er,Q]
   refine aZ (λm=>?_) (λm=>kB E ?_)
   ·have m:0<c:=by simpa using m
    rw[e3 j (show c<U by omega),Q,zB j (by omega),Q,og (by omega) (by omega),Q];rw[show(c:Int) -1=((c -1:Nat):Int)by omega,e3 j (by omega),Q,zB j (by omega),Q];refine f (ahh _ _) (kB E ?_);simp[m]
   grind
  ·simp only[G]
   refine b (λu=>?_) (λu=>?_)
   ·simp only[bG,decide_eq_true_eq]at u
    obtain⟨c,rfl⟩:∃ad,c=ad+1:=⟨c -1,by omega⟩;have V:((c+1:Nat):Int) -1=(c:Int):=by omega
    rw[og (by omega) (by omega),Q,Q,V,e3 j (show c<U by omega),Q,zB j (by omega),Q,e3 j (by omega),Q,zB j (by omega),Q,Q,
     BZ _ j (by omega),Q]
    have z:=w.set (p:=p) o (.arr g 1 (fV U (Go.Law.b6 e (c+1) (e c))));have H:=z.get (U:=id) (iX:=.arr g 1 (fV U (Go.Law.b6 e (c+1) (e c)))) (by simp);rw[e3 H (show c<U by omega),Q,BZ _ H (by omega),Q,Q];have B:=w.set (p:=p) z (.arr g 1 (fV U (Go.Law.b6 (Go.Law.b6 e (c+1) (e c)) c (e (c+1)))));have W:Go.Law.b6 (Go.Law.b6 e (c+1) (e c)) c (e (c+1))=dt e c (c+1):=by
     funext v
     simp only[Go.Law.b6,dt]
    rw[W]at B⊢;refine O (c,dt e c (c+1),_) ⟨(by grind[ahi,trans]),r.step (by grind),B⟩ (by simp)
   ·rw[ba,Q]
    have Z:c=0\/e (c -1)<=e c:=by
     simp only[KA,decide_eq_false_iff_not]at u;omega
    refine M (t+1,e,x) ⟨by simp,K,λi h k n _=>r.done Z i h k (by omega),o⟩ (by omega)
 grind
theorem ahk{id g:Nat}(l:U<=12)(b:AV)(h:b.pl=b)(f:w N ((id,.arr g 1 (fV U jV))::p)):
 HR C 243 [.q id g 0 U,I 0,I (U:Int),b] N (λj e=>j=.aE []/\∃a,(k6 a U).Perm (k6 jV U)/\(∀d c,d<c->c<U->a d<=a c)/\w e ((id,.arr g 1 (fV U a))::p)):=by
 refine XC.hq ?_ (by rw[eJ,eJ,eJ,eJ,h]<;>rfl);refine bB (z:=Unit) (λ_=>[I 0,I (U:Int),b,tt,tt]) (λ_=>N) (λ_=>0) (λ_=>True) () trivial ?_;intro _ _ k _;simp only[G,i];rw[og (by omega) (by omega),Q,jN,Q];refine a7 ?_ (by simp;omega);refine cY (ahj (by omega) f) rfl ?_;grind
theorem ahl(b:U<=12):∃a:Int,PR C 189 [.int .u64 (U:Int)] (I a):=by
 have:U=0\/U=1\/U=2\/U=3\/U=4\/U=5\/U=6\/U=7\/U=8\/U=9\/U=10\/U=11\/U=12:=by omega
 rcases this with rfl|rfl|rfl|rfl|rfl|rfl|rfl|rfl|rfl|rfl|rfl|rfl|rfl
 ·exact⟨((0:Nat):Int),p7.pr rfl (aI.int _ _ _)⟩
 ·exact⟨((1:Nat):Int),p7.pr rfl (aI.int _ _ _)⟩
 ·exact⟨((2:Nat):Int),p7.pr rfl (aI.int _ _ _)⟩
 ·exact⟨((2:Nat):Int),p7.pr rfl (aI.int _ _ _)⟩
 ·exact⟨((3:Nat):Int),p7.pr rfl (aI.int _ _ _)⟩
 ·exact⟨((3:Nat):Int),p7.pr rfl (aI.int _ _ _)⟩
 ·exact⟨((3:Nat):Int),p7.pr rfl (aI.int _ _ _)⟩
 ·exact⟨((3:Nat):Int),p7.pr rfl (aI.int _ _ _)⟩
 ·exact⟨((4:Nat):Int),p7.pr rfl (aI.int _ _ _)⟩
 ·exact⟨((4:Nat):Int),p7.pr rfl (aI.int _ _ _)⟩
 ·exact⟨((4:Nat):Int),p7.pr rfl (aI.int _ _ _)⟩
 ·exact⟨((4:Nat):Int),p7.pr rfl (aI.int _ _ _)⟩
 ·exact⟨((4:Nat):Int),p7.pr rfl (aI.int _ _ _)⟩
theorem RR(c:U<=12):∃a:Int,PR C 120 [.int .u64 (U:Int)] (I a):=by
 obtain⟨a,b⟩:=ahl c;refine⟨a,X7.pr ?_⟩;exact f b (.int _ _ _)
theorem ahm{id g:Nat}(d:U<=12)(i:w N ((id,.arr g 1 (fV U jV))::p)):
 HR C 168 [.q id g 0 U] N (λm h=>m=.aE []/\∃a,(k6 a U).Perm (k6 jV U)/\(∀c b,c<b->b<U->a c<=a b)/\w h ((id,.arr g 1 (fV U a))::p)):=by
 refine aal.hq ?_;obtain⟨l,j⟩:=RR d;have k:IntKind.u64.wrap (U:Int)=U:=by
  have:U=0\/U=1\/U=2\/U=3\/U=4\/U=5\/U=6\/U=7\/U=8\/U=9\/U=10\/U=11\/U=12:=by omega
  rcases this with e|e|e|e|e|e|e|e|e|e|e|e|e<;>subst e<;>rfl
 simp only[nj,Q,AW,k];refine f j ?_;refine cY (ahk d (I l) rfl i) rfl ?_;grind
variable{V F:Bool}
theorem Jp(a c:aw)(e:eO a.ad):PR C 100 [.agg (cF V a),.agg (cF F c)] (I (db a c)):=by
 refine X4.pr ?_;simp only[sR,Q,a6,aH,p5,ug,aJ];refine f (yX _ _) ?_;simp only[cd,Q];refine b (λd=>ig ?_) (λd=>f (Na _ _ e) (ig ?_))
 ·grind[db,fG]
 grind[db,fG]
variable{bp:Bool}
theorem eP.RS(B:eP C)(k:aj)(c:aw)(y:dW k)(O:kz k)(M:Sm c.ad):PR C 101 [.agg (cP V F k),.agg (cF bp c)] (.bool (qw k c)):=by
 refine Xk.pr ?_;simp only[dS,sR,Q,a6,aH,oe,iy,p5,ug,uh,aJ,a8,A,gF,bo,G];refine dy (λj=>a7 (bE ?_)) (λj=>?_)
 ·grind[decide,qw]
 have H:S (0<=c.aq)=true:=by simp at j⊢;omega
 rw[qw,H,cu];obtain⟨p,K⟩:∃p:Nat,c.aq=p:=⟨c.aq.toNat,by grind⟩;simp only[K,ej];refine dy (λj=>a7 (bE ?_)) (λj=>?_)
 ·grind
 have s:p<Z k.d:=by simp at j;omega
 rw[bC s];have r:=bs s;have W:=y.q0 _ r;have U:=O _ r;simp only[aC s (hD _ _),Q,a6,aH,ue,aJ,a8,cd,ub,vD,qa,qb,qc,q2,qd,qe,qf];generalize k.d[p]=e at*;refine b (λj=>bE ?_) (λj=>?_)
 ·grind[v5]
 have R:Z c.ad=Z e.bb:=by simp at j;omega
 have J:v5 k e c=((List.range (Z c.ad)).all (uJ e.bb c.ad)&&xE k e c):=by
  rw[v5];have:((Z c.ad:Int)==Z e.bb)=true:=by simpa using j
  rw[this]<;>rfl
 rw[J];refine et (U:=Z c.ad) (c:=λh=>ff::I h::bF V e) (λh=>(List.range h).all (uJ e.bb c.ad)=ab) (by simp) rfl (λh q x z N=>?_) (λx z=>?_)
 ·have w:h<Z e.bb:=by omega
  have P:uJ e.bb c.ad h=(qX c.ad[h]&&c.ad[h].ty==e.bb[h]):=by
   rw[uJ,bC q,bC w]
  have gv:∀l:aO,g (cV l) 0=I l.ty:=λ_=>rfl;have gc:∀l:aO,(AV.agg [I l.ty,g (cV l) 1,g (cV l) 2])=.agg (cV l):=λ_=>rfl;simp only[i,G,qa,qb,qc,q2,qd,qe,qf,A,Q,a,q,decide_true,aC q (lZ _),aC w (g4 _),oa,l2,gv,gc,aH,j4,cd];refine a7 (dy (λn=>?_) (λn=>?_))
  ·refine a7 (bE ?_)
   grind
  ·have E:(c.ad[h].ty==e.bb[h])=true:=by simpa using n
   refine f (B.Nr _) ?_;simp only[bD,Q];refine c8 (λv=>bE ?_) (λv=>?_)
   ·grind
   ·rw[M.inc q,Q]
    exact N (by grind)
 ·rw[x,cu,xE]
  simp only[i,G,qa,qb,qc,q2,qd,qe,qf,A,Q,a,ca,decide_false];refine bq (b (λn=>?_) (λn=>?_))
  ·rw[if_pos (by grind)]
   simp only[c9,Q];simp
  ·rw[if_neg (by grind)]
   obtain⟨u,r⟩:∃u:Nat,e.of=u:=⟨e.of.toNat,by grind⟩;have t:u<Z k.m:=by omega
   have L:∀o:bM,(AV.agg [.str o.ar,eS V cS o.au,eS V bX o.eg,I o.bf])=.agg (bn V o):=λ_=>rfl;simp only[r,ej,bC t,aC t (jh _ _),Q,hF,xe,Be,Bf,Bg,Bh,L,a8,A];refine aZ (λv=>aZ (λE=>?_) (by grind[bE])) (by grind[bE]);refine f (Ej _ (y.aV _ (bs t))) ?_;simp only[cd,Q];simp_all
variable{b2:Bool}
theorem eP.ahn(p:eP C)(d:aj)(b:List aw)(u:dW d)(r:kz d)(q:Sm b)(m:∀e∈b,eO e.ad):PR C 47 [.agg (cP V F d),eS b2 (cF bp) b] (.bool (jk d b)):=by
 refine Zn.pr ?_;have v:∀e:aw,dh 3 (.agg (cF bp e))=T (cF bp e):=λ_=>gS rfl rfl;have gc:∀e:aw,(AV.agg [g (cF bp e) 0,g (cF bp e) 1,g (cF bp e) 2])=.agg (cF bp e):=λ_=>rfl;simp only[dS,Q,a8,fQ];refine et (U:=Z b) (c:=λc=>[ff,I c]) (λc=>(List.range c).all (lL d b)=ab) (by simp) rfl (λc h t o E=>?_) (λt o=>?_)
 ·simp only[i,G,A,Q,a,h,decide_true,aC h (hE _ _),my,er,v,gc]
  have w:lL d b c=(qw d b[c]&&uK b c):=by rw[lL,bC h]
  have no:lL d b c=aa->aI [] .res (AV.pl ff) (.bool (jk d b)):=λk=>bE (xF h k);have yes:lL d b c=ab->bd (aS .s .add (I c) (I 1)) λz=>o [ff,z] []:=λk=>by
   rw[q.inc h,Q];grind
  refine a7 (pg (N:=[]) (!lL d b c) [g (cF bp b[c]) 0,g (cF bp b[c]) 1,g (cF bp b[c]) 2] (λJ x=>?_) ?_)
  ·rw[w]at x
   cases c with
   |zero=>
    refine aZ (λl=>by simp at l) (λ_=>?_);refine f (p.RS d b[0] u r (m _ (bs h)).1) ?_;simp only[bD,Q];grind[uK]
   |succ j=>
    have n:j<Z b:=by omega
    have y:aS .s .sub (I ((j+1:Nat):Int)) (I 1)=T (I (j:Int)):=by
     rw[og (by omega) (by have:=q.lt h;omega)];simp
    refine aZ (λ_=>?_) (λl=>by simp at l);rw[y,Q];simp only[aC n (hE _ _),Q,my];refine f (Jp b[j] b[j+1] (m _ (bs n))) ?_;have H:uK b (j+1)=S (db b[j] b[j+1]<0):=by
     rw[uK,bC n,bC h]
    simp only[gF,Q];refine dy (λk=>?_) (λk=>?_)
    ·grind
    ·refine f (p.RS d b[j+1] u r (m _ (bs h)).1) ?_
     simp only[bD,Q];grind
  ·simp only[G]
   exact c8 no yes
 ·simp only[i,G,A,Q,a,ca,decide_false]
  exact bq (hR t)
theorem eP.B0(d:eP C)(a:aj)(b:List aw)(e:dW a)(i:Sm b)(h:∀g∈b,eO g.ad):PR C 14 [.agg (cP V F a),eS bp (cF b2) b] (.bool (iH a&&jk a b)):=by
 refine Yy.pr ?_;simp only[dS,Q,fQ,bo];refine f (d.Rn a e) (aZ (λc=>?_) (λc=>bE (by rw[c]<;>rfl)));exact f (d.ahn a b e (QL (QM.1 c)) i h) (gU (by rw[c]<;>rfl))
variable{hv:AV -> Prop}
theorem RU(e:U<4611686018427387904)(f:hv (I ((U/2:Nat):Int))):bd (jM (.int .u64) (I (U:Int))) λa=>bd (aS .s .shr a (.int .u64 (1))) λb=>bd (jM (.int .i64) b) hv:=by
 have c:IntKind.wrap .u64 (U:Int)=U:=by
  simp only[IntKind.wrap];have:(U:Int)%18446744073709551616=U:=Int.emod_eq_of_lt (by omega) (by omega);simp[IntKind.bits,IntKind.signed];omega
 have d:aS .s .shr (.int .u64 (U:Int)) (.int .u64 (1))=T (.int .u64 ((U/2:Nat):Int)):=by
  have:(U:Int).fdiv 2=((U/2:Nat):Int):=by
   rw[Int.fdiv_eq_ediv_of_nonneg _ (by omega)];omega
  simp[aS,IntKind.bits];omega
 grind[IntKind.wrap,wrap64,AW,Q]
structure u4(fs:List aw)(t:aw)(i:Nat):Prop where
 le:i<=Z fs
 lo:∀j(hj:j<Z fs),j<i->db fs[j] t<0
 hi:∀j(hj:j<Z fs),i<=j->0<=db fs[j] t
def k7(b:List aw)(d:aw)(c:Nat):Bool:=match b[c]? with|some a=>db a d==0|none=>aa
theorem ahq(c:List aw)(d:aw)(K:Sm c)(x:∀E∈c,eO E.ad)(N:fY c)(S:∀g v(p:g<Z c)(O:v<Z c),g<v->(0<=db c[g] d->0<db c[v] d)):
 ∃k,u4 c d k/\PR C 199 [eS F (cF V) c,.agg (cF bp d),.fn 100 [] []] (.aE [I (k:Int),.bool (k7 c d k)]):=by
 have key:∃z,PR C 199 [eS F (cF V) c,.agg (cF bp d),.fn 100 [] []] z/\∃k,u4 c d k/\z=.aE [I (k:Int),.bool (k7 c d k)]:=by
  refine ZG.ex ?_;simp only[sR,Q,a8];refine bB (z:=Nat×Nat) (λh=>[I h.1,I h.2]) (λ_=>[]) (λh=>h.2 -h.1) (λh=>h.1<=h.2/\h.2<=Z c/\(∀g(p:g<Z c),g<h.1->db c[g] d<0)/\∀g(p:g<Z c),h.2<=g->0<=db c[g] d) (0,Z c) ⟨by simp,by simp,by simp,λg p m=>by simp at m;omega⟩ ?_;rintro⟨e,l⟩ ⟨H,q,r,t⟩ L u;simp only at H q r t u⊢;simp only[i,G,A,Q,a];unfold Sm at K;refine b (λm=>?_) (λm=>?_)
  ·have m:e<l:=by simpa using m
   have J:aS .s .add (I (e:Int)) (I (l:Int))=T (I ((e+l:Nat):Int)):=by
    rw[Dn (by omega) (by omega)];simp
   have y:(e+l)/2<Z c:=by omega
   rw[J,Q];refine RU (by omega) ?_;generalize M:(e+l)/2=n at*;simp only[aC y (hE _ _),Q,my];refine bj (dD:=100) (b:=[.agg (cF V c[n]),.agg (cF bp d)]) rfl ?_;refine f (Jp c[n] d (x _ (bs y))) ?_;simp only[A,Q];refine b (λo=>?_) (λo=>?_)
   ·have o:db c[n] d<0:=by simpa using o
    rw[ba,Q];refine u (n+1,l) ⟨by omega,q,λg p R=>?_,t⟩ (by omega);grind
   ·have o:0<=db c[n] d:=by simpa using o
    refine u (e,n) ⟨by omega,by omega,r,λg p P=>?_⟩ (by omega);grind
  ·have:e=l:=by simp at m;omega
   subst this;have w:u4 c d e:=⟨q,r,t⟩;rw[bo];refine aZ (λj=>?_) (λj=>?_)
   ·have j:e<Z c:=by simpa using j
    simp only[aC j (hE _ _),Q,my];refine bj (dD:=100) (b:=[.agg (cF V c[e]),.agg (cF bp d)]) rfl ?_;refine f (Jp c[e] d (x _ (bs j))) ?_;simp only[rD,Q,G,i];exact⟨.aE [I (e:Int),.bool (db c[e] d==0)],cy,e,w,by grind[k7]⟩
   ·have j:¬e<Z c:=by simpa using j
    simp only[G,i];exact⟨.aE [I (e:Int),ff],cy,e,w,by grind[k7]⟩
 grind
def cW(a e f c:Bool)(b:aj)(g:List aw):List AV:=[eS a (bn a) b.m,eS a (b8 a) b.aW,eS a (bF a) b.d,eS e (aP a) b.ah,eS f (cF c) g]
def RV:bM:=⟨[],[],[],0⟩
theorem wu(a:Bool)(b:List AV)(off:Nat)(c:List Obj):hP (.aK a b off) c=T (.aK a b off):=rfl
variable{ed pN:Bool}
theorem Jq(f:aj)(a:List aw)(b:Int)(args:List aO)(o:Sm a)(l:∀h∈a,eO h.ad)(k:fY a)(p:∀d e(q:d<Z a)(r:e<Z a),d<e->(0<=db a[d] ⟨b,args,0⟩->0<db a[e] ⟨b,args,0⟩)):
 ∃c,u4 a ⟨b,args,0⟩ c/\PR C 133 [.aK V (cW F bp b2 ed f a) 0,I b,eS pN cV args] (.aE [I (c:Int),.bool (k7 a ⟨b,args,0⟩ c)]):=by
 obtain⟨c,n,j⟩:=ahq (V:=ed) (F:=b2) (bp:=pN) a ⟨b,args,0⟩ o l k p;refine⟨c,n,Wy.pr ?_⟩;have m:ko [(I 0),.ai,(I 0)] [(0,1,I b),(1,1,eS pN cV args)]=T (cF pN ⟨b,args,0⟩):=rfl;have i:(cW F bp b2 ed f a)[4]?=T (eS b2 (cF ed) a):=rfl;simp only[wu,Q,a6,aH,aJ,i,m];refine⟨.c4,_,_,by decide,?_,j,(λg=>by cases g),?_⟩
 ·exact .ck cy (.ck cy (.ck (.fn _ _ _ _ _ _ (.nil _) (.nil _)) (.nil _)))
 simp[ef,Q,Im.snap]
def pw(b:aj)(a:cD):bM:=if a.of<0 then RV else(b.m[a.of.toNat]?).getD RV
theorem RW(a:aj)(h:List aw)(f:Nat)(k:f<Z a.d)(r:kz a):
 PR C 131 [.aK V (cW F bp b2 ed a h) 0,I (f:Int)] (.aE [.agg (bn (if a.d[f].of<0 then aa else F) (pw a a.d[f])),.bool (S (0<=a.d[f].of))]):=by
 refine YU.pr ?_;have p:(cW F bp b2 ed a h)[2]?=T (eS F (bF F) a.d):=rfl;have o:(cW F bp b2 ed a h)[0]?=T (eS F (bn F) a.m):=rfl;have t:=r _ (bs k);have n:∀e:cD,(bF F e)[3]?=T (I e.of):=λ_=>rfl;simp only[wu,Q,a6,aH,aJ,fo,p,o,aC k (hD _ _),n,A];generalize a.d[f]=e at*;refine b (λc=>?_) (λc=>?_)
 ·have c:e.of<0:=by simpa using c
  refine aD (dD:=[.str [],.ai,.ai,I 0]) rfl (aD (dD:=[.str [],.ai,.ai,I 0]) rfl ?_);have i:S (0<=e.of)=false:=by simp;omega
  rw[if_pos c,pw,if_pos c,i];exact .aE _ _ _ (.ck (.agg _ _ _ (.ck (.str _ _) (.ck (.ai _ _) (.ck (.ai _ _) (.ck (.int _ _ _) (.nil _)))))) (.ck (.bool _ _) (.nil _)))
 ·have c:¬e.of<0:=by simpa using c
  obtain⟨j,s⟩:∃j:Nat,e.of=j:=⟨e.of.toNat,by omega⟩;have l:j<Z a.m:=by omega
  have i:S (0<=e.of)=true:=by simp;omega
  rw[if_neg c,pw,if_neg c,i];have q:∀g:bM,(AV.agg [.str g.ar,eS F cS g.au,eS F bX g.eg,I g.bf])=.agg (bn F g):=λ_=>rfl;simp only[s,ej,bC l,oK,aC l (jh _ _),Q,hF,xe,Be,Bf,Bg,Bh,q];simp[Im.snap]
abbrev Fc:KD:=⟨aa,1,[0]⟩
theorem Jr(a b:Int):Fc.eq (I a) (I b)=T (a==b):=rfl
def mP(c:Bool)(a:List k)(b:List aO):Obj:=.mp c (hS a) (b.map λd=>.agg (cV d))
def tD(c:Bool)(a:List k)(b:k->Int):Obj:=.mp c (hS a) (a.map λd=>I (b d))
theorem RY(a:List k)(b:k):a.findIdx? (b==·)=a.findIdx? λc=>c==b:=by
 grind
variable{Y:AV}
theorem aht(a:aX)(b:aM)(f:Z a.bl=Z a.ax)(c:kO N Y=T (hS a.ax,a.bl.map λe=>.agg (cV e)))(d:b.aB≠[]):
 hC qk (.agg (cV zV)) ab Y (.str b.aB) N=T (.aE [.agg (cV (bW a b).1),.bool (bW a b).2]):=by
 simp only[hC,c,q6,mS,if_true,q7,RY,bW,if_neg d];grind[List.findIdx?_eq_some_iff_getElem]
variable{x:List k}{bz:List aO}{bH:k}
theorem ahu{id:Nat}(a:aO)(c:N[id]?=T (mP V x bz))(e:bH∉x):jg qk (.b5 id) (.str bH) (.agg (cV a)) N=T (N.set id (mP V (x++[bH]) (bz++[a]))):=by
 have d:x.findIdx? (bH==·)=none:=by
  rw[wK];intro g f;rw[beq_eq_false_iff_ne];rintro rfl;exact e f
 have b:(AV.agg (cV a)).pl=.agg (cV a):=rfl;simp only[jg,c,mP,xc,q6,mS,if_true,q7,d,b];simp[hS]
variable{fL:List k}{iZ:aO}
theorem ahv{id:Nat}{a:List aO}(b:N[id]?=T (mP V (x++bH::fL) (bz++iZ::a)))(d:bH∉x)(f:Z bz=Z x):yE qk (.b5 id) (.str bH) N=T (N.set id (mP aa (x++fL) (bz++a))):=by
 have c:(x++bH::fL).findIdx? (bH==·)=T (Z x):=by
  rw[TI];have:x.findIdx? (bH==·)=none:=by
   rw[wK];intro g e;rw[beq_eq_false_iff_ne];rintro rfl;exact d e
  rw[this];simp[Cs]
 simp only[yE,b,mP,xc,q6,mS,if_true,q7,c,iA,fo];simp_all[hS,ht,eJ,List.eraseIdx_append_of_length_le,cV]
variable{eR:k -> Int}
theorem Jt(a:kO N Y=T (hS x,x.map λbH=>I (eR bH)))(c:bH∈x):hC qk (I 0) aa Y (.str bH) N=T (I (eR bH)):=by
 simp only[hC,a,q6,mS,if_true,q7];cases b:x.findIdx? (bH==·)with
 |none=>
  grind
 |some d=>
  grind[List.findIdx?_eq_some_iff_getElem]
theorem ahw{id:Nat}(b:k)(c:Int)(l:x.Nodup)(i:N[id]?=T (tD V x eR)):∃d,jg qk (.b5 id) (.str b) (I c) N=T (N.set id (tD V d λa=>if a=b then c else eR a))/\d.Nodup/\∀a,a∈d<->a∈x\/a=b:=by
 have h:(I c).pl=I c:=rfl;simp only[jg,i,tD,xc,h,q6,mS,if_true,q7];cases e:x.findIdx? (b==·)with
 |none=>
  rw[wK]at e;have r:b∉x:=by grind
  refine⟨x++[b],?_,?_,λa=>by simp⟩
  ·simp only[zW,hS,ht,FI,if_true]
   grind[List.map_congr_left]
  grind
 |some f=>
  obtain⟨q,m,-⟩:=nW.1 e;simp only[beq_iff_eq]at m;refine⟨x,?_,l,by grind⟩;simp only[iA,fo];have:(x.map λa=>I (eR a)).set f (I c)=x.map λa=>I (if a=b then c else eR a):=by
   refine sH (by simp) λg n j=>?_;rw[ale];simp only[wH];have p:g<Z x:=by simpa using j
   by_cases o:f=g
   ·grind
   ·grind[List.getElem_inj]
  rw[this]
def ew(g f:Nat)(d c:Bool)(a:aX)(b:List k)(e:k->Int):aN:=[(g,mP d a.ax a.bl),(f,tD c b e)]
structure kG(e:aX)(K:List k)(c:k->Int):Prop where
 nd:K.Nodup
 aV:∀x∈e.m,x∈K/\c x=jO e x
def cM(b a:Nat):List AV:=[.b5 b,.b5 a]
def k8(b:aX)(a:List k)(c:k->Int):List AV:=[.iu (hS b.ax) (b.bl.map λd=>.agg (cV d)),.iu (hS a) (a.map λe=>I (c e))]
theorem Fe:∀a:List aO,bO (a.map λb=>.agg (cV b))
 |[]=>.nil
 |x::a=>.cons _ _ (by simp) (Fe a)
theorem Ff(b:k->Int):∀a:List k,bO (a.map λx=>I (b x))
 |[]=>.nil
 |x::a=>.cons _ _ (by simp) (Ff b a)
theorem RZ(c:aX)(a:List k)(b:k->Int)(d:List Obj):aI d .c4 (.agg (k8 c a b)) (.agg (k8 c a b)):=
 .agg _ _ _ (.ck (.ys _ _ _ _ (s6 _).snap (Fe _).snap) (.ck (.ys _ _ _ _ (s6 _).snap (Ff _ _).snap) (.nil _)))
variable{H:aX}
theorem B1(a:w N (ew U O V F H x eR++p)):aI N .cm (.agg (cM U O)) (.agg (k8 H x eR)):=
 .agg _ _ _ (.ck (.wU U V _ _ _ _ (a.get (by simp[ew,mP])) (s6 _).snap (Fe _).snap) (.ck (.wU O F _ _ _ _ (a.get (by simp[ew,tD])) (s6 _).snap (Ff _ _).snap) (.nil _)))
theorem Fg(a:aX)(e:List k)(f:k->Int)(d:aM)(l:Z a.bl=Z a.ax):PR C 178 [.agg (k8 a e f),.agg (cT d)] (.aE [.agg (cV (bW a d).1),.bool (bW a d).2]):=by
 refine WC.pr ?_;have n:iD 2 (.agg (k8 a e f))=T (.aK aa (k8 a e f) 0):=rfl;have j:(k8 a e f)[0]?=T (.iu (hS a.ax) (a.bl.map λc=>.agg (cV c))):=rfl;have o:∀c:aO,(AV.agg [g (cV c) 0,g (cV c) 1,g (cV c) 2])=.agg (cV c):=λ_=>rfl;have p:∀(c:aO)(i:Bool),aI [] .res (.aE [(AV.agg (cV c)).pl,(AV.bool i).pl]) (.aE [.agg (cV c),.bool i]):=by simp[Im.snap]
 simp only[n,ud,Q,a6,aH,nn,aJ,fF,AG,l2,j];refine b (λh=>?_) (λh=>?_)
 ·grind[bW]
 ·have h:d.aB≠[]:=by simpa using h
  have m:(AV.agg [I 0,I 0,.str []])=.agg (cV zV):=rfl;rw[m,aht a d l rfl h];grind[Q,ef,List.getElem?_cons_zero,List.getElem?_cons_succ,l2]
theorem R0(b:aX)(f:List k)(h:k->Int)(c:List aM)(v:Z b.bl=Z b.ax)(u:Sm c):PR C 170 [.agg (k8 b f h),eS V cT c] (eS aa cV (eG b c)):=by
 refine ZD.pr ?_;have w:iD 2 (.agg (k8 b f h))=T (.aK aa (k8 b f h) 0):=rfl;have x:∀n,aR 2 ab (.aK aa (k8 b f h) 0) n=T (.agg (k8 b f h)):=λ_=>rfl;have p:∀d:aM,(AV.agg [g (cT d) 0,g (cT d) 1,g (cT d) 2,g (cT d) 3])=.agg (cT d):=λ_=>rfl;have gv:∀j:aO,(AV.agg [g (cV j) 0,g (cV j) 1,g (cV j) 2])=.agg (cV j):=λ_=>rfl;simp only[w,Q,dZ,eA,c3,de,fm,gz,a8]
 have s:∀(c:List aM)(e:List aO),c.foldl (λe d=>e++[(bW b d).1]) e=e++eG b c:=by
  intro c;induction c with
  |nil=>grind[eG]
  |cons E c B=>grind[eG]
 refine s4 c (λe d=>e++[(bW b d).1]) [] 1 3 cV (N:=[.arr 0 3 [],.arr 0 3 []]) 0 rfl (by simp[aY]) (λm l e q o r t=>?_) (λq o=>?_)
 ·have z:Z e<=m:=by
   rw[r,s];simp[eG];omega
  simp only[i,G,A,Q,a,l,decide_true,aC l (h8 _),ji,vC,x,p];refine a7 ⟨.c4,_,_,by decide,.ck (RZ b f h _) (.ck cy (.nil _)),Fg b f h c[m] v,(λb=>by cases b),?_⟩;simp only[ef,cv,dk,Q,l2,gv];refine aD (vT (bW b c[m]).1) ?_;refine DU (by simp) (by grind[Sm]) ?_;rw[u.inc l,Q];exact t _
 ·simp only[i,G,A,Q,a,ca,decide_false]
  refine bq ?_;simp_all[c3,y7]
theorem ahx(op:Int)(a c:aO)(h:Sm a.s):PR C 179 [I op,.agg (cV a),.agg (cV c)] (.bool (qv op a c)):=by
 refine WD.pr ?_;simp only[xf,Q,oa];refine f (M9 _ _ h) ?_;simp only[c9,cd,A,jN,Q];refine b (λd=>gU ?_) (λd=>b (λe=>gU ?_) (λe=>b (λg=>gU ?_) (λg=>gU ?_)))
 ·grind[qv]
 ·grind[qv]
 ·grind[qv]
 grind[qv]
variable{c0:aw}
theorem Ju{a b:aw}(c:a.aq=b.aq)(d:a.ad=b.ad):db c0 a=db c0 b:=by grind[db]
variable{X:List aw}
theorem Fh(i:fY X)(d:aw):∀a b(f:a<Z X)(g:b<Z X),a<b->(0<=db X[a] d->0<db X[b] d):=by
 intro a b f g h j;have e:=i a b f g h;rw[<-uL];by_cases c:db X[a] d=0
 ·rw[zj]at c
  rw[uL,Ju c.1.symm c.2.symm,<-uL];exact e
 ·exact zk _ _ _ ((uL _ _).2 (by omega)) e
theorem R1{a:aw}(b:db c0 a<0):c0.aq<=a.aq:=by
 grind[db]
theorem Jv(e:u4 X c0 U)(a:k7 X c0 U=ab):∃c:U<Z X,X.find? (gW c0.aq c0.ad)=T X[U]/\X.findIdx? (gW c0.aq c0.ad)=T U:=by
 have c:U<Z X:=by
  refine yl λi=>?_;rw[k7,List.getElem?_eq_none (by omega)]at a;cases a
 rw[k7,bC c]at a;have a:db X[U] c0=0:=by simpa using a
 have g:=(Em _ _ _ c0.af).2 a;have h:∀b(d:b<U),gW c0.aq c0.ad X[b]=false:=λb d=>Bw (c1:=c0.af) (by have:=e.lo b (by omega) d;grind[db]);refine⟨c,?_,?_⟩
 ·grind[List.find?_eq_some_iff_getElem]
 grind[List.findIdx?_eq_some_iff_getElem]
theorem R2(e:fY X)(b:u4 X c0 U)(g:k7 X c0 U=aa):∀d∈X,db d c0≠0:=by
 intro d f;obtain⟨a,c,rfl⟩:=jS.1 f;rcases Cj a U with dX|rfl|dX
 ·have:=b.lo a c dX;omega
 ·grind[k7]
 ·have:=Fh e c0 U a (by omega) c dX (b.hi U (by omega) (di _));omega
theorem Jw(f:fY X)(e:u4 X c0 U)(d:k7 X c0 U=aa):X.find? (gW c0.aq c0.ad)=D/\X.findIdx? (gW c0.aq c0.ad)=none:=by
 have c:=R2 f e d;refine⟨?_,?_⟩
 ·rw[FF]
  intro b a;rw[Bw (c b a)];simp
 ·rw[wK]
  intro b a;exact Bw (c b a)
theorem R3(a:aw)(b:Int):PR C 174 [.agg (cF V a),I b] (I (fG a.aq b)):=by
 refine aao.pr ?_;simp only[sR,Q,a6,aH,p5,aJ];exact f (yX _ _) (ig rfl)
structure Fi(fs:List aw)(q:Int)(i:Nat):Prop where
 le:i<=Z fs
 lo:∀j(hj:j<Z fs),j<i->fs[j].aq<q
 hi:∀j(hj:j<Z fs),i<=j->q<=fs[j].aq
variable{aU c1:Int}
theorem R4:fG aU c1<0<->aU<c1:=by grind[fG]
theorem ahy(c:List aw)(g:Int)(J:Sm c)(B:fY c):
 ∃n,Fi c g n/\∃r,PR C 173 [eS F (cF V) c,I g,.fn 174 [] []] (.aE [I (n:Int),.bool r]):=by
 have key:∃z,PR C 173 [eS F (cF V) c,I g,.fn 174 [] []] z/\∃n,Fi c g n/\∃r,z=.aE [I (n:Int),.bool r]:=by
  refine aan.ex ?_;simp only[Q,a8];refine bB (z:=Nat×Nat) (λh=>[I h.1,I h.2]) (λ_=>[]) (λh=>h.2 -h.1) (λh=>h.1<=h.2/\h.2<=Z c/\(∀d(l:d<Z c),d<h.1->c[d].aq<g)/\∀d(l:d<Z c),h.2<=d->g<=c[d].aq) (0,Z c) (by grind) ?_;rintro⟨e,k⟩ ⟨M,t,u,v⟩ L y;simp only[i,G,A,Q,a];unfold Sm at J;have mono:∀d o(l:d<Z c)(x:o<Z c),d<=o->c[d].aq<=c[o].aq:=by
   intro d o l x j;rcases Nat.lt_or_eq_of_le j with j|rfl
   ·exact R1 (B d o l x j)
   ·omega
  refine b (λj=>?_) (λj=>?_)
  ·have j:e<k:=by simpa using j
   have E:aS .s .add (I (e:Int)) (I (k:Int))=T (I ((e+k:Nat):Int)):=by
    rw[Dn (by omega) (by omega)];simp
   have K:(e+k)/2<Z c:=by omega
   rw[E,Q];refine RU (by omega) ?_;generalize N:(e+k)/2=p at*;simp only[aC K (hE _ _),Q,my];refine bj rfl ?_;refine f (R3 c[p] g) ?_;simp only[A,Q];refine b (λm=>?_) (λm=>?_)
   ·have m:c[p].aq<g:=by rw[<-R4];simpa using m
    rw[ba,Q];refine y (p+1,k) ⟨by omega,t,λd l P=>?_,v⟩ (by omega);grind
   ·have m:g<=c[p].aq:=by
     refine Int.not_lt.1 λH=>?_;rw[<-R4]at H;simp at m;omega
    refine y (e,p) ⟨by omega,by omega,u,λd l O=>?_⟩ (by omega);grind
  ·have:e=k:=by simp at j;omega
   subst this;have w:Fi c g e:=⟨t,u,v⟩;rw[bo];refine aZ (λq=>?_) (λq=>?_)
   ·have q:e<Z c:=by simpa using q
    simp only[aC q (hE _ _),Q,my];refine bj rfl ?_;refine f (R3 c[e] g) ?_;simp only[rD,Q,G,i];exact⟨.aE [I (e:Int),.bool (fG c[e].aq g==0)],cy,e,w,_,rfl⟩
   ·simp only[G,i]
    exact⟨.aE [I (e:Int),ff],cy,e,w,_,rfl⟩
 grind
variable{dF:bM}
theorem ahz(b:eu dF=0)(f:eF dF aU=ab):ox dF aU (fy dF [])=(aU==fy dF []):=by
 obtain⟨h,c,d,g⟩:=aed b;obtain⟨a,rfl,e⟩:∃a:Nat,aU=a/\a<Z dF.au:=by
  simp only[eF,bG,decide_eq_true_eq]at f;exact⟨aU.toNat,by omega,by omega⟩
 rw[c,ox,b,Et e,Et d];simp only[beq_self_eq_true,cu,ej];grind[Pj]
theorem R5(c:aj)(e:List aw)(h:Nat)(k:h<Z c.d)(args:List aO)(i:Int)(H:dW c)(G:kz c)(A:Sm e)(y:∀r∈e,eO r.ad)(m:fY e)
 (a:e8 c h=T dF)(L:eu dF=0)(M:eF dF i=ab):
 PR C 175 [.aK V (cW F bp b2 ed c e) 0,I (h:Int),eS pN cV args,I i] (.bool (sg c h i (tb c e h args))):=by
 refine ZE.pr ?_;obtain⟨J,n,x⟩:=Jq c e h args A y m (Fh m _);have w:=RW (V:=V) (F:=F) (bp:=bp) (b2:=b2) (ed:=ed) c e h k G;have o:bO (cW F bp b2 ed c e):=by simp[cW]
 have s:(cW F bp b2 ed c e)[4]?=T (eS b2 (cF ed) e):=rfl;have t:∀(F:Bool)(j:bM),(AV.agg [g (bn F j) 0,g (bn F j) 1,g (bn F j) 2,g (bn F j) 3])=.agg (bn F j):=λ_ _=>rfl;have B:sg c h i=λq=>ox dF i q:=by
  funext q
  unfold e8 at a;unfold sg;rw[ej]at a⊢;rw[bC k]at a⊢;simp only at a⊢;split at a
  ·cases a
  ·rw[a]
 have E:pw c c.d[h]=dF:=by
  unfold e8 at a;rw[ej,bC k]at a;simp only at a;split at a
  ·cases a
  ·rename_i u
   rw[pw,if_neg u,a]<;>rfl
 have K:Eo c h=fy dF []:=by
  unfold e8 at a;unfold Eo;rw[ej]at a⊢;rw[bC k]at a⊢;simp only at a⊢;split at a
  ·cases a
  ·rw[a]
 have p:=H.aV dF (Bz a);refine f w ?_ (by simp[o]);simp only[ef,cv,dk,Q,xe,t,E];refine f x ?_ (by simp[o]);simp only[cv,dk,Q,B];refine b (λl=>?_) (λl=>?_)
 ·obtain⟨z,v,-⟩:=Jv n l
  simp only[wu,Q,a6,aH,aJ,s,aC z (hE _ _),uh];refine f (adD dF i e[J].af p) (gU ?_);grind[tb]
 ·obtain⟨v,-⟩:=Jw m n l
  refine f (Ej dF p) ?_;simp only[rD,Q];grind[gU,tb,ahz]
def px(b:AV)(a:aN)(W:List AV):Prop:=(∃c,b=.aK c W 0/\a=[])\/∃id,b=.ptr id 0 0 0/\a=[(id,.arr 0 5 [W])]
theorem px.pl{W:List AV}(a:px Y p W):Y.pl=Y:=by
 rcases a with⟨b,rfl,-⟩|⟨id,rfl,-⟩<;>rfl
variable{bm:aN}
theorem px.g3{W:List AV}(b:px Y p W)(c:w N (p++bm))(a:bO W):aI N .cm Y (.aK ab W 0):=by
 rcases b with⟨d,rfl,-⟩|⟨id,rfl,rfl⟩
 ·exact .yr _ _ _ _ a.snap
 ·exact .pV id 0 0 0 5 [W] W W (c.get (by simp)) rfl a.snap
variable{E:AV}
theorem px.rd{W:List AV}(c:px Y p W)(d:w N (p++bm))(g:W[U]?=T E)(a:hv E):bd (hP Y N) λe=>bd (dw U e N) λf=>bd (aR 1 aa f N) hv:=by
 rcases c with⟨i,rfl,-⟩|⟨id,rfl,rfl⟩
 ·refine aD (wu _ _ _ _) (aD rfl (aD ?_ a))
  simp_all
 ·have b:=d.get (U:=id) (iX:=.arr 0 5 [W]) (by simp)
  refine aD (gJ b) (aD (eb b) (aD ?_ a));grind[gm]
variable{z:Type}
def nR(C:eD)(x:Nat)(r:List AV)(n m:Nat)(b:z->aN->Prop)(i:aN)(a:aX)(p q:z):Prop:=
 ∀(g:aN)(e:List k)(j:k->Int)(u s:Bool)(c:aN)(d:List Obj),kG a e j->b p g->w d (ew n m u s a e j++(g++(i++c)))->
  HR C x r d (λ_ o=>∃h f l v t,kG a f l/\b q h/\w o (ew n m v t a f l++(h++(i++c))))
def B2(c:AV)(b:List aO)(a:aN):Prop:=(∃d,c=eS d cV b/\a=[])\/bA c cV 3 b a
theorem B2.pl(h:B2 Y bz p):Y.pl=Y:=by
 rcases h with⟨a,rfl,-⟩|h
 ·rfl
 ·exact h.pl
theorem B2.at(h:B2 Y bz p)(f:w N (p++bm))(a:U<Z bz)(b:hv (.agg (cV bz[U]))):bd (bY 3 Y (I U) N) λg=>bd (aR 3 ab g N) hv:=by
 rcases h with⟨i,rfl,-⟩|h
 ·rw[aC a (lZ _),Q,oa,Q];exact b
 ·obtain⟨id,j,c,d,e⟩:=(h.gr f).at a
  refine aD c (aD (kV d e rfl) b)
def hW(a:aX)(b:List k)(c:List aO):aX:=⟨a.ax++b,a.bl++c,a.m,a.au⟩
theorem Jx(a:aX):hW a [] []=a:=by simp[hW]
theorem kG.ext(b:List k)(d:List aO)(a:kG H x eR):kG (hW H b d) x eR:=⟨a.nd,λe c=>a.aV e c⟩
theorem kG.back(a:kG (hW H fL bz) x eR):kG H x eR:=⟨a.nd,λc b=>a.aV c b⟩
variable{b3:aM}
theorem ahA:fT (hW H x bz) b3 iZ=hW H (x++[b3.aB]) (bz++[iZ]):=by simp[fT,hW]
variable{gA ir lr:aN}
theorem w.Jy(a:w N (p++(bm++(gA++(ir++lr))))):w N (bm++(gA++(ir++(p++lr)))):=
 a.perm (by grind[List.perm_append_comm_assoc,trans])
theorem w.Jz(a:w N (bm++(gA++(ir++(p++lr))))):w N (p++(bm++(gA++(ir++lr)))):=
 a.perm (by grind[List.perm_append_comm_assoc,trans])
def ahB(o n:Nat)(j i:Bool)(b:aX)(c:List aM)(vs:List aO)(h:List k)(l:k->Int)(g:aN)(p:List AV)(m:List Obj):Prop:=
 ∃(a:List k)(d:List aO)(f:AV)(e:aN)(ok:Bool)(r s t:AV),p=[f,.bool ok,r,s,t]/\Z a=Z d/\(∀q∈a,q∉b.ax)/\Z a<=Z c/\
  (ok=ab->hU b c vs=T (hW b a d))/\(ok=aa->hU b c vs=D)/\bA f cS 1 a e/\w m (e++(ew o n j i (hW b a d) h l++g))
variable{pO:z -> aN -> Prop}{mW:List aM}{dD m4:z}
theorem R6{vs:List aO}(a0:B2 Y vs p)(gN:Z mW<=Z vs)(co:Z H.bl=Z H.ax)(cs:Sm mW)(f1:E.pl=E)
 (f7:∀dl,hU H mW vs=T dl->∃aq W,lC E []=T (aq,W)/\W.map AV.pl=W/\nR C aq W U O pO (p++bm) dl dD m4)(ha:hU H mW vs=D->m4=dD):
 nR C 176 [.agg (cM U O),eS V cT mW,Y,E] U O pO (p++bm) H dD m4:=by
 intro u s v n K r S em d9 bw;refine WB.hq ?_ (by simp[a0.pl,f1]);have f8:iD 2 (.agg (cM U O))=T (.aK aa (cM U O) 0):=rfl;have f9:∀S,aR 2 ab (.aK aa (cM U O) 0) S=T (.agg (cM U O)):=λ_=>rfl;have a9:(cM U O)[0]?=T (.b5 U):=rfl;have d1:∀B:aM,(AV.agg [g (cT B) 0,g (cT B) 1,g (cT B) 2,g (cT B) 3])=.agg (cT B):=λ_=>rfl;have d2:∀B:aM,g (cT B) 0=.str B.aB:=λ_=>rfl
 have gv:∀ah:aO,(AV.agg [g (cV ah) 0,g (cV ah) 1,g (cV ah) 2])=.agg (cV ah):=λ_=>rfl;have bi:=bw.alloc (.arr 0 1 (([]:List k).map cS));simp only[f8,Q,eA,dZ,a8];refine nQ (ahB U O n K H mW vs s v (u++(p++bm++r))) (λhh ci=>?_) (λhn bf f6=>?_)
 ·refine bB (z:=Nat×List k×List aO×AV×aN×List Obj) (λc=>[c.2.2.2.1,tt,I c.1]) (λc=>c.2.2.2.2.2) (λc=>Z mW -c.1) (λc=>c.1<=Z mW/\Z c.2.1=Z c.2.2.1/\Z c.2.1<=c.1/\(∀ds∈c.2.1,ds∉H.ax)/\bA c.2.2.2.1 cS 1 c.2.1 c.2.2.2.2.1/\w c.2.2.2.2.2 (c.2.2.2.2.1++(ew U O n K (hW H c.2.1 c.2.2.1) s v++(u++(p++bm++r))))/\hU H mW vs=hU (hW H c.2.1 c.2.2.1) (mW.drop c.1) (vs.drop c.1)) (0,[],[],.q (Z S) 0 0 0,[(Z S,.arr 0 1 (([]:List k).map cS))],S++[.arr 0 1 []]) ⟨by simp,rfl,by simp,by simp,bA.of (o:=([]:List k)),by rw[Jx];exact bi,by rw[Jx]<;>rfl⟩ ?_
  clear bi bw;rintro⟨e,d,f,ad,m,F⟩ ⟨fn,P,b4,ac,M,j,o⟩ go R;simp only at fn P b4 ac M j o R⊢;simp only[G,i,A,Q,a,bo];refine b (λh=>?_) (λh=>?_)
  ·have h:e<Z mW:=by simpa using h
   have ce:e<Z vs:=by omega
   have f3:Z (hW H d f).bl=Z (hW H d f).ax:=by simp[hW,co,P]
   have e2:mW.drop e=mW[e]::mW.drop (e+1):=by simp
   have fd:vs.drop e=vs[e]::vs.drop (e+1):=by simp
   rw[e2,fd,hU]at o;have aQ:w F (ew U O n K (hW H d f) s v++(m++(u++(p++bm++r)))):=j.swap;have bv:w F (p++(m++(ew U O n K (hW H d f) s v++(u++(bm++r))))):=by
    refine j.perm ?_;rw[fH];exact((((mi u p _).append_left _).trans (mi _ p _)).append_left m).trans (mi m p _)
   simp only[aC h (h8 _),ji,vC,f9,Q,d1];refine ea _ (Fg (hW H d f) s v mW[e] f3) ?_ ?_ ?_
   ·exact .ck (B1 aQ) (.ck cy (.nil _))
   ·exact .aE _ (.cons _ _ (.agg _ (.cons _ _ (.int _ _) (.cons _ _ (.int _ _) (.cons _ _ (.str _) .nil)))) (.cons _ _ (.bool _) .nil))
   simp only[ef,cv,dk,Q,l2,bD,gv,d2];refine b (λy=>?_) (λy=>?_)
   ·have y:(bW (hW H d f) mW[e]).2=false:=by simpa using y
    rw[y,if_neg (by simp),ahA]at o;have ae:=y;rw[qy]at ae;simp only[known,hW,Kw,beq_eq_false_iff_ne,ne_eq,decide_eq_false_iff_not,c5,not_or]at ae;simp only[a6,aH,fo,a9,Q];refine a0.at bv ce ?_;have af:=aQ.get (U:=U) (iX:=mP n (H.ax++d) (H.bl++f)) (by simp[ew,hW]);refine aD (ahu vs[e] af (by simp[ae.2.1,ae.2.2])) ?_
    have ex:w (F.set U (mP n (H.ax++d++[mW[e].aB]) (H.bl++f++[vs[e]]))) (ew U O n K (hW H (d++[mW[e].aB]) (f++[vs[e]])) s v++(m++(u++(p++bm++r)))):=by
     have:=w.set (U:=U) aQ (mP n (H.ax++d++[mW[e].aB]) (H.bl++f++[vs[e]]));simpa[ew,hW]using this
    generalize F.set U (mP n (H.ax++d++[mW[e].aB]) (H.bl++f++[vs[e]]))=gh at*;refine aD (dD:=.sl aa [cS mW[e].aB]) rfl ?_;obtain⟨id,ar,d0,ak,au⟩:=M.app (bytes:=16) ex.swap mW[e].aB rfl (by grind[Sm]);refine bj ak ?_;rw[cs.inc h,Q];refine R (e+1,d++[mW[e].aB],f++[vs[e]],_,[(id,.arr ar 1 ((d++[mW[e].aB]).map cS))],d0) ⟨h,by simp[P],by grind,λds hg=>?_,bA.of,au,o⟩ (by omega);grind
   ·have y:(bW (hW H d f) mW[e]).2=true:=by simpa using y
    rw[y,if_pos rfl]at o;refine a0.at bv ce ?_;simp only[GO,Q];refine b (λN=>?_) (λN=>?_)
    ·have N:(bW (hW H d f) mW[e]).1≠vs[e]:=by simpa using N
     rw[if_neg N]at o;exact ci _ _ ⟨d,f,ad,m,aa,_,_,_,rfl,P,ac,by omega,(λh=>by cases h),λ_=>o,M,j⟩
    ·have N:(bW (hW H d f) mW[e]).1=vs[e]:=by simpa using N
     rw[if_pos N]at o;rw[cs.inc h,Q];exact R (e+1,d,f,ad,m,F) (by grind) (by omega)
  ·have:e=Z mW:=by simp at h;omega
   subst this;rw[nU,hU]at o;exact ci _ _ ⟨d,f,ad,m,ab,_,_,_,rfl,P,ac,b4,λ_=>o,(λh=>by cases h),M,j⟩
 ·obtain⟨d,f,ad,m,ok,ho,hs,hu,rfl,P,ac,gM,f4,he,M,j⟩:=f6
  simp only[G,i];refine nQ (λ_ h=>∃J t x X L,kG H t x/\pO m4 J/\w h (m++(ew U O X L (hW H d f) t x++(J++(p++bm++r))))) (λxL f0=>?_) (λhm be f5=>?_)
  ·refine b (λh=>?_) (λh=>?_)
   ·obtain⟨aq,W,ak,d3,d4⟩:=f7 _ (f4 h)
    refine bj ak ?_;have es:w bf (ew U O n K (hW H d f) s v++(u++((p++bm)++(m++r)))):=j.Jy;refine cY (d4 u s v n K (m++r) bf (em.ext d f) d9 es) d3 ?_;rintro hl gi ⟨J,t,x,X,L,d5,d6,d7⟩;exact f0 _ _ ⟨J,t,x,X,L,d5.back,d6,d7.Jz⟩
   grind
  ·obtain⟨J,t,x,X,L,eq,el,br⟩:=f5
   rw[M.ln be,Q];refine bB (z:=Nat×Bool×List Obj) (λc=>[I c.1]) (λc=>c.2.2) (λc=>Z d -c.1) (λc=>c.1<=Z d/\w c.2.2 (m++(ew U O c.2.1 L (hW H (d.drop c.1) (f.drop c.1)) t x++(J++(p++bm++r))))) (0,X,be) ⟨by simp,by simpa using br⟩ ?_;clear br j;rintro⟨l,a4,F⟩ ⟨fs,j⟩ gj R;simp only at fs j R⊢;simp only[G,A,Q,a];refine b (λh=>?_) (λh=>?_)
   ·have h:l<Z d:=by simpa using h
    have fI:l<Z f:=by omega
    obtain⟨id,ar,au,bb,d8⟩:=(M.gr j).at h;have gt:(cS d[l])[0]?=T (.str d[l]):=rfl;have f2:aR 1 aa (.ptr id ar l 0) F=T (.str d[l]):=by rw[cr bb d8]<;>rfl
    simp only[au,f2,a6,aH,fo,a9,Q];have af:=j.swap.get (U:=U) (iX:=mP a4 (H.ax++d.drop l) (H.bl++f.drop l)) (by simp[ew,hW]);rw[mQ h,mQ fI]at af;refine aD (ahv af (ac _ (bs h)) co) ?_;rw[ba (by grind[Sm]),Q];refine R (l+1,aa,_) ⟨h,?_⟩ (by omega);have:=w.set (U:=U) j.swap (mP aa (H.ax++d.drop (l+1)) (H.bl++f.drop (l+1)))
    exact w.swap (p:=ew U O aa L (hW H (d.drop (l+1)) (f.drop (l+1))) t x) this
   ·have:l=Z d:=by simp at h;omega
    subst this;refine⟨J,t,x,a4,L,eq,el,?_⟩;have bb:=j.sub;grind[List.drop_length,Jx]
theorem R7(e:Z H.au=Z H.m)(c:bH∉H.m):jO ⟨H.ax,H.bl,H.m++[bH],H.au++[aU]⟩ bH=aU/\∀a∈H.m,jO ⟨H.ax,H.bl,H.m++[bH],H.au++[aU]⟩ a=jO H a:=by
 refine⟨?_,λa b=>?_⟩
 ·unfold jO
  have f:H.m.findIdx? (λa=>a==bH)=none:=by
   rw[wK];intro a b;simp only[beq_eq_false_iff_ne,ne_eq];rintro rfl;exact c b
  have d:(H.m++[bH]).findIdx? (λa=>a==bH)=T (Z H.m):=by
   rw[TI,f];simp[Cs]
  simp only[d,oM];rw[<-e,FH (di _)];simp
 ·unfold jO
  grind[List.findIdx?_eq_some_iff_getElem]
theorem kG.bind(h:kG H x eR)(g:Z H.au=Z H.m)(f:bH∉H.m)(e:fL.Nodup)(i:∀a,a∈fL<->a∈x\/a=bH):
 kG ⟨H.ax,H.bl,H.m++[bH],H.au++[aU]⟩ fL (λa=>if a=bH then aU else eR a):=by
 obtain⟨j,d⟩:=R7 (aU:=aU) g f;refine⟨e,λa b=>?_⟩;by_cases c:a=bH
 ·grind
 ·have b:a∈H.m:=by
   rcases c5.1 b with h|h
   ·exact h
   ·simp at h;exact absurd h c
  rw[if_neg c,d a b];exact⟨(i a).2 (.inl (h.aV a b).1),(h.aV a b).2⟩
theorem kG.unbind(a:kG ⟨H.ax,H.bl,H.m++[bH],H.au++[aU]⟩ x eR)(f:Z H.au=Z H.m)(e:bH∉H.m):kG H x eR:=by
 obtain⟨-,d⟩:=R7 (aU:=aU) f e;exact⟨a.nd,λc b=>by rw[<-d c b];exact a.aV c (by simp[b])⟩
def g1(b c d h g:Nat)(a:Bool)(f:Lit)(e:AV):aN:=[(d,.arr 0 1 [[e]]),(c,.arr 0 9 [a5 a f]),(b,.arr 0 2 [cM h g])]
variable{c2 jW:Nat}{P:Lit}{bg:List AV}
theorem ahC{c:Nat}{A:Nat}
 (S:Z H.au=Z H.m)(R:P.bind≠[]->P.bind∉H.m)(aB:lC Y []=T (A,bg))(aQ:bg.map AV.pl=bg)(a9:nR C A bg jW c pO p (jq H P c0.af) dD m4):
 nR C 177 [.ptr O 0 0 0,.ptr c2 0 0 0,.ptr U 0 0 0,.ptr y 0 0 0] jW c pO ((c2,.arr 0 3 [cF F c0])::(g1 U O y jW c V P Y++p)) H dD m4:=by
 intro j q g f e h br M a0 v;refine aap.hq ?_;have L:∀{n:aX}{q g j f e i},w i (ew jW c f e n q g++(j++(((c2,.arr 0 3 [cF F c0])::(g1 U O y jW c V P Y++p))++h)))->i[U]?=T (.arr 0 2 [cM jW c])/\i[O]?=T (.arr 0 9 [a5 V P])/\i[y]?=T (.arr 0 1 [[Y]])/\i[c2]?=T (.arr 0 3 [cF F c0]):=λa=>
  ⟨a.get (by simp[g1]),a.get (by simp[g1]),a.get (by simp[g1]),a.get (by simp[g1])⟩
 have r:∀(x:List AV),[x][0]?=T x:=λ_=>rfl;obtain⟨G,J,bw,K⟩:=L v;have ac:(cM jW c)[0+1]?=T (.b5 c):=rfl;have ad:(a5 V P)[0+4]?=T (.str P.bind):=rfl;have l:(cF F c0)[0+2]?=T (I c0.af):=rfl;simp only[eb J,eb G,eb K,cr J (r _),cr G (r _),cr K (r _),ac,ad,l,Q,ib]
 refine nQ (λ_ a=>∃d k,kG (jq H P c0.af) d k/\w a (ew jW c f e (jq H P c0.af) d k++(j++(((c2,.arr 0 3 [cF F c0])::(g1 U O y jW c V P Y++p))++h)))) (λW bb=>?_) (λce a bf=>?_)
 ·refine b (λa=>?_) (λa=>?_)
  ·have a:P.bind≠[]:=by simpa using a
   have be:=v.get (U:=c) (iX:=tD e q g) (by simp[ew]);obtain⟨d,ae,ah,ak⟩:=ahw P.bind c0.af M.nd be;refine aD ae (bb _ _ ⟨d,(λo=>if o=P.bind then c0.af else g o),?_,?_⟩)
   ·rw[jq,if_neg a]
    exact M.bind S (R a) ah ak
   ·rw[jq,if_neg a]
    have:=w.qF (p:=[(jW,mP f H.ax H.bl)]) (U:=c) (iX:=tD e q g) v (tD e d λo=>if o=P.bind then c0.af else g o);exact this
  grind[jq]
 ·obtain⟨d,k,a3,N⟩:=bf
  obtain⟨-,-,ar,-⟩:=L N;rw[cr ar (r _)];refine aD (dD:=Y) rfl (bj aB ?_);have a4:w a (ew jW c f e (jq H P c0.af) d k++(j++(p++(((c2,.arr 0 3 [cF F c0])::g1 U O y jW c V P Y)++h)))):=by
   refine N.perm (kJ _ (kJ _ ?_));have n:((c2,Obj.arr 0 3 [cF F c0])::(g1 U O y jW c V P Y++p))++h=((c2,.arr 0 3 [cF F c0])::g1 U O y jW c V P Y)++(p++h):=by simp
   rw[n];exact mi _ _ _
  refine cY (a9 j d k f e _ a a3 a0 a4) aQ ?_;rintro b4 bv ⟨X,s,l,u,t,B,aq,E⟩;refine⟨X,s,l,u,t,?_,aq,?_⟩
  ·by_cases a:P.bind=[]
   ·grind[jq]
   ·rw[jq,if_neg a]at B;exact B.unbind S (R a)
  ·have n:ew jW c u t (jq H P c0.af) s l=ew jW c u t H s l:=by
    unfold ew;rw[Pq,Ie]
   rw[n]at E;refine E.perm (kJ _ (kJ _ ?_));grind[cF,g1,List.perm_append_comm_assoc]
theorem yc(a:Z bg=U)(b:bg.all AV.bP=ab):mw U (.agg bg) N=T (.ptr (Z N) 0 0 0,N++[.arr 0 U [bg]]):=by
 grind[mw,gS]
theorem obO_1(a:dh 1 Y=T [Y]):mw 1 Y N=T (.ptr (Z N) 0 0 0,N++[.arr 0 1 [[Y]]]):=by
 grind[mw]
def kc(d:aj)(c:aX)(a:Lit)(b:List aw):List aX:=(b.filter (j9 d a)).filterMap (nJ c a)
theorem B3(c:aj)(a:aX)(b:Lit)(d e:List aw):kc c a b (d++e)=kc c a b d++kc c a b e:=by
 grind[kc]
variable{M:aj}
theorem JA(b:∀a∈X,a.aq≠P.aq):kc M H P X=[]:=by
 simp_all[kc,j9]
theorem ahD(h:fY X)(d:Fi X P.aq U)(i:∀m:O<Z (X.drop U),(X.drop U)[O].aq≠P.aq):kc M H P X=kc M H P ((X.drop U).take O):=by
 have f:X=X.take U++((X.drop U).take O++(X.drop U).drop O):=by rw[vg,vg]
 conv=>lhs;rw[f,B3,B3]
 rw[JA,JA (X:=(X.drop U).drop O)]
 ·simp
 ·intro e b
  obtain⟨a,c,rfl⟩:=jS.1 b;simp only[py]at c;simp only[Kv];have k:O<Z (X.drop U):=by simp;omega
  have g:=i k;simp only[Kv]at g;have n:=d.hi (U+O) (by omega) (by omega);have o:X[U+O].aq<=X[U+(O+a)].aq:=by
   by_cases j:a=0
   ·subst j;grind
   ·exact R1 (h (U+O) (U+(O+a)) (by omega) (by omega) (by omega))
  omega
 ·intro e b
  obtain⟨a,c,rfl⟩:=jS.1 b;simp only[gb]at c;simp only[Cu];have:=d.lo a (by omega) (by omega);omega
structure R8(p:aj)(r:aG)(fs:List aw)(e:aX)(l:Lit):Prop where
 sm:dW p
 of:kz p
 aV:uM p
 fl:Sm fs
 zD:∀f∈fs,eO f.ad
 fz:fY fs
 lit:PJ p r l
 iP:iP e.ax l=ab
 ad:Sm l.ad
 len:Z e.bl=Z e.ax
 zm:Z e.au=Z e.m
 ahE:∀f∈fs,f.aq=l.aq->Z f.ad=Z l.ad
 bind:l.bind≠[]->l.bind∉e.m
 ahF:∀t∈l.ad,Sm (bW e t).1.s
theorem ahG(c:fY X)(d:c0∈X):X.find? (gW c0.aq c0.ad)=T c0:=by
 cases a:X.find? (gW c0.aq c0.ad)with
 |none=>
  grind[gW]
 |some g=>
  have b:=TN a;simp only[gW,bG,beq_iff_eq,decide_eq_true_eq]at b;grind[Pr]
theorem w.B4{a:aN}(b:w N (p++(bm++(gA++((ir++lr)++a))))):w N (ir++(p++(bm++(gA++(lr++a))))):=by
 refine b.perm ?_;rw[fH];exact((((mi gA ir _).append_left bm).trans (mi bm ir _)).append_left p).trans (mi p ir _)
theorem w.R9(a:w N (p++(bm++(gA++(ir++lr))))):w N (bm++(gA++((p++ir)++lr))):=by
 rw[fH];exact a.perm (by grind[List.perm_append_comm_assoc,trans])
theorem w.Sa(a:w N (bm++(gA++((p++ir)++lr)))):w N (p++(bm++(gA++(ir++lr)))):=by
 rw[fH]at a;exact a.perm (by grind[List.perm_append_comm_assoc,trans])
theorem ahH(a:U<Z X):kc M H P (X.take (U+1))=kc M H P (X.take U)++(if j9 M P X[U]=ab then(nJ H P X[U]).toList else[]):=by
 rw[hX a,B3];grind[kc,j9,nJ]
theorem nR.frame(t:nR C U bg O y pO p H dD m4)(a:aN):nR C U bg O y pO (a++p) H dD m4:=by
 intro e d h g f b c x v A;have u:w c (ew O y g f H d h++(e++(p++(a++b)))):=by
  refine A.perm (kJ _ (kJ _ ?_));rw[fH];exact mi _ _ _
 obtain⟨B,i,o,k,j,n,m,l,q,r,s⟩:=t e d h g f (a++b) c x v u;refine⟨B,i,o,k,j,n,m,l,q,r,s.perm (kJ _ (kJ _ ?_))⟩;grind[List.append_assoc,List.perm_append_comm_assoc]
variable{pJ:aM}
theorem JB(b:P.ak=5)(a:P.ad=[b3,pJ]):pe M X H P=qv P.op (bW H b3).1 (bW H pJ).1:=by
 unfold pe;rw[if_neg (by omega),if_neg (by omega),if_neg (by grind),a]<;>rfl
theorem ahI(a:P.ak≠5):g7 H P=H:=by
 grind[g7]
theorem Sb(a:(P.ak==1||P.ak==3)=aa):e5 M X H P=if pe M X (g7 H P) P=ab then[g7 H P]else[]:=by
 grind[e5]
theorem ahJ(b:P.ak=5)(c:P.ad=[b3,pJ])(g:Z H.bl=Z H.ax)(i:iP H.ax P=ab):
 ((bW H b3).2=ab/\(bW H pJ).2=ab/\e5 M X H P=if qv P.op (bW H b3).1 (bW H pJ).1=ab then[H]else[])\/
 ((bW H b3).2=ab/\(bW H pJ).2=aa/\e5 M X H P=[fT H pJ (bW H b3).1])\/
 ((bW H b3).2=aa/\(bW H pJ).2=ab/\e5 M X H P=[fT H b3 (bW H pJ).1]):=by
 have p:(P.ak==1||P.ak==3)=false:=by rw[b];decide
 have l:(bW H b3).2=aa\/(bW H pJ).2=aa->P.op=1:=by
  intro o;refine yl λn=>?_;unfold iP at i;rw[if_neg (by grind),if_neg (by simp[n]),c]at i;simp only[qJ,zP,ve,bG]at i;rw[<-qy,<-qy]at i;rcases o with h|h
  ·grind
  ·grind
 have m:∀f:aO,qv 1 f f=true:=λf=>by rw[qv,if_pos rfl,(TO.val.eq f f).2 rfl]<;>rfl
 rw[Sb p];cases e:(bW H b3).2 with
 |true=>
  cases a:(bW H pJ).2 with
  |true=>
   refine .inl ⟨rfl,rfl,?_⟩;grind[g7,JB]
  |false=>
   refine .inr (.inl ⟨rfl,rfl,?_⟩);have d:=l (.inr a);have:g7 H P=fT H pJ (bW H b3).1:=by
    unfold g7;rw[c];simp only[e,a,b,d];simp
   have j:known H.ax b3=true:=by rw[<-qy];exact e
   have k:known H.ax pJ=false:=by rw[<-qy];exact a
   rw[this,JB b c,d,Ib g k,Ia g rfl rfl j,if_pos (m _)]
 |false=>
  cases a:(bW H pJ).2 with
  |true=>
   refine .inr (.inr ⟨rfl,rfl,?_⟩);have d:=l (.inl e);have:g7 H P=fT H b3 (bW H pJ).1:=by
    unfold g7;rw[c];simp only[e,a,b,d];simp
   have j:known H.ax pJ=true:=by rw[<-qy];exact a
   have k:known H.ax b3=false:=by rw[<-qy];exact e
   rw[this,JB b c,d,Ib g k,Ia (mT:=fT H b3 (bW H pJ).1) g rfl rfl j,if_pos (m _)]
  |false=>
   simp_all[iP,TD,Kq,FB,qy]
theorem zE(a:List aO):NB (eS aa cV a):=by
 refine .sl _ ?_;induction a with
 |nil=>exact .nil
 |cons c a b=>exact .cons _ _ (.cons _ _ (.int _ _) (.cons _ _ (.int _ _) (.cons _ _ (.str _) .nil))) b
theorem Sc(b:aO)(a:Bool):NB (.aE [.agg (cV b),.bool a]):=.aE _ (.cons _ _ (.agg _ (.cons _ _ (.int _ _) (.cons _ _ (.int _ _) (.cons _ _ (.str _) .nil)))) (.cons _ _ (.bool _) .nil))
theorem withE_1(a:(bW H b3).2=aa):hU H [b3] [iZ]=T (fT H b3 iZ):=by
 grind[hU]
variable{u:aG}
theorem ahK
 (b4:px Y p (cW V F bp b2 M X))(e:R8 M u X H P)(f1:lC E []=T (y,bg))(f2:bg.map AV.pl=bg)(hh:E.pl=E)(ok:dh 1 E=T [E])(a4:z->aX->z)
 (e2:∀pre bb fs,e5 M X H P=pre++bb::fs->nR C y bg U O pO (p++bm) bb (pre.foldl a4 dD) (a4 (pre.foldl a4 dD) bb)):
 nR C 117 [Y,.agg (cM U O),.agg (a5 ed P),E] U O pO (p++bm) H dD ((e5 M X H P).foldl a4 dD):=by
 intro N o j S R au L a9 bw ii;refine YN.hq ?_ (by simp[b4.pl,hh]);refine bj (yc rfl rfl) (bj (yc rfl rfl) (bj (obO_1 ok) ?_));have t:=((ii.alloc (.arr 0 2 [cM U O])).alloc (.arr 0 9 [a5 ed P])).alloc (.arr 0 1 [[E]]);simp only[fb,gz]at t⊢;generalize(L++[Obj.arr 0 2 [cM U O]]++[.arr 0 9 [a5 ed P]]++[.arr 0 1 [[E]]])=l at*;generalize Z L+1+1=B at*;generalize Z L+1=x at*;generalize Z L=n at*
 clear ii;replace t:w l (g1 n x B U O ed P E++(ew U O S R H o j++(N++((p++bm)++au)))):=t;have W:∀(hu:List AV),[hu][0]?=T hu:=λ_=>rfl;have f3:∀{H:aX}{o j N S R K J},w K (J++(g1 n x B U O ed P E++(ew U O S R H o j++(N++((p++bm)++au)))))->K[n]?=T (.arr 0 2 [cM U O])/\K[x]?=T (.arr 0 9 [a5 ed P])/\K[B]?=T (.arr 0 1 [[E]]):=λc=>
  ⟨c.get (by simp[g1]),c.get (by simp[g1]),c.get (by simp[g1])⟩
 obtain⟨bv,s,ce⟩:=f3 (J:=[]) t;have ha:bO (cW V F bp b2 M X):=by simp[cW]
 have hw:(a5 ed P)[0+0]?=T (I P.ak):=rfl;have f9:(a5 ed P)[0+2]?=T (I P.aq):=rfl;have ds:(a5 ed P)[0+3]?=T (eS ed cT P.ad):=rfl;have h3:(a5 ed P)[0+6]?=T (I P.gN):=rfl;have li:(a5 ed P)[0+7]?=T (I P.op):=rfl;have ke:(cW V F bp b2 M X)[4]?=T (eS bp (cF b2) X):=rfl;have ty:(a5 ed P)[0]?=T (I P.ak):=rfl;simp only[eb s,cr s (W _),hw,Q,c9]
 let mu:List AV->List Obj->Prop:=λ_ c=>∃ae ac ah aB ax,kG H ac ah/\pO ((e5 M X H P).foldl a4 dD) ae/\w c (g1 n x B U O ed P E++(ew U O aB ax H ac ah++(ae++((p++bm)++au))));have fI:∀h c,mu h c->∃ae ac ah aB ax,kG H ac ah/\pO ((e5 M X H P).foldl a4 dD) ae/\w c (ew U O aB ax H ac ah++(ae++((p++bm)++au))):=λh c ⟨ae,ac,ah,aB,ax,bf,bi,br⟩=>⟨ae,ac,ah,aB,ax,bf,bi,br.sub⟩
 refine eh (N:=l) (P.ak==1||P.ak==3) (λf7 i1=>b (λc=>kB i1 (by rw[c]<;>rfl)) (λc=>kB i1 (by rw[c]<;>rfl))) ?_;simp only[G];refine b (λd1=>?_) (λd1=>?_)
 ·have it:e5 M X H P=kc M H P X:=by rw[e5,if_pos d1]<;>rfl
  refine b4.rd (U:=4) t.B4 ke ?_;obtain⟨aQ,d2,t7,lt⟩:=ahy (V:=b2) (F:=bp) X P.aq e.fl e.fz;simp only[eb s,cr s (W _),f9,Q];refine f lt ?_;simp only[ef,cv,dk,Q];refine nQ mu (λA6 i3=>?_) fI;refine b4.rd (U:=4) t.B4 ke ?_;rw[PV (hE _) d2.le,Q,a8,Q];have l0:∀d∈X.drop aQ,d∈X:=λd be=>List.mem_of_mem_drop be;have t2:Z (X.drop aQ)<=Z X:=by simp
  have i5:∀r,(∀c:r<Z (X.drop aQ),(X.drop aQ)[r].aq≠P.aq)->e5 M X H P=kc M H P ((X.drop aQ).take r):=λr he=>by rw[it];exact ahD e.fz d2 he
  have ol:∀r,∃fs,e5 M X H P=kc M H P ((X.drop aQ).take r)++fs:=λr=>by
   rw[it];have lm:X=X.take aQ++((X.drop aQ).take r++(X.drop aQ).drop r):=by rw[vg,vg]
   refine⟨kc M H P ((X.drop aQ).drop r),?_⟩
   conv=>lhs;rw[lm,B3,B3]
   rw[JA (X:=X.take aQ)]
   ·simp
   ·intro d be
    obtain⟨f7,e2,rfl⟩:=jS.1 be;simp only[gb]at e2;simp only[Cu];have:=d2.lo f7 (by omega) (by omega);omega
  generalize X.drop aQ=a0 at*
  refine bB (z:=Nat×aN×List k×(k->Int)×Bool×Bool×List Obj) (λar=>[I ar.1]) (λar=>ar.2.2.2.2.2.2) (λar=>Z a0 -ar.1) (λar=>ar.1<=Z a0/\kG H ar.2.2.1 ar.2.2.2.1/\pO ((kc M H P (a0.take ar.1)).foldl a4 dD) ar.2.1/\w ar.2.2.2.2.2.2 (g1 n x B U O ed P E++(ew U O ar.2.2.2.2.1 ar.2.2.2.2.2.1 H ar.2.2.1 ar.2.2.2.1++(ar.2.1++((p++bm)++au))))) (0,N,o,j,S,R,l) ⟨by simp,a9,by simpa[kc]using bw,t⟩ ?_
  clear t bw a9 bv s ce d2;clear N o j S R l;rintro⟨r,N,o,j,S,R,L⟩ ⟨he,a9,bw,t⟩ s1 jp;simp only at he a9 bw t jp⊢;obtain⟨bv,s,ce⟩:=f3 (J:=[]) t;simp only[G,A,Q,a];refine b (λc=>?_) (λc=>?_)
  ·have c:r<Z a0:=by simpa using c
   refine nQ (λh c=>(∃kw,h=[kw])/\∃ae ac ah aB ax,kG H ac ah/\pO ((kc M H P (a0.take (r+1))).foldl a4 dD) ae/\w c (g1 n x B U O ed P E++(ew U O aB ax H ac ah++(ae++((p++bm)++au))))) (λN9 hg=>?_) (λh lw m=>?_)
   ·have i9:=l0 _ (bs c)
    have f6:=ahH (M:=M) (H:=H) (P:=P) c;have t5:a0[r].aq≠P.aq->e5 M X H P=kc M H P (a0.take r):=λm=>i5 r (λ_=>m);obtain⟨fs,pm⟩:=ol (r+1);rw[aC c (hE _ _),Q,my,Q];generalize a0[r]=d at*;refine bj rfl ?_;have go:=t.alloc (.arr 0 3 [[I 0,.ai,I 0]]);have h4:=go.get (U:=Z L) (iX:=.arr 0 3 [[I 0,.ai,I 0]]) (by simp);refine aD (stO_9 h4 rfl rfl rfl) ?_;have d6:=go.set (.arr 0 3 [cF b2 d])
    generalize(L++[Obj.arr 0 3 [[I 0,.ai,I 0]]]).set (Z L) (.arr 0 3 [cF b2 d])=eq at*;clear h4 go t bv s ce;generalize Z L=cs at*;obtain⟨bv,s,ce⟩:=f3 (J:=[(cs,.arr 0 3 [cF b2 d])]) d6;have f0:=d6.get (U:=cs) (iX:=.arr 0 3 [cF b2 d]) (by simp);have ro:(cF b2 d)[0+0]?=T (I d.aq):=rfl;have em:(cF b2 d)[0+1]?=T (eS b2 cV d.ad):=rfl
    simp only[eb s,eb f0,cr s (W _),cr f0 (W _),hw,f9,h3,ro,em,Q,cd,c9];refine b (λm=>?_) (λm=>?_)
    ·have m:d.aq≠P.aq:=by simpa using m
     refine i3 _ _ ⟨N,o,j,S,R,a9,?_,d6.tail⟩;grind
    ·have m:d.aq=P.aq:=by simpa using m
     refine eh (N:=eq) (P.ak==3&& !sg M P.aq P.gN d.af) (λt8 i4=>aZ (λci=>?_) (λci=>kB i4 (by rw[ci]<;>rfl))) ?_
     ·have id:P.ak=3:=by simpa using ci
      obtain⟨el,hj,d3,nl⟩:=e.lit.aq (by omega);obtain⟨ho,d4,hl⟩:=e.lit.gN (.inl id);rw[m,d3];rw[d3]at d4;have gh:=R5 (V:=true) (F:=V) (bp:=F) (b2:=bp) (ed:=b2) (pN:=b2) M X el hj d.ad P.gN e.sm e.of e.fl e.zD e.fz d4 (e.aV ho (Bz d4)) hl;refine ea _ gh ?_ (.bool _) ?_
      ·exact .ck (by rw[b4.pl];exact b4.g3 (w.B4 (p:=[(cs,.arr 0 3 [cF b2 d])]++g1 n x B U O ed P E) (by rw[fH];exact d6)) ha) (bO.snap (by simp))
      ·simp only[bD,Q]
       refine kB i4 ?_;have t3:tb M X (el:Int) d.ad=d.af:=by
        have:=ahG e.fz i9;rw[m,d3]at this;rw[tb,this]
       grind
     ·simp only[G]
      refine b (λf5=>?_) (λf5=>?_)
      ·have t6:j9 M P d=false:=by
        rw[bG]at f5;have ci:P.ak=3:=by simpa using f5.1
        have d0:sg M P.aq P.gN d.af=false:=by simpa using f5.2
        simp[j9,ci,d0]
       refine hg _ _ ⟨⟨_,rfl⟩,N,o,j,S,R,a9,?_,d6.tail⟩;grind
      ·have pi:j9 M P d=true:=by
        simp only[j9,m,beq_self_eq_true,cu,kg,bne_iff_ne,ne_eq];by_cases ci:P.ak=3
        ·grind
        ·omega
       rw[pi,if_pos rfl]at f6;have dl:aR 2 ab (.ptr n 0 0 0) eq=T (.agg (cM U O)):=kV bv rfl rfl;simp only[dl,eb s,eb f0,cr s (W _),cr f0 (W _),ds,em,Q,yN];have ex:w eq (ew U O S R H o j++(N++(([]++((cs,.arr 0 3 [cF b2 d])::(g1 n x B U O ed P E++(p++bm))))++au))):=by
        have:w eq (((cs,.arr 0 3 [cF b2 d])::g1 n x B U O ed P E)++(ew U O S R H o j++(N++((p++bm)++au)))):=d6;exact this.R9
       have t4:=e.ahE d i9 m;rw[f6,vj]at hg;have gi:=R6 (z:=z) (V:=ed) (U:=U) (O:=O) (pO:=pO) (Y:=eS b2 cV d.ad) (E:=.fn 177 [] [.ptr x 0 0 0,.ptr cs 0 0 0,.ptr n 0 0 0,.ptr B 0 0 0]) (p:=[]) (bm:=(cs,.arr 0 3 [cF b2 d])::(g1 n x B U O ed P E++(p++bm))) (mW:=P.ad) (vs:=d.ad) (H:=H)
        (dD:=(kc M H P (a0.take r)).foldl a4 dD) (m4:=(nJ H P d).toList.foldl a4 ((kc M H P (a0.take r)).foldl a4 dD)) (.inl ⟨b2,rfl,rfl⟩) (by omega) e.len e.ad rfl ?_ ?_
       ·refine cY (gi N o j S R au eq a9 bw ex) rfl ?_
        rintro rs es ⟨ae,ac,ah,aB,ax,bf,bi,br⟩;refine hg _ _ ⟨⟨_,rfl⟩,ae,ac,ah,aB,ax,bf,bi,?_⟩;exact(w.Sa (p:=(cs,.arr 0 3 [cF b2 d])::g1 n x B U O ed P E) br).tail
       ·intro bb v
        obtain⟨-,-,kl,st,-,-,-,-⟩:=uN P.ad d.ad e.len v;refine⟨177,_,rfl,rfl,ahC (by rw[kl,st];exact e.zm) (λms=>by rw[kl];exact e.bind ms) f1 f2 ?_⟩;have f4:nJ H P d=T (jq bb P d.af):=by rw[nJ,v]<;>rfl
        rw[f4];rw[f4]at f6;refine e2 (kc M H P (a0.take r)) _ fs ?_;rw[pm,f6];simp
       ·intro v
        have f4:nJ H P d=none:=by rw[nJ,v]<;>rfl
        rw[f4]<;>rfl
   ·obtain⟨⟨kw,rfl⟩,ae,ac,ah,aB,ax,bf,bi,br⟩:=m
    rw[ba (by have:=e.fl;grind[Sm]),Q];exact jp (r+1,ae,ac,ah,aB,ax,lw) ⟨c,bf,bi,br⟩ (by omega)
  ·have:r=Z a0:=by simp at c;omega
   subst this;refine i3 _ _ ⟨N,o,j,S,R,a9,?_,t⟩;rw[i5 (Z a0) (λc=>by omega)];exact bw
 ·have ex:w l (ew U O S R H o j++(g1 n x B U O ed P E++(N++((p++bm)++au)))):=t.swap
  have dl:∀K,K[n]?=T (.arr 0 2 [cM U O])->aR 2 ab (.ptr n 0 0 0) K=T (.agg (cM U O)):=λK g=>kV g rfl rfl;have i0:∀(K:List Obj)(bb:aX),(e5 M X H P=[bb])->bb=H->w K (g1 n x B U O ed P E++(ew U O S R H o j++(N++((p++bm)++au))))->HR C y bg K (λ_ c=>mu [] c):=by
   intro K bb v mt gt;subst mt;have ci:=e2 [] bb [] (by grind) N o j S R (g1 n x B U O ed P E++au) K a9 bw gt.Jy;obtain⟨u,es,em,ae,ac,ah,aB,ax,bf,bi,br⟩:=ci;refine⟨u,es,em,ae,ac,ah,aB,ax,bf,?_,br.Jz⟩;rw[v];exact bi
  have i7:e5 M X H P=[]->mu [] l:=λc=>⟨N,o,j,S,R,a9,by rw[c];exact bw,t⟩;refine b (λco=>?_) (λco=>?_)
  ·have co:P.ak=5:=by simpa using co
   obtain⟨d,a3,d7⟩:∃d a3,P.ad=[d,a3]:=by
    have:=(e.lit.cmp co).1
    match ne:P.ad with
    |[dD,V]=>grind
    |[]=>grind
    |[_]=>grind
    |_::_::_::_=>rw[ne]at this;simp at this
   have qr:∀L,bY 4 (eS ed cT [d,a3]) (I 0) L=T (.aK ed (cT d) 0):=λ_=>rfl;have rc:∀L,bY 4 (eS ed cT [d,a3]) (I 1) L=T (.aK ed (cT a3) 0):=λ_=>rfl;have rx:∀L,dV (.sl 4) (eS ed cT [d,a3]) (T (I 1)) D L=T (eS ed cT [a3]):=λ_=>rfl;have rt:∀L,dV (.sl 4) (eS ed cT [d,a3]) D (T (I 1)) L=T (eS ed cT [d]):=λ_=>rfl;have gv:∀h:aO,(AV.agg [g (cV h) 0,g (cV h) 1,g (cV h) 2])=.agg (cV h):=λ_=>rfl
   have v:=ahJ (M:=M) (X:=X) co d7 e.len e.iP;have ps:=e.ahF d (by grind);simp only[dl _ bv,eb s,cr s (W _),ds,d7,qr,rc,Q,ji];refine ea _ (Fg H o j d e.len) (.ck (B1 ex) (bO.snap (by simp))) (Sc _ _) ?_;simp only[ef,cv,dk,Q,l2];refine ea _ (Fg H o j a3 e.len) (.ck (B1 ex) (bO.snap (by simp))) (Sc _ _) ?_;simp only[cv,dk,Q,l2];refine nQ mu (λEl d8=>?_) fI
   have d8:∀h c,mu [] c->El h c:=λh c m=>d8 h c m;rw[bo];have i6:∀(d5:aM)(h:aO),(bW H d5).2=aa->e5 M X H P=[fT H d5 h]->Sm [d5]->∀f8:List Obj->Prop,(∀c,mu [] c->f8 c)->∀K,K=l++[.arr 0 3 [cV h]]->ch C 176 [.agg (cM U O),eS ed cT [d5],.q (Z l) 0 0 1,E] K λ_ c=>f8 c:=by
    intro d5 h pu ip pp f8 md K gt;have mk:w K ((Z l,.arr 0 3 [cV h])::(g1 n x B U O ed P E++(ew U O S R H o j++(N++((p++bm)++au))))):=by rw[gt];exact t.alloc _
    have mp:w K (ew U O S R H o j++(N++(([(Z l,.arr 0 3 [cV h])]++(g1 n x B U O ed P E++(p++bm)))++au))):=by
     have:w K (((Z l,.arr 0 3 [cV h])::g1 n x B U O ed P E)++(ew U O S R H o j++(N++((p++bm)++au)))):=mk;exact this.R9
    have gi:=R6 (z:=z) (V:=ed) (U:=U) (O:=O) (pO:=pO) (Y:=.q (Z l) 0 0 1) (E:=E) (p:=[(Z l,.arr 0 3 [cV h])]) (bm:=g1 n x B U O ed P E++(p++bm)) (mW:=[d5]) (vs:=[h]) (H:=H) (dD:=dD) (m4:=a4 dD (fT H d5 h)) (.inr (bA.of (o:=[h]))) (by simp) e.len pp hh ?_ ?_
    ·refine cY (gi N o j S R au K a9 bw mp) (by simp[hh]) ?_
     rintro rs es ⟨ae,ac,ah,aB,ax,bf,bi,br⟩;refine md _ ⟨ae,ac,ah,aB,ax,bf,?_,?_⟩
     ·rw[ip];exact bi
     ·exact(w.Sa (p:=(Z l,.arr 0 3 [cV h])::g1 n x B U O ed P E) br).tail
    ·intro bb hn
     rw[withE_1 pu]at hn;simp only[eK]at hn;subst hn;refine⟨y,bg,f1,f2,?_⟩;have:=(e2 [] _ [] (by simpa using ip)).frame ([(Z l,.arr 0 3 [cV h])]++g1 n x B U O ed P E);grind
    ·grind[withE_1]
   have i8:∀h:aO,(l++[Obj.arr 0 3 [cV h]])[n]?=T (.arr 0 2 [cM U O])/\(l++[Obj.arr 0 3 [cV h]])[x]?=T (.arr 0 9 [a5 ed P])/\(l++[Obj.arr 0 3 [cV h]])[B]?=T (.arr 0 1 [[E]]):=λh=>f3 (J:=[(Z l,.arr 0 3 [cV h])]) (t.alloc _);rcases v with⟨be,d9,v⟩|⟨be,d9,v⟩|⟨be,d9,v⟩
   ·simp only[be,d9]
    refine aZ (λ_=>?_) (λc=>by cases c);simp only[G,i];refine a7 ?_;simp only[eb s,cr s (W _),li,Q,gv];refine f (ahx P.op (bW H d).1 (bW H a3).1 ps) ?_;refine b (λgM=>?_) (λgM=>?_)
    ·rw[gM,if_pos rfl]at v
     rw[cr ce (W _)];refine aD (dD:=E) rfl (bj f1 ?_);refine cY (i0 l H v rfl t) f2 ?_;exactλu es m=>d8 _ _ m
    ·rw[gM,if_neg (by decide)]at v
     exact d8 _ _ (i7 v)
   ·obtain⟨r4,fd,hs⟩:=i8 (bW H d).1
    simp only[be,d9];refine aZ (λ_=>?_) (λc=>by cases c);simp only[G,i];refine bq (a7 ?_);simp only[dl _ bv,eb s,cr s (W _),ds,d7,rx,cr ce (W _),cv,Q,gv];refine bj (dD:=.q (Z l) 0 0 1) (b:=l++[.arr 0 3 [cV (bW H d).1]]) rfl ?_;simp only[dl _ r4,eb fd,cr fd (W _),ds,d7,cr hs (W _),cv,Q,j3,true_and];exact i6 a3 _ d9 v (by simp[Sm]) _ (λc m=>d8 _ c m) _ rfl
   ·obtain⟨r4,fd,hs⟩:=i8 (bW H a3).1
    simp only[be,d9];refine aZ (λc=>by cases c) (λ_=>?_);simp only[G,i];refine bq (bq (a7 ?_));simp only[dl _ bv,eb s,cr s (W _),ds,d7,rt,cr ce (W _),cv,Q,gv];refine bj (dD:=.q (Z l) 0 0 1) (b:=l++[.arr 0 3 [cV (bW H a3).1]]) rfl ?_;simp only[dl _ r4,eb fd,cr fd (W _),ds,d7,cr hs (W _),cv,Q,j3,true_and];exact i6 d _ be v (by simp[Sm]) _ (λc m=>d8 _ c m) _ rfl
  ·have co:P.ak≠5:=by simpa using co
   have v:e5 M X H P=if pe M X H P=ab then[H]else[]:=by rw[Sb d1,ahI co]
   obtain⟨aQ,d2,ls⟩:=Jq (V:=true) (F:=V) (bp:=F) (b2:=bp) (ed:=b2) (pN:=false) M X P.aq (eG H P.ad) e.fl e.zD e.fz (Fh e.fz _);simp only[dl _ bv,eb s,cr s (W _),f9,ds,Q];refine ea _ (R0 H o j P.ad e.len e.ad) (.ck (B1 ex) (bO.snap (by simp))) (zE _) ?_;refine ea _ ls (.ck (by rw[b4.pl];exact b4.g3 t.B4 ha) (bO.snap (by simp))) (.aE _ (.cons _ _ (.int _ _) (.cons _ _ (.bool _) .nil))) ?_
   simp only[ef,cv,dk,Q];refine eh (N:=l) (pe M X H P) (λPX i2=>?_) ?_
   ·have t1:∀(d0:P.ak=4)(s0:Prop->Prop),True:=λ_ _=>trivial
    by_cases gj:P.ak=2
    ·have os:pe M X H P= !k7 X ⟨P.aq,eG H P.ad,0⟩ aQ:=by
      rw[pe,if_neg (by omega),if_pos gj];cases io:k7 X ⟨P.aq,eG H P.ad,0⟩ aQ with
      |true=>
       obtain⟨_,em,-⟩:=Jv d2 io;grind
      |false=>
       obtain⟨em,-⟩:=Jw e.fz d2 io;grind
     have ge:(P.ak==4)=false:=by rw[gj];decide
     have gc:(P.ak==2)=true:=by rw[gj];decide
     simp only[bD,Q];refine aZ (λ_=>?_) (λc=>absurd (gc.symm.trans c) (by decide));refine dx (λm=>?_) (λm=>?_)
     ·exact aZ (λc=>absurd (ge.symm.trans c) (by decide)) (λ_=>kB i2 (by rw[os,m]))
     grind
    ·have d0:P.ak=4:=by
      have:=e.lit.ak;have t0:P.ak≠1:=λc=>by rw[c]at d1;simp at d1
      have id:P.ak≠3:=λc=>by rw[c]at d1;simp at d1
      omega
     have ge:(P.ak==4)=true:=by rw[d0];decide
     have gc:(P.ak==2)=false:=by rw[d0];decide
     obtain⟨el,hj,d3,nl⟩:=e.lit.aq (by omega);obtain⟨ho,d4,hl⟩:=e.lit.gN (.inr d0);rw[d3]at d4;have gh:=R5 (V:=true) (F:=V) (bp:=F) (b2:=bp) (ed:=b2) (pN:=false) M X el hj (eG H P.ad) P.gN e.sm e.of e.fl e.zD e.fz d4 (e.aV ho (Bz d4)) hl;simp only[h3,Q];refine aZ (λc=>absurd (gc.symm.trans c) (by decide)) (λ_=>aZ (λ_=>?_) (λc=>absurd (ge.symm.trans c) (by decide)));rw[d3]
     refine ea _ gh (.ck (by rw[b4.pl];exact b4.g3 t.B4 ha) (bO.snap (by simp))) (.bool _) ?_;simp only[bD,Q];refine kB i2 ?_;rw[pe,if_neg (by omega),if_neg (by omega),if_pos (by grind),d0,d3];simp
   ·simp only[G]
    refine b (λhm=>?_) (λhm=>?_)
    ·rw[hm,if_pos rfl]at v
     rw[cr ce (W _)];refine aD (dD:=E) rfl (bj f1 ?_);refine cY (i0 l H v rfl t) f2 ?_;exactλu es m=>fI [] _ m
    ·rw[hm,if_neg (by decide)]at v
     exact fI [] _ (i7 v)
variable{cn:Type}
theorem JC{e:Type}(c:cn->List e)(d:z->e->z):∀(b:List cn)(a:z),(b.flatMap c).foldl d a=b.foldl (λa x=>(c x).foldl d a) a
 |[],_=>rfl
 |x::b,a=>by rw[Kx,vj,JC c d b]<;>rfl
structure B5(p:aj)(r:aG)(fs:List aw)(fB:List aO):Prop where
 sm:dW p
 of:kz p
 aV:uM p
 fl:Sm fs
 zD:∀f∈fs,eO f.ad
 fz:fY fs
 hG:zl p r
 meet:∀l∈r.ae,wa fs l fB
 af:∀f∈fs,qx p f
 zo:∀v∈fB,Sm v.s
 ad:∀l∈r.ae,Sm l.ad
structure zG(p:aj)(r:aG)(fB:List aO)(done:List Nat)(V:List k)(e:aX):Prop where
 ax:e.ax=V
 len:Z e.bl=Z V
 fB:∀v∈e.bl,v∈fB
 aV:tf p r done e
theorem zG.lit{done:List Nat}(a:B5 M u X bz)(c:zG M u bz done x H)(g:u.ae[U]?=T P)(t:U∉done)(o:iP x P=ab):R8 M u X H P:=by
 have d:P∈u.ae:=sG g;have h:Z H.bl=Z H.ax:=by rw[c.len,c.ax]
 refine⟨a.sm,a.of,a.aV,a.fl,a.zD,a.fz,a.hG.lits P d,by rw[c.ax];exact o,a.ad P d,h,c.aV.len,(a.meet P d).len,λl b=>?_,λe p=>?_⟩
 ·rw[c.aV.m,yj]at b
  obtain⟨j,s,b⟩:=b;cases i:u.ae[j]? with
  |none=>grind
  |some q=>
   rw[i]at b;simp only at b;split at b
   ·cases b
   ·rename_i n
    have:=a.hG.one U j P q g i l n;grind
 ·cases f:known H.ax e with
  |true=>exact a.zo _ (Ic h c.fB ((a.meet P d).uP e p) f)
  |false=>
   have r:(bW H e).2=false:=by rw[qy];exact f
   grind[bW,Sm,zV]
variable{mT:aX}
theorem zG.next{done:List Nat}(c:B5 M u X bz)(a:zG M u bz done x H)(d:u.ae[U]?=T P)(g:iP x P=ab)(e:mT∈e5 M X H P):zG M u bz (done++[U]) (cH x P.ad) mT:=by
 have f:P∈u.ae:=sG d;have b:=(Ig (M:=M) (c.meet P f) a.ax a.len a.fB).1 mT e;rw[PH g]at b;exact⟨b.1,b.2.1,b.2.2.2,tf.step c.hG c.af d (by rw[a.len,a.ax]) a.aV e⟩
def u6(c d e a i16 b:Nat):List AV:=[.ptr a 0 0 0,.ptr e 0 0 0,.ptr i16 0 0 0,.ptr c 0 0 0,.ptr d 0 0 0,.ptr b 0 0 0]
def jG(c d e a i16 b i h:Nat)(l g:AV)(f:Bool)(k:aG)(j:List Nat):aN:=
 [(b,.arr 0 1 [[.fn 116 [] (u6 c d e a i16 b)]]),(i16,.arr 0 2 [cM i h]),(a,.arr 0 1 [[eS aa cN j]]),(e,.arr 0 1 [[g]]),(d,.arr 0 9 [aP f k]),(c,.arr 0 1 [[l]])]
variable{hz:Nat × Obj}
theorem w.toEnd(a:w N (hz::(p++(bm++(gA++ir))))):w N (p++(bm++(gA++(hz::ir)))):=w.Jy (p:=[hz]) a
theorem w.Sd(a:w N (p++(bm++(gA++(hz::ir))))):w N (hz::(p++(bm++(gA++ir)))):=w.Jz (p:=[hz]) a
end AM
end Go
