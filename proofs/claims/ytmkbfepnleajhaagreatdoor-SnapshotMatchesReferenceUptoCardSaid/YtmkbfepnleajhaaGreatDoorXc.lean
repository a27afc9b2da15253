/- SnapshotMatchesReference, 3 of 11 -/
import Derived.Test.YtmkbfepnleajhaaGreatDoorXb
set_option maxRecDepth 100000
open List renaming length->Z,any_cons->TD,any_nil->Kq,filterMap_append->TK,mem_or_eq_of_mem_set->ak6
open Option renaming some->T,none->D
open Bool renaming true->ab,false->aa,not_eq_true->Kr,not_not->FC
open Decidable renaming decide->S
open Array renaming toList->bU
open Go.Proofs.Tryz renaming prog->a1
open BitVec renaming eq_of_getLsbD_eq->TE,getLsbD_and->Ct,getLsbD_not->ak1,getLsbD_of_ge->TF,getLsbD_one->ak0,getLsbD_or->ak2,getLsbD_ushiftRight->akZ
open Int renaming cast_ofNat_Int->TB,mul_nonneg->akU
open Nat renaming div_eq_of_lt->akX,le_succ->Kp,le_total->akV,min_eq_right->akW,pow_le_pow_right->akY
namespace Go
namespace AM
variable{U:Nat}{ez:Option Tmp}{O y:Nat}
section
open Go.Proofs
def sZ:Code->Array Oper|.region _ a _=>a|_=>#[]
def y3(a:Oper):Op×Option Tmp×Option (Nat×Bool)×List Nat:=(a.op,a.dst,a.guard,bU ((a.after.filter (Region.binds .any)).map (·.on)))
def T3:List (Op×Option Tmp×Option (Nat×Bool)×List Nat):=
 [(.move (.tmp 5),T 19,D,[]),(.makeSlice 29 (.tmp 19) (.tmp 19),T 20,D,[0,0]),(.move (.tmp 5),T 21,D,[]),(.makeSlice 29 (.tmp 21) (.tmp 21),T 22,D,[2,2]),
  (.move (.tmp 5),T 23,D,[]),(.makeSlice 29 (.tmp 23) (.tmp 23),T 24,D,[4,4]),(.alloc 29,T 6,D,[]),(.alloc 29,T 7,D,[]),(.alloc 29,T 8,D,[]),
  (.store 29 (.tmp 6) (.tmp 20),D,D,[6,1,0,1,6,7,8]),(.store 29 (.tmp 7) (.tmp 22),D,D,[7,3,9,0,1,2,3,6,7,8,9]),(.store 29 (.tmp 8) (.tmp 24),D,D,[8,5,10,0,1,2,3,4,5,6,7,8,9,10])]
theorem ab7:(bU (sZ (cL (cR (cR (cR (Tryz.f105.body.getD .skip))))))).map y3=T3:=by kernel_rfl
theorem ab8:sO a1 29=T (1,[I 0],8):=by kernel_rfl
theorem ab9:qO a1 29=T [.ai]:=by kernel_rfl
theorem NH:bc a1 29=1:=by kernel_rfl
theorem aca:(a1.info? 29).isSome=true:=by kernel_rfl
def oj(done:List Nat)(a:Nat):Prop:=(a<3/\2*a+1∈done)\/(3<=a/\3+a∈done)
structure J(s3:AS)(n:Nat)(done:List Nat)(id:Nat->Nat)(s:AS):Prop where
 env:∀k,k<19->k≠6->k≠7->k≠8->look k s.env=look k s3.env
 bx:s.bx=s3.bx
 mv:∀j,j<3->2*j∈done->look (19+2*j) s.env=T (I n)
 ms:∀j,j<3->2*j+1∈done->look (20+2*j) s.env=T (.q (id j) 0 0 n)/\s.hp[id j]?=T (.arr 0 1 (List.replicate n [I 0]))
 al:∀j,j<3->6+j∈done->look (6+j) s.env=T (.ptr (id (3+j)) 0 0 0)/\s.hp[id (3+j)]?=T (.arr 0 1 [[if 9+j∈done then .q (id j) 0 0 n else .ai]])
 dep:∀j,j<3->9+j∈done->2*j+1∈done/\6+j∈done
 ge:∀j,j<6->oj done j->Z s3.hp<=id j/\id j<Z s.hp
 inj:∀i j,i<6->j<6->oj done i->oj done j->id i=id j->i=j
 Ba:∀k,k<Z s3.hp->s.hp[k]?=s3.hp[k]?
 len:Z s3.hp<=Z s.hp
theorem J.start(a:AS)(b:Nat)(id:Nat->Nat):J a b [] id a:=
 ⟨λ_ _ _ _ _=>rfl,rfl,by grind,by grind,by grind,by grind,by grind[oj],by grind[oj],λ_ _=>rfl,di _⟩
variable{s3:AS}{n:Nat}{done:List Nat}{id:Nat->Nat}{s:AS}
theorem J.move(c:J s3 n done id s)(r:U<3):J s3 n (2*U::done) id {s with env:=put (19+2*U) (I n) s.env}:=by
 have i:∀a,oj (2*U::done) a->a<6->oj done a:=by
  rintro a (⟨f,g⟩|⟨f,g⟩) b
  ·rcases cf.1 g with e|e
   ·omega
   ·exact .inl ⟨f,e⟩
  ·rcases cf.1 g with e|e
   ·omega
   ·exact .inr ⟨f,e⟩
 have l:∀a,a<3->(9+a∈2*U::done<->9+a∈done):=by grind
 refine⟨λq f g m o=>?_,c.bx,λa b d=>?_,λa b d=>?_,λa b d=>?_,λa b d=>?_,λa b h=>c.ge a b (i a h b),λa k b j h p=>c.inj a k b j (i a h b) (i k p j),c.Ba,c.len⟩
 ·rw[fc,if_neg (by omega)];exact c.env q f g m o
 ·rw[fc]
  split
  ·rfl
  ·rename_i t
   rcases cf.1 d with e|e
   ·omega
   ·exact c.mv a b e
 ·rcases cf.1 d with e|e
  ·omega
  ·rw[fc,if_neg (by omega)];exact c.ms a b e
 ·rcases cf.1 d with e|e
  ·omega
  ·rw[fc,if_neg (by omega)]
   simp only[l a b];exact c.al a b e
 ·have:=c.dep a b ((l a b).1 d)
  grind
theorem J.make(c:J s3 n done id s)(B:U<3)(A:2*U+1∉done):
 J s3 n ((2*U+1)::done) (λg=>if g=U then Z s.hp else id g) {s with env:=put (20+2*U) (.q (Z s.hp) 0 0 n) s.env,hp:=s.hp++[.arr 0 1 (List.replicate n [I 0])]}:=by
 have o:∀a,oj ((2*U+1)::done) a->a<6->a=U\/(a≠U/\oj done a):=by
  rintro a (⟨h,i⟩|⟨h,i⟩) b
  ·rcases cf.1 i with e|e
   ·left;omega
   ·by_cases m:a=U
    ·omega
    ·exact .inr ⟨m,.inl ⟨h,e⟩⟩
  ·rcases cf.1 i with e|e
   ·omega
   ·exact .inr ⟨by omega,.inr ⟨h,e⟩⟩
 have v:∀a,a<3->(9+a∈(2*U+1)::done<->9+a∈done):=by grind
 have lt:∀a,a<Z s.hp->(s.hp++[Obj.arr 0 1 (List.replicate n [I 0])])[a]?=s.hp[a]?:=λa b=>lU b;refine⟨λg h i w x=>?_,c.bx,λa b f=>?_,λa b f=>?_,λa b f=>?_,λa b f=>?_,λa b d=>?_,λa r b p d k l=>?_,λg z=>?_,?_⟩
 ·rw[fc,if_neg (by omega)];exact c.env g h i w x
 ·rcases cf.1 f with e|e
  ·omega
  ·rw[fc,if_neg (by omega)];exact c.mv a b e
 ·by_cases m:a=U
  ·subst m
   rw[fc,if_pos rfl,if_pos rfl];exact⟨rfl,by simp⟩
  ·have e:=(cf.1 f).resolve_left (by omega)
   obtain⟨t,u⟩:=c.ms a b e;grind[fc]
 ·have e:=(cf.1 f).resolve_left (by omega)
  obtain⟨t,u⟩:=c.al a b e;have:=(c.ge (3+a) (by omega) (.inr ⟨by omega,by rw[show 3+(3+a)=6+a by omega];exact e⟩)).2;rw[fc,if_neg (by omega),if_neg (by omega)];refine⟨t,(lt _ this).trans ?_⟩;rw[u];simp only[v a b];by_cases y:9+a∈done
  ·have m:a≠U:=λe=>A (by subst e;exact(c.dep a b y).1)
   grind
  grind
 ·have:=c.dep a b ((v a b).1 f)
  grind
 ·rcases o a d b with e|⟨e,d⟩
  ·rw[if_pos e];simp;exact c.len
  ·have:=c.ge a b d
   grind
 ·rcases o a d b with e|⟨e,d⟩<;>rcases o r k p with j|⟨j,k⟩
  ·omega
  ·rw[if_pos e,if_neg j]at l
   have:=(c.ge r p k).2;omega
  ·rw[if_neg e,if_pos j]at l
   have:=(c.ge a b d).2;omega
  ·rw[if_neg e,if_neg j]at l
   exact c.inj a r b p d k l
 ·have:=c.len
  exact(lt g (by omega)).trans (c.Ba g z)
 ·have:=c.len
  simp;omega
theorem J.alloc(c:J s3 n done id s)(A:U<3)(z:6+U∉done):
 J s3 n ((6+U)::done) (λg=>if g=3+U then Z s.hp else id g) {s with env:=put (6+U) (.ptr (Z s.hp) 0 0 0) s.env,hp:=s.hp++[.arr 0 1 [[.ai]]]}:=by
 have m:∀a,oj ((6+U)::done) a->a<6->a=3+U\/(a≠3+U/\oj done a):=by
  rintro a (⟨h,i⟩|⟨h,i⟩) b
  ·rcases cf.1 i with e|e
   ·omega
   ·exact .inr ⟨by omega,.inl ⟨h,e⟩⟩
  ·rcases cf.1 i with e|e
   ·left;omega
   ·by_cases p:a=3+U
    ·omega
    ·exact .inr ⟨p,.inr ⟨h,e⟩⟩
 have r:∀a,a<3->(9+a∈(6+U)::done<->9+a∈done):=by grind
 have lt:∀a,a<Z s.hp->(s.hp++[Obj.arr 0 1 [[AV.ai]]])[a]?=s.hp[a]?:=λa b=>lU b;refine⟨λg h i v w=>?_,c.bx,λa b f=>?_,λa b f=>?_,λa b f=>?_,λa b f=>?_,λa b d=>?_,λa q b o d k l=>?_,λg y=>?_,?_⟩
 ·rw[fc,if_neg (by omega)];exact c.env g h i v w
 ·rcases cf.1 f with e|e
  ·omega
  ·rw[fc,if_neg (by omega)];exact c.mv a b e
 ·have e:=(cf.1 f).resolve_left (by omega)
  obtain⟨t,u⟩:=c.ms a b e;grind[fc]
 ·by_cases p:a=U
  ·subst p
   have x:9+a∉done:=λe=>z (c.dep a b e).2;rw[fc,if_pos rfl,if_pos rfl];simp[r a b,x]
  ·have e:=(cf.1 f).resolve_left (by omega)
   obtain⟨t,u⟩:=c.al a b e;grind[fc]
 ·have:=c.dep a b ((r a b).1 f)
  grind
 ·rcases m a d b with e|⟨e,d⟩
  ·rw[if_pos e];simp;exact c.len
  ·have:=c.ge a b d
   grind
 ·rcases m a d b with e|⟨e,d⟩<;>rcases m q k o with j|⟨j,k⟩
  ·omega
  ·rw[if_pos e,if_neg j]at l
   have:=(c.ge q o k).2;omega
  ·rw[if_neg e,if_pos j]at l
   have:=(c.ge a b d).2;omega
  ·rw[if_neg e,if_neg j]at l
   exact c.inj a q b o d k l
 ·have:=c.len
  exact(lt g (by omega)).trans (c.Ba g y)
 ·have:=c.len
  simp;omega
theorem J.store(c:J s3 n done id s)(A:U<3)(B:9+U∉done)(x:6+U∈done)(d:2*U+1∈done):
 J s3 n ((9+U)::done) id {s with hp:=s.hp.set (id (3+U)) (.arr 0 1 [[.q (id U) 0 0 n]])}:=by
 have l:∀a,oj ((9+U)::done) a->a<6->oj done a:=by
  rintro a (⟨d,g⟩|⟨d,g⟩) b
  ·rcases cf.1 g with e|e
   ·omega
   ·exact .inl ⟨d,e⟩
  ·rcases cf.1 g with e|e
   ·omega
   ·exact .inr ⟨d,e⟩
 have k:oj done (3+U):=.inr (by grind);have y:=c.ge (3+U) (by omega) k;refine⟨λm d g t u=>c.env m d g t u,c.bx,λa b f=>?_,λa b f=>?_,λa b f=>?_,λa b f=>?_,λa b j=>?_,λa p b o j v=>c.inj a p b o (l a j b) (l p v o),λm w=>?_,?_⟩
 ·exact c.mv a b (by grind)
 ·have e:=(cf.1 f).resolve_left (by omega)
  obtain⟨h,r⟩:=c.ms a b e;refine⟨h,?_⟩;have:id (3+U)≠id a:=λi=>by
   have:=c.inj _ _ (by omega) (by omega) k (.inl ⟨b,e⟩) i;omega
  grind
 ·have e:=(cf.1 f).resolve_left (by omega)
  obtain⟨h,r⟩:=c.al a b e;refine⟨h,?_⟩;simp only;by_cases z:a=U
  ·grind
  ·have C:id (3+U)≠id (3+a):=λi=>by
    have:=c.inj _ _ (by omega) (by omega) k (.inr (by grind)) i;omega
   grind
 ·rcases cf.1 f with e|e
  ·grind
  ·have:=c.dep a b e
   grind
 ·have:=c.ge a b (l a j b)
  simp;omega
 ·simp only
  rw[nV (by omega)];exact c.Ba m w
 grind
variable{G:Nat->Option (List AV)}{A:bQ}
theorem acb{s:AS}(c:n<=1000000)(a:look U s.env=T (I n)):
 aT a1 G A s ez (.makeSlice 29 (.tmp U) (.tmp U))=T (.q (Z s.hp) 0 0 n,{s with hp:=s.hp++[.arr 0 1 (List.replicate n [I 0])]}):=by
 have b:tZ 1 [I 0] 8 (I n) (I n) s.hp=T (.q (Z s.hp) 0 0 n,s.hp++[.arr 0 1 (List.replicate n [I 0])]):=by
  unfold tZ;simp only;rw[if_pos (by simp;omega),ej]
 have:=(MF ab8 b).1;simp only[aT,ay,a,oK];exact this
theorem acd{s:AS}(a:U∉A.lb):aT a1 G A s (T U) (.alloc 29)=T (.ptr (Z s.hp) 0 0 0,{s with hp:=s.hp++[.arr 0 1 [[.ai]]]}):=by
 simp_all[aT,ab9,NH]
theorem ace{s:AS}{id:Nat}{a:AV}(b:look U s.env=T (.ptr id 0 0 0))(c:look O s.env=T (.q y 0 0 n))(d:s.hp[id]?=T (.arr 0 1 [[a]])):
 aT a1 G A s ez (.store 29 (.tmp U) (.tmp O))=T (.undef,{s with hp:=s.hp.set id (.arr 0 1 [[.q y 0 0 n]])}):=by
 simp_all[aT,ay,oK,tJ,AV.pl,AV.cells,NH,qJ,zP,AV.bP,aca,and_self,eV]
theorem acf{s3:AS}(W:look 5 s3.env=T (I n))(ah:n<=1000000)(af:A.lb=[]):∀(o done:List Nat)(id:Nat->Nat)(s:AS),n5 (sZ (cL (cR (cR (cR (Tryz.f105.body.getD .skip)))))) done o->J s3 n done id s->
 ∃i j h,J s3 n h j i/\(∀a,a<12->a∈h)/\kM a1 G (sZ (cL (cR (cR (cR (Tryz.f105.body.getD .skip)))))) (fO (sZ (cL (cR (cR (cR (Tryz.f105.body.getD .skip)))))) o) s i:=by
 have F:=ab7;generalize sZ (cL (cR (cR (cR (Tryz.f105.body.getD .skip)))))=l at F⊢;have ar:l.size=12:=by
  have:=congrArg List.length F;simpa[T3]using this
 intro o;induction o with
 |nil=>
  intro done id s x p;exact⟨s,id,done,p,λa ae=>x a (by omega),Gg⟩
 |cons a o ax=>
  intro done id s x p;obtain⟨B,⟨c,C,Z⟩,x⟩:=x;have ae:a<12:=by
   rw[<-ar];exact(oI.1 C).1
  have aq:T3[a]?=T (y3 c):=by
   rw[<-F,zS,Array.getElem?_toList,C];rfl
  have ak:fO l (a::o)=c::fO l o:=by simp[fO,C]
  rw[ak];have ad:c.guard=D->fu l s c=T true:=by grind[fu]
  have V:∀y,y∈(y3 c).2.2.2->y∈done:=by
   intro y P;simp only[y3,Cm,Array.mem_map,Array.mem_filter]at P;obtain⟨e,⟨ac,Y⟩,rfl⟩:=P;exact Z e ac Y
  have key:∀(L:AS)(N:AV)(z:AS)(j:Nat->Nat),c.guard=D->aT a1 G A s c.dst c.op=T (N,L)->fD c.dst (N,L)=z->J s3 n (a::done) j z->∃i j h,J s3 n h j i/\(∀a,a<12->a∈h)/\kM a1 G l (c::fO l o) s i:=by
   intro L N z j t r u X;obtain⟨i,au,h,Q,R,S⟩:=ax (a::done) j z x X;exact⟨i,au,h,Q,R,Gh (ad t) r (by rw[u];exact S)⟩
  have K:∀b,b<3->a=2*b->c.op=.move (.tmp 5)->c.dst=T (19+2*b)->c.guard=D->∃i j h,J s3 n h j i/\(∀a,a<12->a∈h)/\kM a1 G l (c::fO l o) s i:=by
   intro b q e t r u;subst e;refine key s (I n) _ id u (by rw[t];simp only[aT,ay,p.env 5 (by omega) (by omega) (by omega) (by omega),W,oK,AV.pl]) ?_ (p.move q);rw[r];rfl
  have H:∀b,b<3->a=2*b+1->c.op=.makeSlice 29 (.tmp (19+2*b)) (.tmp (19+2*b))->c.dst=T (20+2*b)->c.guard=D->2*b∈done->∃i j h,J s3 n h j i/\(∀a,a<12->a∈h)/\kM a1 G l (c::fO l o) s i:=by
   intro b q e t r u w;subst e;refine key _ _ _ _ u (by rw[t];exact acb ah (p.mv b q w)) ?_ (p.make q B);rw[r];rfl
  have aB:∀b,b<3->a=6+b->c.op=.alloc 29->c.dst=T (6+b)->c.guard=D->∃i j h,J s3 n h j i/\(∀a,a<12->a∈h)/\kM a1 G l (c::fO l o) s i:=by
   intro b q e t r u;subst e;refine key _ _ _ _ u (by rw[t,r];exact acd (by rw[af];simp)) ?_ (p.alloc q B);rw[r];rfl
  have M:∀b,b<3->a=9+b->c.op=.store 29 (.tmp (6+b)) (.tmp (20+2*b))->c.dst=D->c.guard=D->6+b∈done->2*b+1∈done->∃i j h,J s3 n h j i/\(∀a,a<12->a∈h)/\kM a1 G l (c::fO l o) s i:=by
   intro b q e t r u w O;subst e;refine key _ _ _ _ u (by rw[t];exact ace (p.al b q w).1 (p.ms b q O).1 (p.al b q w).2) ?_ (p.store q B w O);rw[r];rfl
  have U:a=0\/a=1\/a=2\/a=3\/a=4\/a=5\/a=6\/a=7\/a=8\/a=9\/a=10\/a=11:=by omega
  have m:∀{v:Op×Option Tmp×Option (Nat×Bool)×List Nat},T3[a]?=T v->c.op=v.1/\c.dst=v.2.1/\c.guard=v.2.2.1/\∀y∈v.2.2.2,y∈done:=by
   intro v E;rw[aq]at E;simp only[eK]at E;subst E;exact⟨rfl,rfl,rfl,V⟩
  rcases U with e|e|e|e|e|e|e|e|e|e|e|e<;>rw[e]at m
  ·obtain⟨d,f,g,-⟩:=m rfl
   exact K 0 (by omega) e d f g
  ·obtain⟨d,f,g,k⟩:=m rfl
   exact H 0 (by omega) e d f g (k 0 (by simp))
  ·obtain⟨d,f,g,-⟩:=m rfl
   exact K 1 (by omega) e d f g
  ·obtain⟨d,f,g,k⟩:=m rfl
   exact H 1 (by omega) e d f g (k 2 (by simp))
  ·obtain⟨d,f,g,-⟩:=m rfl
   exact K 2 (by omega) e d f g
  ·obtain⟨d,f,g,k⟩:=m rfl
   exact H 2 (by omega) e d f g (k 4 (by simp))
  ·obtain⟨d,f,g,-⟩:=m rfl
   grind
  ·obtain⟨d,f,g,-⟩:=m rfl
   grind
  ·obtain⟨d,f,g,-⟩:=m rfl
   grind
  ·obtain⟨d,f,g,k⟩:=m rfl
   exact M 0 (by omega) e d f g (k 6 (by simp)) (k 1 (by simp))
  ·obtain⟨d,f,g,k⟩:=m rfl
   exact M 1 (by omega) e d f g (k 7 (by simp)) (k 3 (by simp))
  ·obtain⟨d,f,g,k⟩:=m rfl
   exact M 2 (by omega) e d f g (k 8 (by simp)) (k 5 (by simp))
end
variable{N:List Obj}{V:Bool}
theorem bE(a:V=aa):aI N .res (AV.pl ff) (.bool V):=by simp[a]
theorem hR(a:V=ab):aI N .res (AV.pl tt) (.bool V):=by simp[a]
variable{F:Bool}
theorem gU(a:F=V):aI N .res (AV.pl (.bool V)) (.bool F):=by simp[a]
variable{fp jc:Prop}
theorem bq(b:jc)(a:V=false:=by exact rfl):dY (.bool V) fp jc:=by subst a;simpa using b
theorem a7(b:fp)(a:V=true:=by exact rfl):dY (.bool V) fp jc:=by subst a;simpa using b
theorem b(a:V=ab->fp)(c:V=aa->jc):dY (.bool V) fp jc:=by cases V<;>simp_all
variable{aU c1:Int}
theorem Hl(a:S (aU<c1)=aa):S (c1<=aU)=true:=by grind
theorem Hm(a:S (aU<c1)=ab):S (c1<=aU)=false:=by grind
theorem eP.acg(s:eP C)(a:Lit)(J:p9 a):PR C 273 [.agg (a5 V a)] (.bool (mC a)):=by
 refine Yp.pr ?_;have d:mC a=(S (0<=a.bf)&&S (1<=a.ak)&&S (a.ak<=5)&&ek 4 ic a.ad&&
  (if(a.ak==5)=ab then a.ar==[]else bV a.ar)&&(if(a.ak==3||a.ak==4)=ab then bV a.af else a.af==[])&&(a.bind==[]||a.ak==1&&isVar a.bind)&&
  (if(a.ak==5)=ab then((Z a.ad:Int)==2)&&S (1<=a.op)&&S (a.op<=4)else a.op==0)):=rfl
 generalize mC a=c at*;simp only[bo,nm,Q,a6,aH,oY,GI,oc,yP,GJ,xg,Dm,a8,A,er,gF,jN,c9,ib,aJ,G,bD];have E:PR C 270 [eS V cT a.ad,I 4,.fn 271 [] []] (.bool (ek 4 ic a.ad)):=Np (d:=ic) (by simp) rfl _ J (λK _=>sV (s.Ns K) (by simp));have p:∀(g:k)(i:Bool),PR C 268 [.str g,.bool i,.fn 260 [] []] (.bool (if i=ab then bV g else g==[])):=by grind[DN,vL]
 have F:∀(g:k)(i:Bool),PR C 268 [.str g,.bool i,.fn 269 [] []] (.bool (if i=ab then isVar g else g==[])):=by grind[DN,Hh]
 refine dx (λm=>?_) (λm=>a7 (bE (by rw[d,Hm m];rfl)));refine dx (λn=>?_) (λn=>a7 (bE (by rw[d,Hm n];simp)));refine dx (λo=>?_) (λo=>a7 (bE (by rw[d,Hm o];simp)));refine f E ?_;simp only[bD,Q];refine b (by simp_all) (λw=>?_);have x:ek 4 ic a.ad=true:=by simpa using w
 rw[Hl m,Hl n,Hl o,x]at d;simp only[cu]at d;refine f (p a.ar (!(a.ak==5))) ?_;have u:(if(!(a.ak==5))=ab then bV a.ar else a.ar==[])=(if(a.ak==5)=ab then a.ar==[]else bV a.ar):=by cases(a.ak==5)<;>rfl
 rw[u];simp only[bD,Q];generalize(if(a.ak==5)=ab then a.ar==[]else bV a.ar)=t at*;refine dx (λl=>?_) (λl=>a7 (bE (by simp only[jt]at l;rw[d,l];simp)));have y:t=true:=by simpa using l
 subst y;simp only[cu]at d;have q:∀j:Bool,j=(if(a.ak==3||a.ak==4)=ab then bV a.af else a.af==[])->bd (ml .not (.bool j)) λL=>
  gd L aa (gd (.bool (!(a.bind==[]))) ab (cp C 268 [.str a.bind,.bool (a.ak==1),.fn 269 [] []] [] λM=>bd (ml .not M) λN=>dY N (aI [] .res (AV.pl ff) (.bool c)) (dY (.bool (a.ak==5)) (gd (.bool ((Z a.ad:Int)==2)) ab (gd (.bool (S (1<=a.op))) ab (aI [] .res (AV.pl (.bool (S (a.op<=4)))) (.bool c)) (aI [] .res (AV.pl ff) (.bool c))) (aI [] .res (AV.pl ff) (.bool c))) (aI [] .res (AV.pl (.bool (a.op==0))) (.bool c))))
   (dY ff (aI [] .res (AV.pl ff) (.bool c)) (dY (.bool (a.ak==5)) (gd (.bool ((Z a.ad:Int)==2)) ab (gd (.bool (S (1<=a.op))) ab (aI [] .res (AV.pl (.bool (S (a.op<=4)))) (.bool c)) (aI [] .res (AV.pl ff) (.bool c))) (aI [] .res (AV.pl ff) (.bool c))) (aI [] .res (AV.pl (.bool (a.op==0))) (.bool c)))))
  (dY tt (aI [] .res (AV.pl ff) (.bool c)) (dY (.bool (a.ak==5)) (gd (.bool ((Z a.ad:Int)==2)) ab (gd (.bool (S (1<=a.op))) ab (aI [] .res (AV.pl (.bool (S (a.op<=4)))) (.bool c)) (aI [] .res (AV.pl ff) (.bool c))) (aI [] .res (AV.pl ff) (.bool c))) (aI [] .res (AV.pl (.bool (a.op==0))) (.bool c)))):=by
  intro j H;rw[<-H]at d;simp only[bD,Q];refine dx (λe=>?_) (λe=>a7 (bE (by simp only[jt]at e;rw[d,e];simp)));have z:j=true:=by simpa using e
  rw[z]at d;simp only[cu]at d;have last:(a.bind==[]||a.ak==1&&isVar a.bind)=ab->(dY (.bool (a.ak==5)) (gd (.bool ((Z a.ad:Int)==2)) ab (gd (.bool (S (1<=a.op))) ab (aI [] .res (AV.pl (.bool (S (a.op<=4)))) (.bool c)) (aI [] .res (AV.pl ff) (.bool c))) (aI [] .res (AV.pl ff) (.bool c))) (aI [] .res (AV.pl (.bool (a.op==0))) (.bool c))):=by
   intro h;rw[h]at d;simp only[cu]at d;refine b (λr=>?_) (λr=>?_)
   ·rw[r]at d
    simp only[if_true]at d;refine aZ (λB=>?_) (by simp_all);rw[B]at d;refine aZ (λO=>?_) (by grind[bE]);simp_all
   ·simp_all
  refine aZ (λh=>?_) (λh=>bq (last (by simp at h;simp[h])));refine f (F _ _) ?_;simp only[bD,Q];have v:(a.bind==[]||a.ak==1&&isVar a.bind)=(if(a.ak==1)=ab then isVar a.bind else a.bind==[]):=by
   have:(a.bind==[])=false:=by simpa using h
   rw[this];cases(a.ak==1)<;>rfl
  rw[v]at d last;refine(by grind[b,bE,Bool.not_eq_true'])
 refine dx (λe=>?_) (λe=>?_)
 ·refine f (p a.af (a.ak==4)) ?_
  exact q _ (by grind)
 ·refine f (p a.af ab) ?_
  exact q _ (by rw[e];rfl)
theorem y4(a:V=aa->fp)(b:V=ab->jc):gd (.bool (!V)) ab fp jc:=by
 cases V<;>simp_all[fE]
theorem gV(a:V=ab->fp)(b:V=aa->jc):gd (.bool (!V)) aa fp jc:=by
 cases V<;>simp_all[fE]
theorem c8(a:V=aa->fp)(b:V=ab->jc):dY (.bool (!V)) fp jc:=by
 cases V<;>simp_all
theorem kr(a b:Int):S (a<=b)= !S (b<a):=by grind
theorem ach(c:aM):PR C 319 [.agg (cT c)] (.bool (ic c)):=by
 refine aaK.pr ?_;have d:ko [I 0,I 0,.str []] []=T (cV ⟨0,0,[]⟩):=rfl;simp only[bo,ud,Q,a6,aH,nn,ib,aJ,AG,d,ic,G];refine b (λa=>?_) (λa=>?_)
 ·have:¬c.aB=[]:=by simpa using a
  rw[if_neg this];exact f (DL _) (aZ (λa=>by simp[a]) (λa=>by simp[a]))
 ·have:c.aB=[]:=by simpa using a
  rw[if_pos this];exact f (uj _) (by simp)
variable{z:Type}{o:List z}{dG:z -> Bool}{fN:AV -> List Obj -> Prop}{ja:List AV -> List Obj -> (List AV -> List Obj -> Prop) -> Prop}
theorem y5(j:Sm o)
 (step:∀(a:Nat)(b:List AV->List Obj->Prop),(∀c:a<Z o,(dG o[a]=ab->b [ff,I ((a+1:Nat):Int)] N)->(dG o[a]=aa->fN (AV.pl ff) N)->ja [ff,I a] N b)/\(Z o<=a->fN (AV.pl tt) N->ja [ff,I a] N b))
 (g:o.all dG=ab->fN (AV.pl tt) N)(h:o.all dG=aa->fN (AV.pl ff) N):iC ja [ff,I 0] N:=by
 refine bB (λa:Nat=>[ff,I a]) (λ_=>N) (λa=>Z o -a) (λa=>a<=Z o/\o.all dG=(o.drop a).all dG) 0 (by simp) ?_;rintro a ⟨i,e⟩ b f;by_cases c:a<Z o
 ·refine(step a b).1 c (λd=>?_) (λd=>?_)
  ·exact f (a+1) ⟨c,by rw[e,A8 c,d,cu]⟩ (by omega)
  grind
 grind
theorem Sm.inc(b:Sm o)(a:U<Z o)(bk:BK):aS bk .add (I (U:Int)) (I 1)=T (I ((U+1:Nat):Int)):=by grind[ba,Sm]
theorem NI(d:List aM)(e:Sm d):PR C 285 [eS V cT d] (.bool (ek 4 ic d)):=by
 refine XH.pr ?_;simp only[a8,Q,er];have h:ek 4 ic d=(!S ((4:Int)<Z d)&&d.all ic):=by
  unfold ek;rw[<-decide_not];congr 2;simp
 rw[h];refine b (by simp_all) (λc=>?_);rw[c];refine y5 (dG:=ic) (fN:=λk g=>aI g .res k (.bool (!aa&&d.all ic))) e (λq l=>⟨λc p o=>?_,λc j=>?_⟩) (by simp) (by simp)
 ·simp only[Q,i,G,A,bZ,decide_eq_true_eq,a,c,if_true,aC c (h8 _),ji]
  refine f (ach _) ?_;simp only[bD,Q];refine b (by grind) (λn=>?_);rw[e.inc c,Q];grind
 ·simp only[Q,i,G,A,bZ,decide_eq_true_eq,a,if_neg (Nat.not_lt.2 c)]
  exact j
theorem NJ(b:k)(c:Bool):PR C 284 [.str b,.bool c] (.bool (c&&b==[]||bV b)):=by
 refine ZX.pr ?_;simp only[bo,fF,Q,G];refine aZ (λa=>?_) (λa=>?_)
 ·refine dx (λd=>?_) (by simp_all)
  exact f (qY _) (gU (by rw[a,d];rfl))
 ·exact f (qY _) (gU (by rw[a];rfl))
theorem aci(a:Lit)(c:p9 a):PR C 287 [.agg (a5 V a)] (.bool (mC a)):=by
 refine Yr.pr ?_;have e:mC a=(!S (a.bf<0)&& !S (a.ak<1)&& !S (5<a.ak)&&ek 4 ic a.ad&&
  (if(a.ak==5)=ab then a.ar==[]else bV a.ar)&&(if(a.ak==3||a.ak==4)=ab then bV a.af else a.af==[])&&(a.bind==[]||a.ak==1&&isVar a.bind)&&
  (if(a.ak==5)=ab then((Z a.ad:Int)==2)&&S (1<=a.op)&&S (a.op<=4)else a.op==0)):=by
  rw[<-kr,<-kr,<-kr];rfl
 generalize mC a=d at*;simp only[bo,nm,Q,a6,aH,oY,GI,oc,yP,GJ,xg,Dm,a8,A,er,gF,jN,c9,cd,fF,ib,aJ,G,bD]
 repeat' first
  |refine y4 (λ_=>?_) (λ_=>?_)
  |refine aZ (λ_=>?_) (λ_=>?_)
  |refine gV (λ_=>?_) (λ_=>?_)
  |refine dx (λ_=>?_) (λ_=>?_)
  |refine a7 ?_
  |refine bq ?_
  |refine c8 (λ_=>?_) (λ_=>?_)
  |refine b (λ_=>?_) (λ_=>?_)
  |(refine f (NI _ c) ?_;simp only[bD,Q])
  |(refine f (qY _) ?_;try simp only[bD,Q])
  |(refine f (DL _) ?_;try simp only[bD,Q])
 all_goals(first|refine bE ?_|refine hR ?_|refine gU ?_)
 all_goals grind
variable{bg:List AV}
theorem et{c:Nat->List AV}(b:Nat->Prop)(e:b 0)(f:c 0=bg)
 (step:∀a,a<U->b a->∀d:List AV->List Obj->Prop,(b (a+1)->d (c (a+1)) N)->ja (c a) N d)
 (last:b U->∀d:List AV->List Obj->Prop,ja (c U) N d):iC ja bg N:=by
 refine bB c (λ_=>N) (λa=>U -a) (λa=>a<=U/\b a) 0 ⟨by omega,e⟩ ?_ f rfl;grind
variable{ll:List z}
theorem NK(a:U<Z o)(b:U<Z ll)(d:o.take U=ll.take U)(c:o[U]=ll[U]):o.take (U+1)=ll.take (U+1):=by
 grind[List.take_succ_eq_append_getElem]
theorem r7(g:Z o=Z ll){c:Nat->List AV}(e:c 0=bg)
 (step:∀a(i:a<Z o)(j:a<Z ll),∀b:List AV->List Obj->Prop,(o[a]=ll[a]->b (c (a+1)) N)->(o[a]≠ll[a]->o≠ll)->ja (c a) N b)
 (last:o=ll->∀b:List AV->List Obj->Prop,ja (c (Z o)) N b):iC ja bg N:=by
 refine et (U:=Z o) (c:=c) (λa=>o.take a=ll.take a) (by simp) e (λa d h b k=>?_) (λh b=>?_)
 ·refine step a d (g▸d) b (by grind[NK]) (λf l=>f ?_)
  grind
 grind
theorem Sm.lt(b:Sm o)(a:U<Z o):U<4611686018427387904:=by grind[Sm]
theorem q1(a:((Z o:Int) !=Z ll)=aa):Z o=Z ll:=by
 grind
theorem acj(a b:Int×Int):ft [0,0] (bX a) (bX b)=T (S (a=b)):=by
 obtain⟨c,d⟩:=a;obtain⟨e,f⟩:=b;have:S (((c,d):Int×Int)=(e,f))=((c==e)&&((d==f)&&ab)):=by
  rw[hY];simp
 rw[this];rfl
theorem ack(a b:aM):ft [1,0,0,1] (cT a) (cT b)=T (S (a=b)):=by
 obtain⟨i,c,d,e⟩:=a;obtain⟨j,f,g,h⟩:=b;have:S ((⟨i,c,d,e⟩:aM)=⟨j,f,g,h⟩)=((i==j)&&((c==f)&&((d==g)&&((e==h)&&ab)))):=by
  rw[hY];simp
 rw[this];rfl
theorem NL(a b:ni):ft [0,1,1,0] (lE a) (lE b)=T (S (a=b)):=by
 obtain⟨i,c,d,e⟩:=a;obtain⟨j,f,g,h⟩:=b;have:S ((⟨i,c,d,e⟩:ni)=⟨j,f,g,h⟩)=((i==j)&&((c==f)&&((d==g)&&((e==h)&&ab)))):=by
  rw[hY];simp
 rw[this];rfl
@[simp] theorem acm(b c:Int×Int):aS (.a 2 [0,0]) .neq (.agg (bX b)) (.agg (bX c))=T (.bool (!S (b=c))):=by
 simp[aS,acj]
@[simp] theorem acn(b c:aM):aS (.a 4 [1,0,0,1]) .neq (.agg (cT b)) (.agg (cT c))=T (.bool (!S (b=c))):=by
 simp[aS,ack]
@[simp] theorem aco(b c:ni):aS (.a 4 [0,1,1,0]) .neq (.agg (lE b)) (.agg (lE c))=T (.bool (!S (b=c))):=by
 simp[aS,NL]
@[simp] theorem amJ(b c:ni):aS (.a 4 [0,1,1,0]) .eql (.agg (lE b)) (.agg (lE c))=T (.bool (S (b=c))):=by
 simp[aS,NL]
variable{dD m4:z}
theorem DO[DecidableEq z](a:dD≠m4):S (dD=m4)=false:=by simp[a]
theorem Hn(e g:List k)(l:Sm e):PR C 159 [eS V cS e,eS F cS g] (.bool (S (e=g))):=by
 refine WA.pr ?_;simp only[a8,Q,cd];refine b (by grind[bE]) (λc=>?_);refine r7 (q1 c) (c:=λf=>[ff,I f]) rfl (λf d j h o m=>?_) (λc h=>?_)
 ·simp only[Q,i,G,A,a,d,decide_true,aC d (g5 _),aC j (g5 _),aH,kp,ib]
  refine a7 (b (λc=>bE (DO (m (by simpa using c)))) (λc=>?_));rw[l.inc d,Q];grind
 ·simp only[Q,i,G,A,a,ca,decide_false]
  exact bq (hR (by simp[c]))
theorem xp(e g:List Int)(k:Sm e):PR C 22 [eS V cI e,eS F cI g] (.bool (S (e=g))):=by
 refine XS.pr ?_;simp only[a8,Q,cd];refine b (by grind[bE]) (λc=>?_);refine r7 (q1 c) (c:=λf=>[ff,I f]) rfl (λf d j h n l=>?_) (λc h=>?_)
 ·simp only[Q,i,G,A,a,d,decide_true,aC d (g4 _),aC j (g4 _),aH,j4,cd]
  refine a7 (b (λc=>bE (DO (l (by simpa using c)))) (λc=>?_));rw[k.inc d,Q];grind
 ·simp only[Q,i,G,A,a,ca,decide_false]
  exact bq (hR (by simp[c]))
theorem NM(e g:List aM)(k:Sm e):PR C 239 [eS V cT e,eS F cT g] (.bool (S (e=g))):=by
 refine XB.pr ?_;simp only[a8,Q,cd];refine b (by grind[bE]) (λc=>?_);refine r7 (q1 c) (c:=λf=>[ff,I f]) rfl (λf d j h n l=>?_) (λc h=>?_)
 ·simp only[Q,i,G,A,a,d,decide_true,aC d (h8 _),aC j (h8 _),ji,acn]
  refine a7 (b (λc=>bE (DO (l (by simpa using c)))) (λc=>?_));rw[k.inc d,Q];grind
 ·simp only[Q,i,G,A,a,ca,decide_false]
  exact bq (hR (by simp[c]))
theorem A6(e g:List aO)(k:Sm e):PR C 21 [eS V cV e,eS F cV g] (.bool (S (e=g))):=by
 refine Wk.pr ?_;simp only[a8,Q,cd];refine b (by grind[bE]) (λc=>?_);refine r7 (q1 c) (c:=λf=>[ff,I f]) rfl (λf d j h n l=>?_) (λc h=>?_)
 ·simp only[Q,i,G,A,a,d,decide_true,aC d (lZ _),aC j (lZ _),oa,GO]
  refine a7 (b (λc=>bE (DO (l (by simpa using c)))) (λc=>?_));rw[k.inc d,Q];grind
 ·simp only[Q,i,G,A,a,ca,decide_false]
  exact bq (hR (by simp[c]))
theorem acp(a b:aw)(h:Sm a.ad):PR C 49 [.agg (cF V a),.agg (cF F b)] (.bool (S (a=b))):=by
 refine Zo.pr ?_;have e:S (a=b)=((a.aq==b.aq)&&(S (a.ad=b.ad)&&(a.af==b.af))):=by
  obtain⟨i,V,j⟩:=a;obtain⟨k,l,g⟩:=b;rw[hY];simp
 rw[e];simp only[sR,Q,bo,a6,aH,p5,ug,uh,aJ,c9,G];refine aZ (λd=>?_) (by simp_all);refine f (A6 _ _ h) (aZ (λc=>gU (by rw[d,c];simp)) (λc=>bE (by rw[d,c];simp)))
variable{bp b2:Bool}
theorem Bb(e h:List aw)(n:Sm e)(l:∀k∈e,Sm k.ad):PR C 16 [eS bp (cF V) e,eS b2 (cF F) h] (.bool (S (e=h))):=by
 refine Zj.pr ?_;simp only[a8,Q,cd];refine b (by grind[bE]) (λc=>?_);refine r7 (q1 c) (c:=λg=>[ff,I g]) rfl (λg d m j p q=>?_) (λc j=>?_)
 ·simp only[Q,i,G,A,a,d,decide_true,aC d (hE _ _),aC m (hE _ _),my]
  refine a7 (f (acp _ _ (l _ (bs d))) ?_);simp only[bD,Q];refine b (by simp_all) (λc=>?_);rw[n.inc d,Q];grind
 ·simp only[Q,i,G,A,a,ca,decide_false]
  exact bq (hR (by simp[c]))
theorem acq(b c:Lit)(e:Sm b.ad):PR C 240 [.agg (a5 V b),.agg (a5 F c)] (.bool (S (b=c))):=by
 refine ZS.pr ?_;have d:S (b=c)=((b.ak==c.ak)&&((b.ar==c.ar)&&((b.aq==c.aq)&&(S (b.ad=c.ad)&&((b.bind==c.bind)&&((b.af==c.af)&&((b.gN==c.gN)&&((b.op==c.op)&&(b.bf==c.bf))))))))):=by
  obtain⟨h,V,j,l,n,p,g,s,u⟩:=b;obtain⟨i,F,k,m,o,q,r,t,v⟩:=c;rw[hY];simp
 rw[d];clear d;simp only[nm,Q,bo,a6,aH,oY,GI,uf,oc,yP,GJ,Dl,xg,Dm,aJ,c9,fF,G];refine aZ (λa=>?_) (by simp_all);rw[a,cu];refine aZ (λa=>?_) (by simp_all);rw[a,cu];refine aZ (λa=>?_) (by simp_all);rw[a,cu];refine f (NM _ _ e) ?_;refine aZ (λa=>?_) (by simp_all);rw[a,cu];refine aZ (λa=>?_) (by simp_all);rw[a,cu];refine aZ (λa=>?_) (by simp_all);rw[a,cu];refine aZ (λa=>?_) (by simp_all);rw[a,cu]
 refine aZ (λa=>?_) (by simp_all);simp_all
theorem y6(a:(aU !=c1)=aa):aU=c1:=by grind
variable{bH lg:k}
theorem Bc(a:(!(bH==lg))=aa):bH=lg:=by grind
theorem Bd[DecidableEq z](a:(!S (dD=m4))=aa):dD=m4:=by grind
theorem acr(a:(!(V==F))=aa):V=F:=by grind
theorem dy(b:V=ab->jc)(a:V=aa->fp):gd (.bool V) aa fp jc:=dx a b
theorem acs(e j:aG)(g:oh e):PR C 160 [.agg (aP V e),.agg (aP F j)] (.bool (S (e=j))):=by
 refine YZ.pr ?_;simp only[l3,Q,bo,a6,aH,GK,xh,sS,od,yQ,aJ,Mc,a8,cd,ib,aco,G];refine dy (λc=>a7 (by grind[bE])) (λu=>?_);refine dy (λc=>a7 (by grind[bE])) (λv=>?_);refine f (NM _ _ g.1) ?_;simp only[bD,Q];refine dy (λc=>a7 (by grind[bE])) (λw=>?_);refine dy (λc=>a7 (by grind[bE])) (λx=>?_);refine dy (λc=>a7 (by grind[bE])) (λy=>?_);refine b (by grind[bE]) (λl=>?_)
 refine r7 (q1 l) (c:=λh=>[ff,I h]) rfl (λh d m k z B=>?_) (λc k=>?_)
 ·simp only[Q,i,G,A,a,d,decide_true,aC d (h9 _ _),aC m (h9 _ _),l1]
  refine a7 (f (acq _ _ (g.2.2 _ (bs d))) ?_);simp only[bD,Q];refine b (by grind[bE]) (λc=>?_);rw[g.2.1.inc d,Q];grind
 ·simp only[Q,i,G,A,a,ca,decide_false]
  refine bq (hR ?_);obtain⟨n,o,p,q,r,s⟩:=e;simp_all
@[simp] theorem Be(b:Bool)(a:bM):g (bn b a) 0=.str a.ar:=rfl
@[simp] theorem Bf(a:Bool)(b:bM):g (bn a b) 1=eS a cS b.au:=rfl
@[simp] theorem Bg(a:Bool)(b:bM):g (bn a b) 2=eS a bX b.eg:=rfl
@[simp] theorem Bh(b:Bool)(a:bM):g (bn b a) 3=I a.bf:=rfl
@[simp] theorem DP(b:Bool)(a:Fn):g (b8 b a) 0=.str a.ar:=rfl
@[simp] theorem DQ(b:Bool)(a:Fn):g (b8 b a) 1=.str a.aV:=rfl
@[simp] theorem NN(b:Bool)(a:Fn):g (b8 b a) 2=I a.of:=rfl
@[simp] theorem DR(a:Bool)(b:Fn):g (b8 a b) 3=eS a cS b.src:=rfl
@[simp] theorem DS(a:Bool)(b:Fn):g (b8 a b) 4=eS a cS b.dst:=rfl
@[simp] theorem NO(a:Bool)(b:Fn):g (b8 a b) 5=eS a cI b.gM:=rfl
@[simp] theorem DT(b:Bool)(a:Fn):g (b8 b a) 6=I a.bf:=rfl
@[simp] theorem qa(b:Bool)(a:cD):g (bF b a) 0=.str a.ar:=rfl
@[simp] theorem qb(a:Bool)(b:cD):g (bF a b) 1=eS a cI b.bb:=rfl
@[simp] theorem qc(b:Bool)(a:cD):g (bF b a) 2=.str a.aV:=rfl
@[simp] theorem q2(b:Bool)(a:cD):g (bF b a) 3=I a.of:=rfl
@[simp] theorem qd(b:Bool)(a:cD):g (bF b a) 4=.bool a.fI:=rfl
@[simp] theorem qe(b:Bool)(a:cD):g (bF b a) 5=I a.e2:=rfl
@[simp] theorem qf(b:Bool)(a:cD):g (bF b a) 6=I a.bf:=rfl
@[simp] theorem uq(b:Bool)(a:Lit):g (a5 b a) 0=I a.ak:=rfl
@[simp] theorem ur(b:Bool)(a:Lit):g (a5 b a) 1=.str a.ar:=rfl
@[simp] theorem vR(b:Bool)(a:Lit):g (a5 b a) 2=I a.aq:=rfl
@[simp] theorem uu(a:Bool)(b:Lit):g (a5 a b) 3=eS a cT b.ad:=rfl
@[simp] theorem uv(b:Bool)(a:Lit):g (a5 b a) 4=.str a.bind:=rfl
@[simp] theorem uw(b:Bool)(a:Lit):g (a5 b a) 5=.str a.af:=rfl
@[simp] theorem vS(b:Bool)(a:Lit):g (a5 b a) 6=I a.gN:=rfl
@[simp] theorem ux(b:Bool)(a:Lit):g (a5 b a) 7=I a.op:=rfl
@[simp] theorem uy(b:Bool)(a:Lit):g (a5 b a) 8=I a.bf:=rfl
@[simp] theorem o4(b:Bool)(a:aG):g (aP b a) 0=.str a.ar:=rfl
@[simp] theorem qg(b:Bool)(a:aG):g (aP b a) 1=I a.aq:=rfl
@[simp] theorem o5(a:Bool)(b:aG):g (aP a b) 2=eS a cT b.ad:=rfl
@[simp] theorem o6(b:Bool)(a:aG):g (aP b a) 3=I a.af.ak:=rfl
@[simp] theorem o7(b:Bool)(a:aG):g (aP b a) 4=.str a.af.ar:=rfl
@[simp] theorem o8(b:Bool)(a:aG):g (aP b a) 5=.str a.af.aB:=rfl
@[simp] theorem qh(b:Bool)(a:aG):g (aP b a) 6=I a.af.aQ:=rfl
@[simp] theorem o9(a:Bool)(b:aG):g (aP a b) 7=eS a (a5 a) b.ae:=rfl
@[simp] theorem om(b:Bool)(a:aG):g (aP b a) 8=I a.bf:=rfl
@[simp] theorem amO(a c:Bool)(b:aj):g (cP a c b) 0=eS a (bn a) b.m:=rfl
@[simp] theorem amP(a c:Bool)(b:aj):g (cP a c b) 1=eS a (b8 a) b.aW:=rfl
@[simp] theorem amQ(a c:Bool)(b:aj):g (cP a c b) 2=eS a (bF a) b.d:=rfl
@[simp] theorem amR(a b:Bool)(c:aj):g (cP a b c) 3=eS b (aP a) c.ah:=rfl
@[simp] theorem NP(b:Bool)(a:aw):g (cF b a) 0=I a.aq:=rfl
@[simp] theorem NQ(a:Bool)(b:aw):g (cF a b) 1=eS a cV b.ad:=rfl
@[simp] theorem NR(b:Bool)(a:aw):g (cF b a) 2=I a.af:=rfl
@[simp] theorem amS(a:aO):g (cV a) 0=I a.ty:=rfl
@[simp] theorem amT(a:aO):g (cV a) 1=I a.n:=rfl
@[simp] theorem amU(a:aO):g (cV a) 2=.str a.s:=rfl
@[simp] theorem NS(a:aM):g (cT a) 0=.str a.aB:=rfl
@[simp] theorem acu(a:aM):g (cT a) 1=I a.const.ty:=rfl
@[simp] theorem acv(a:aM):g (cT a) 2=I a.const.n:=rfl
@[simp] theorem acw(a:aM):g (cT a) 3=.str a.const.s:=rfl
theorem acx(o t:aj)(s:dW o):PR C 103 [.agg (cP V F o),.agg (cP bp b2 t)] (.bool (S (o=t))):=by
 refine Xl.pr ?_;simp only[dS,Q,bo,a6,aH,oe,sT,iy,mz,aJ,a8,cd,G];refine dy (λc=>a7 (by grind[bE])) (λK=>?_);refine dy (λc=>a7 (by grind[bE])) (λL=>?_);refine dy (λc=>a7 (by grind[bE])) (λM=>?_);refine b (by grind[bE]) (λN=>?_);refine r7 (q1 K) (c:=λe=>[ff,I e]) rfl (λe g v u w n=>?_) (λK u=>?_)
 ·have n:=λc k=>n c (congrArg aj.m k)
  simp only[Q,i,G,A,a,g,decide_true,aC g (jh _ _),aC v (jh _ _),hF,xe,Be,Bf,Bg,Bh,ib,a8,cd];refine a7 (dy (λc=>a7 (by grind[bE])) (λe0=>?_));refine f (Hn _ _ (s.aV _ (bs g)).1) ?_;simp only[bD,Q];refine dy (λc=>a7 (by grind[bE])) (λh=>?_);refine dy (λc=>a7 (by grind[bE])) (λj=>?_);refine b (by grind[bE]) (λl=>?_)
  refine r7 (q1 l) (c:=λO=>[ff,I O,.str o.m[e].ar,eS V cS o.m[e].au,eS V bX o.m[e].eg,I o.m[e].bf,.str t.m[e].ar,eS bp cS t.m[e].au,eS bp bX t.m[e].eg,I t.m[e].bf]) rfl (λO z U R Z ac=>?_) (λc R=>?_)
  ·simp only[Q,i,G,A,a8,a,z,decide_true,aC z (r1 _),aC U (r1 _),Mb,acm]
   refine a7 (b (by grind[bE]) (λc=>?_));rw[(s.aV _ (bs g)).2.inc z,Q];grind
  ·simp only[Q,i,G,A,a8,a,ca,decide_false]
   refine bq ?_;rw[s.m.inc g,Q];refine w ?_;have e0:=Bc e0;have h:=Bd h;have j:=y6 j;revert c e0 h j;generalize o.m[e]=y;generalize t.m[e]=P;intro c e0 h j;obtain⟨B,E,H,J⟩:=y;simp_all
 simp only[Q,i,G,A,a,ca,decide_false];refine bq ?_;refine r7 (q1 L) (c:=λe=>[ff,I e]) rfl (λe g v u w n=>?_) (λL u=>?_)
 ·have n:=λc k=>n c (congrArg aj.aW k)
  have x:=s.fn _ (bs g);simp only[Q,i,G,A,a,g,decide_true,aC g (p3 _ _),aC v (p3 _ _),AH,Dd,DP,DQ,NN,DR,DS,NO,DT,ib,cd];refine a7 (dy (λc=>a7 (by grind[bE])) (λe0=>?_));refine dy (λc=>a7 (by grind[bE])) (λh=>?_);refine dy (λc=>a7 (by grind[bE])) (λj=>?_);refine f (Hn _ _ x.1) ?_;simp only[bD,Q];refine dy (λc=>a7 (by grind[bE])) (λl=>?_);refine f (Hn _ _ x.2.1) ?_;simp only[bD,Q]
  refine dy (λc=>a7 (by grind[bE])) (λp=>?_);refine f (xp _ _ x.2.2) ?_;simp only[bD,Q];refine dy (λc=>a7 (by grind[bE])) (λq=>?_);refine b (by grind[bE]) (λr=>?_);rw[s.aW.inc g,Q];refine w ?_;have e0:=Bc e0;have h:=Bc h;have j:=y6 j;have l:=Bd l;have p:=Bd p;have q:=Bd q;have r:=y6 r;revert e0 h j l p q r;generalize o.aW[e]=y;generalize t.aW[e]=P;intro e0 h j l p q r
  obtain⟨B,E,H,J,W,X,Y⟩:=y;simp_all
 simp only[Q,i,G,A,a,ca,decide_false];refine bq ?_;refine r7 (q1 M) (c:=λe=>[ff,I e]) rfl (λe g v u w n=>?_) (λM u=>?_)
 ·have n:=λc k=>n c (congrArg aj.d k)
  have x:=s.q0 _ (bs g);simp only[Q,i,G,A,a,g,decide_true,aC g (hD _ _),aC v (hD _ _),ub,vD,qa,qb,qc,q2,qd,qe,qf,ib,cd,GN];refine a7 (dy (λc=>a7 (by grind[bE])) (λe0=>?_));refine f (xp _ _ x) ?_;simp only[bD,Q];refine dy (λc=>a7 (by grind[bE])) (λh=>?_);refine dy (λc=>a7 (by grind[bE])) (λj=>?_);refine dy (λc=>a7 (by grind[bE])) (λl=>?_);refine dy (λc=>a7 (by grind[bE])) (λp=>?_)
  refine dy (λc=>a7 (by grind[bE])) (λq=>?_);refine b (by grind[bE]) (λr=>?_);rw[s.d.inc g,Q];refine w ?_;have e0:=Bc e0;have h:=Bd h;have j:=Bc j;have l:=y6 l;have p:=acr p;have q:=y6 q;have r:=y6 r;revert e0 h j l p q r;generalize o.d[e]=y;generalize t.d[e]=P;intro e0 h j l p q r;obtain⟨B,E,H,J,W,X,Y⟩:=y;simp_all
 simp only[Q,i,G,A,a,ca,decide_false];refine bq ?_;refine r7 (q1 N) (c:=λe=>[ff,I e]) rfl (λe g v u w n=>?_) (λN u=>?_)
 ·have n:=λc k=>n c (congrArg aj.ah k)
  simp only[Q,i,G,A,a,g,decide_true,aC g (kQ _ _),aC v (kQ _ _),kR];refine a7 (f (acs _ _ (s.hG _ (bs g))) ?_);simp only[bD,Q];refine b (by simp_all) (λc=>?_);rw[s.ah.inc g,Q];grind
 simp only[Q,i,G,A,a,ca,decide_false];refine bq (hR ?_);obtain⟨B,E,H,J⟩:=o;simp_all
variable{pB:List AV -> List Obj -> Prop}
theorem eh{a:(List AV->List Obj->Prop)->Prop}(c:Bool)(d:∀b:List AV->List Obj->Prop,b [.bool c] N->a b)(e:pB [.bool c] N):jn a pB:=d pB e
theorem kB(b:pB [.bool V] N)(a:V=F):pB [.bool F] N:=a▸b
theorem uz(a:U<Z o)(b:dG o[U]=aa):o.all dG=false:=by
 grind
theorem mD(a:U<Z o):(o.take (U+1)).all dG=((o.take U).all dG&&dG o[U]):=by
 grind[List.take_succ_eq_append_getElem]
theorem eP.acy(q:eP C)(a:aG)(o:oh a):PR C 214 [.agg (aP V a)] (.bool (l6 a)):=by
 refine WI.pr ?_;have v:l6 a=(!S (a.bf<0)&& !S (a.af.ak<0)&& !S (3<a.af.ak)&&(a.ar==[]||bV a.ar)&&(!(a.ar==[])|| !(S (0<(Z a.ad:Int))|| !(a.af.ak==0)))&&
  (if(a.af.ak==1||a.af.ak==3)=ab then bV a.af.ar else a.af.ar==[])&&(if(a.af.ak==2||a.af.ak==3)=ab then isVar a.af.aB else a.af.aB==[])&&
  ek 4 ic a.ad&&ek 8 mC a.ae):=by
  rw[<-kr,<-kr,<-kr];rfl
 generalize l6 a=y at*;have w:PR C 270 [eS V cT a.ad,I 4,.fn 271 [] []] (.bool (ek 4 ic a.ad)):=Np (by simp) rfl _ o.1 (λj _=>sV (q.Ns j) (by simp));have u:PR C 272 [eS V (a5 V) a.ae,I 8,.fn 273 [] []] (.bool (ek 8 mC a.ae)):=abt (by simp) rfl _ o.2.1 (λj x=>sV (q.acg j (o.2.2 j x)) (by simp))
 have r:∀(d:k)(e:Bool),PR C 268 [.str d,.bool e,.fn 260 [] []] (.bool (if e=ab then bV d else d==[])):=by grind[DN,vL]
 have h:∀(d:k)(e:Bool),PR C 268 [.str d,.bool e,.fn 269 [] []] (.bool (if e=ab then isVar d else d==[])):=by grind[DN,Hh]
 simp only[l3,Q,a6,aH,GK,sS,AQ,Mn,AR,od,yQ,aJ,fo,Nat.reduceAdd,a8,A,er,c9,cd,fF,ib];refine eh (N:=[]) (!(!S (a.bf<0)&& !S (a.af.ak<0)&& !S (3<a.af.ak)&&(a.ar==[]||bV a.ar)&&(!(a.ar==[])|| !(S (0<(Z a.ad:Int))|| !(a.af.ak==0))))) (λs i=>?_) ?_
 ·refine dy (by grind) (λl=>?_)
  refine dy (by grind) (λm=>?_);refine dy (by grind) (λg=>?_);refine y4 (λn=>?_) (λn=>?_)
  ·refine f (vL _) ?_
   simp only[bD,Q];refine gV (λt=>?_) (by grind);refine aZ (λc=>?_) (λc=>kB i ?_)
   ·rw[c]at n;cases n
   grind
  ·refine aZ (λ_=>dy (by grind) (λt=>kB i ?_)) (λc=>?_)
   ·grind
   grind
 simp only[G];refine b (λc=>bE ?_) (λc=>?_)
 ·grind
 simp only[Ko]at c;rw[v,c,cu];refine eh (N:=[]) ((if(a.af.ak==1||a.af.ak==3)=ab then bV a.af.ar else a.af.ar==[])&&(if(a.af.ak==2||a.af.ak==3)=ab then isVar a.af.aB else a.af.aB==[])) (λs i=>?_) ?_
 ·refine dx (λl=>?_) (λl=>?_)
  ·refine f (r _ _) (aZ (λm=>dx (λg=>?_) (λg=>?_)) (by grind))
   ·refine f (h _ _) (by grind)
   ·refine f (h _ _) (by grind)
  ·refine f (r _ _) (aZ (λm=>dx (λg=>?_) (λg=>?_)) (by grind))
   ·refine f (h _ _) (by grind)
   ·refine f (h _ _) (by grind)
 generalize((if(a.af.ak==1||a.af.ak==3)=ab then bV a.af.ar else a.af.ar==[])&&(if(a.af.ak==2||a.af.ak==3)=ab then isVar a.af.aB else a.af.aB==[]))=W;refine eh (N:=[]) (W&&ek 4 ic a.ad&&ek 8 mC a.ae) (λs i=>?_) (gU rfl);refine aZ (λl=>f w (aZ (λm=>f u (by grind)) (by grind))) (by grind)
theorem eP.acz(g:eP C)(a:aj)(c:dW a):PR C 150 [.agg (cP V F a)] (.bool (p8 a)):=by
 refine YY.pr ?_;have h:PR C 208 [eS V (bn V) a.m,I 4,.fn 207 [] []] (.bool (ek 4 xn a.m)):=abu (by simp) rfl _ c.m (by simp[sV,abB]);have i:PR C 209 [eS V (b8 V) a.aW,I 8,.fn 210 [] []] (.bool (ek 8 r2 a.aW)):=abv (by simp) rfl _ c.aW (λb e=>sV (abC b (c.fn b e)) (by simp))
 have j:PR C 211 [eS V (bF V) a.d,I 24,.fn 212 [] []] (.bool (ek 24 r3 a.d)):=abw (by simp) rfl _ c.d (λb e=>sV (abD b (c.q0 b e)) (by simp));have k:PR C 213 [eS F (aP V) a.ah,I 40,.fn 214 [] []] (.bool (ek 40 l6 a.ah)):=abx (by simp) rfl _ c.ah (λb e=>sV (g.acy b (c.hG b e)) (by simp));simp only[dS,Q,a6,aH,oe,sT,iy,mz,aJ,bo,G];refine f h (aZ (λl=>?_) (by simp_all[p8]))
 refine f i (aZ (λn=>?_) (by simp_all[p8]));refine f j (aZ (λo=>?_) (by simp_all[p8]));exact f k (by simp_all[p8])
theorem acA(c:Fn)(t:xo c):PR C 229 [.agg (b8 V c)] (.bool (r2 c)):=by
 refine aax.pr ?_;have r:r2 c=(!S (c.bf<0)&&bV c.ar&&bV c.aV&&((Z c.src:Int)==Z c.dst)&&(!S (8<(Z c.src:Int))&&c.src.all bV)&&(!S (8<(Z c.dst:Int))&&c.dst.all bV)):=by
  rw[<-kr,<-kr,<-kr];rfl
 generalize r2 c=l at*;simp only[De,Q,bo,a6,aH,Mf,Mg,AN,AO,Mi,aJ,a8,A,er,cd,G];refine dy (by simp_all) (λn=>?_);refine f (qY _) ?_;simp only[bD,Q];refine gV (λo=>?_) (by simp_all);refine f (qY _) ?_;simp only[bD,Q];refine gV (λp=>?_) (by simp_all);refine dy (λw=>a7 (bE ?_)) (λq=>?_)
 ·grind
 refine b (by simp_all) (λh=>?_);have g:=q1 q;have x:l=(c.src.all bV&&c.dst.all bV):=by
  rw[r,n,o,p,h,<-g,h];simp
 refine et (U:=Z c.src) (c:=λd=>[ff,I d]) (λd=>(c.src.take d).all bV=ab/\(c.dst.take d).all bV=ab) (by simp) rfl (λd e j k y=>?_) (λj k=>?_)
 ·have s:=g▸e
  simp only[Q,i,G,A,a,e,decide_true,aC e (g5 _),aC s (g5 _),aH,kp];refine a7 (f (qY _) ?_);simp only[bD,Q];refine gV (λu=>?_) (λm=>a7 (by grind[bE,uz]));refine f (qY _) ?_;simp only[bD,Q];refine c8 (by grind[bE,uz]) (λv=>?_);rw[t.1.inc e,Q];grind[mD]
 ·simp only[Q,i,G,A,a,ca,decide_false]
  rw[dB,g,dB]at j;exact bq (by simp_all)
theorem acB:∀a b c d e f g h:Bool,(!a&&b&& !c&&d&& !e&& !f&&g)=ab->(!a&&b&&d&&(!c&&h)&& !e&& !f&&g)=h:=by decide
theorem acC(c:cD)(h:A9 c):PR C 230 [.agg (bF V c)] (.bool (r3 c)):=by
 refine ZP.pr ?_;have l:r3 c=(!S (c.bf<0)&&bV c.ar&&(c.aV==[]||bV c.aV)&&(!S (4<(Z c.bb:Int))&&c.bb.all lH)&& !S (c.e2<0)&& !S ((Z c.bb:Int)<c.e2)&&(c.e2==(Z c.bb:Int)||c.fI&&c.aV==[])):=by
  rw[<-kr,<-kr,<-kr,<-kr];rfl
 generalize r3 c=j at*;simp only[Df,Q,a6,aH,Mj,ue,Mk,AP,Ml,Mm,aJ,a8,A,er,cd,ib,bD];refine eh (N:=[]) (!(!S (c.bf<0)&&bV c.ar&& !S (4<(Z c.bb:Int))&&(c.aV==[]||bV c.aV)&& !S (c.e2<0)&& !S ((Z c.bb:Int)<c.e2)&&(c.e2==(Z c.bb:Int)||c.fI&&c.aV==[]))) (λF s=>?_) ?_
 ·refine dy (by grind) (λe=>?_)
  refine f (qY _) ?_;simp only[bD,Q];refine gV (λg=>?_) (by grind);refine dy (by grind) (λn=>?_);refine f (NJ _ _) ?_;simp only[bD,Q];refine gV (λk=>?_) (by grind);rw[cu]at k;refine dy (by grind) (λo=>?_);refine dy (by grind) (λp=>?_);rw[e,g,n,k,o,p]at s;refine aZ (λq=>gV (λr=>?_) (λr=>?_)) (λq=>?_)
  ·grind
  ·grind
  grind
 simp only[G];refine c8 (λd=>bE ?_) (λd=>?_)
 ·grind
 have z:j=c.bb.all lH:=by
  rw[l];exact acB _ _ _ _ _ _ _ _ d
 clear l d;refine y5 (dG:=lH) (fN:=λv m=>aI m .res v (.bool j)) h (λE x=>⟨λd B t=>?_,λd u=>?_⟩) (by simp_all) (by simp_all)
 ·simp only[Q,i,G,A,a,d,decide_true,aC d (g4 _),aH,j4,cd,bo]
  refine a7 (aZ (λe=>b (λg=>t ?_) (λg=>?_)) (λe=>bq ?_))
  ·grind[lH]
  ·rw[Sm.inc h d,Q]
   grind[lH]
  ·rw[Sm.inc h d,Q]
   grind[lH]
 ·simp only[Q,i,G,A,a]
  exact bq u (by simp;omega)
def aY(a:List Obj)(id e:Nat)(b:z->List AV)(c:Nat)(d:List z):List Obj:=a.set id (.arr c e (d.map b))
variable{a2:z -> List AV}
theorem oo{id:Nat}(a:id<Z N):(aY N id U a2 O o)[id]?=T (.arr O U (o.map a2)):=by
 simp[aY,a]
theorem nt{id:Nat}:Z (aY N id U a2 O o)=Z N:=by simp[aY]
theorem NT(d:∀c,Z (a2 c)=U)(b:List z):(b.map a2).all (λa=>Z a==U)=true:=by
 grind
theorem r8(e:∀d,Z (a2 d)=U)(b:List Obj)(c:Bool)(a:List z):hQ b U (eS c a2 a)=T (a.map a2):=by
 grind[hQ,eS]
variable{Y:AV}
theorem Ho{id bytes:Nat}(a:id<Z N)(c:hQ (aY N id U a2 O o) U Y=T (ll.map a2))(b:(Z o+Z ll)*bytes<=2^47):
 cx U bytes (.q id O 0 (Z o)) Y (aY N id U a2 O o)=T (.q id (O+1) 0 (Z (o++ll)),aY N id U a2 (O+1) (o++ll)):=by
 simp_all[cx,AV.isNil,cZ,kd,fW,aY,fb,ht]
theorem mE{id bytes:Nat}(a:z)(b:id<Z N)(d:Z (a2 a)=U)(c:(Z o+1)*bytes<=2^47):
 cx U bytes (.q id O 0 (Z o)) (.sl aa [a2 a]) (aY N id U a2 O o)=T (.q id (O+1) 0 (Z (o++[a])),aY N id U a2 (O+1) (o++[a])):=by
 grind[Ho,hQ]
variable{cn:Type}
theorem bj{c:Option (z×cn)}{b:cn}{a:z->cn->Prop}(d:c=T (dD,b))(e:a dD b):cc c a:=by subst d;exact e
variable{jY:z -> Prop}
theorem aD{a:Option z}(b:a=T dD)(c:jY dD):bd a jY:=by subst b;exact c
variable{x:List k}
theorem NU{id:Nat}(a:id<Z N)(c:Z x<1099511627776)(b:fN (.q id (U+1) 0 (Z (x++[bH]))) (aY N id 1 cS (U+1) (x++[bH]))):cc (cx 1 16 (.q id U 0 (Z x)) (.sl aa [cS bH]) (aY N id 1 cS U x)) fN:=
 bj (mE bH a rfl (by omega)) b
variable{bz:List aO}{iZ:aO}
theorem DU{id:Nat}(a:id<Z N)(c:Z bz<1099511627776)(b:fN (.q id (U+1) 0 (Z (bz++[iZ]))) (aY N id 3 cV (U+1) (bz++[iZ]))):cc (cx 3 32 (.q id U 0 (Z bz)) (.sl aa [cV iZ]) (aY N id 3 cV U bz)) fN:=
 bj (mE iZ a rfl (by omega)) b
theorem NV{id:Nat}{a:List Int}(b:id<Z N)(d:Z a<1099511627776)(c:fN (.q id (U+1) 0 (Z (a++[aU]))) (aY N id 1 cI (U+1) (a++[aU]))):cc (cx 1 8 (.q id U 0 (Z a)) (.sl aa [cI aU]) (aY N id 1 cI U a)) fN:=
 bj (mE aU b rfl (by omega)) c
theorem NW{id bytes:Nat}(a:id<Z N)(c:∀e,Z (a2 e)=U)(b:(Z o+Z ll)*bytes<=2^47)(d:fN (.q id (O+1) 0 (Z (o++ll))) (aY N id U a2 (O+1) (o++ll))):cc (cx U bytes (.q id O 0 (Z o)) (eS V a2 ll) (aY N id U a2 O o)) fN:=
 bj (Ho a (r8 c _ _ _) b) d
theorem xq{id bytes:Nat}(a:id<Z N)(c:Z (a2 dD)=U)(b:(Z o+1)*bytes<=2^47)(d:fN (.q id (O+1) 0 (Z (o++[dD]))) (aY N id U a2 (O+1) (o++[dD]))):cc (cx U bytes (.q id O 0 (Z o)) (.sl aa [a2 dD]) (aY N id U a2 O o)) fN:=
 bj (mE dD a c b) d
variable{E:AV}
theorem nu{bytes:Nat}(b:Y.isNil=ab)(c:hQ N U E=T (o.map a2))(a:Z o*bytes<=2^47):
 cx U bytes Y E N=T (.q (Z N) 0 0 (Z o),N++[.arr 0 U (o.map a2)]):=by
 grind[cx]
theorem DV(a:List Obj)(d:Nat)(b:z->List AV)(c:List z)(e:Obj):a++[.arr 0 d (c.map b)]=aY (a++[e]) (Z a) d b 0 c:=by
 simp[aY]
theorem acD(a:List Obj)(b:Nat)(c:z->List AV):a++[.arr 0 b []]=aY (a++[.arr 0 b []]) (Z a) b c 0 []:=by
 simp[aY]
variable{mZ:cn -> List AV}{c2:Nat}
theorem NX{id:Nat}{a:List cn}:aY (aY N id U a2 y o) id O mZ c2 a=aY N id O mZ c2 a:=by
 simp[aY]
theorem y7{id:Nat}(b:id<Z N)(c:∀a∈o,bO (a2 a)):aI (aY N id U a2 O o) .res (.q id O 0 (Z o)) (eS aa a2 o):=by
 refine .na id O 0 (Z o) U (o.map a2) _ (oo b) (by simp) ?_;rw[jR,fW (by simp)];have:n9 (o.map a2):=by
  clear b;induction o with
  |nil=>exact .nil
  |cons a o d=>exact .cons _ _ (c a (by simp)) (by grind)
 exact this.snap
theorem l7{id:Nat}(b:N[id]?=T (.arr O U (o.map a2)))(c:∀a∈o,bO (a2 a)):aI N .cm (.q id O 0 (Z o)) (eS ab a2 o):=by
 refine .vq id O 0 (Z o) U (o.map a2) _ b (by simp) ?_;rw[jR,fW (by simp)];have:n9 (o.map a2):=by
  clear b;induction o with
  |nil=>exact .nil
  |cons a o d=>exact .cons _ _ (c a (by simp)) (by grind)
 exact this.snap
variable{bS:List (List AV)}
theorem acE{id off len:Nat}(a:N[id]?=T (.arr U O bS))(b:y<len):bY O (.q id U off len) (I y) N=T (.ptr id U (off+y) 0):=by
 simp[bY,b,a]
theorem e3{id len:Nat}(a:N[id]?=T (.arr U O bS))(b:y<len):bY O (.q id U 0 len) (I y) N=T (.ptr id U y 0):=by
 grind[acE]
theorem oq{id off:Nat}(a:N[id]?=T (.arr U c2 bS)):dw y (.ptr id U O off) N=T (.ptr id U O (off+y)):=by
 simp[dw,a]
theorem cr{id off:Nat}(a:N[id]?=T (.arr U y bS))(b:bS[O]?=T bg):aR 1 aa (.ptr id U O off) N=bg[off]?:=by
 simp only[aR,tY,a,if_true,b,iA];by_cases a:off<Z bg
 ·rw[if_pos (by omega)]
  simp[nY,bC a,J9]
 grind
theorem kV{id:Nat}(a:N[id]?=T (.arr U y bS))(b:bS[O]?=T bg)(c:Z bg=c2):aR c2 ab (.ptr id U O 0) N=T (.agg bg):=by
 grind[aR,tY,nY]
theorem jB{b:z->cn->z}{a:List cn}(c:U<Z a):(a.take (U+1)).foldl b dD=b ((a.take U).foldl b dD) a[U]:=by
 grind[List.take_succ_eq_append_getElem]
variable{ey:List Obj}
theorem s4(a:List cn)(f:List z->cn->List z)(d:List z)(id j:Nat)(i:z->List AV)(l:Nat)
 (p:[.q id l 0 (Z d),I ((0:Nat):Int)]=bg)(o:aY N id j i l d=ey)
 (step:∀b(m:b<Z a)(h:List z)(e:Nat)(g:List AV->List Obj->Prop),h=(a.take b).foldl f d->(∀k,g [.q id k 0 (Z (f h a[b])),I ((b+1:Nat):Int)] (aY N id j i k (f h a[b])))->ja [.q id e 0 (Z h),I b] (aY N id j i e h) g)
 (last:∀(e:Nat)(g:List AV->List Obj->Prop),ja [.q id e 0 (Z (a.foldl f d)),I (Z a)] (aY N id j i e (a.foldl f d)) g):iC ja bg ey:=by
 refine bB (λc=>[.q id c.2 0 (Z ((a.take c.1).foldl f d)),I c.1]) (λc=>aY N id j i c.2 ((a.take c.1).foldl f d)) (λc=>Z a -c.1) (λc=>c.1<=Z a) (0,l) (by simp) ?_ (by grind) (by grind);rintro⟨b,e⟩ r g n;by_cases m:b<Z a
 ·refine step b m _ e g rfl λk=>?_
  have:=n (b+1,k) m (by simp;omega);grind[jB]
 grind
def dR(a:List k)(b:k):List k:=if b=[]\/b∈a then a else a++[b]
def cH(a:List k)(b:List aM):List k:=b.foldl (λa c=>dR a c.aB) a
def e7(a:aG):List k:=(a.ae.map Lit.ad++[a.ad]).foldl cH []
theorem NY(a:List k)(b:k):Z (dR a b)<=Z a+1:=by
 grind[dR]
theorem xr(b:List aM):∀a:List k,Z (cH a b)<=Z a+Z b:=by
 induction b with
 |nil=>grind[cH]
 |cons c b e=>
  intro a;have f:=NY a c.aB;have d:=e (dR a c.aB);simp only[cH,oJ,iJ]at d⊢;omega
theorem NZ(b:List (List aM)):∀a:List k,Z (b.foldl cH a)<=Z a+Z b.flatten:=by
 induction b with
 |nil=>grind
 |cons c g e=>
  intro a;have f:=xr c a;have d:=e (cH a c);simp only[oJ,wE,fb]at d⊢;omega
theorem DW:S (bN (λa=>a==bH) x<0)= !S (bH∈x):=by
 have b:=Nd (λa=>a==bH) x;grind
theorem xt(a:k):fw 1 [(.str [])] 1 [(0,.str a)]=T (.sl aa [cS a]):=rfl
theorem Bi(a:Int):fw 1 [(I 0)] 1 [(0,I a)]=T (.sl aa [cI a]):=rfl
theorem vT(a:aO):fw 3 [(I 0),(I 0),(.str [])] 1 [(0,.agg (cV a))]=T (.sl aa [cV a]):=rfl
theorem acF(a:Bool)(b:aw):fw 3 [(I 0),.ai,(I 0)] 1 [(0,.agg (cF a b))]=T (.sl aa [cF a b]):=rfl
theorem nw(c:List k)(f:k)(n:Sm c):PR C 63 [eS V cS c,.str f] (I (bN (λh=>h==f) c)):=by
 refine Z7.pr ?_;refine et (U:=Z c) (c:=λe=>[I 0,I e]) (λe=>∀g(p:g<Z c),g<e->(c[g]==f)=aa) (by simp) rfl (λe d l m q=>?_) (λl m=>?_)
 ·simp only[Q,i,G,a8,A,a,d,decide_true,aC d (g5 _),aH,kp,fF]
  refine a7 (b (λj=>?_) (λj=>?_))
  ·simp[sU (dG:=λh=>h==f) d l j]
  ·rw[n.inc d,Q]
   grind
 ·simp only[Q,i,G,a8,A,a,ca,decide_false]
  refine bq ?_;simp_all[vJ]
theorem xu(c:List k)(h:k)(n:Sm c):PR C 138 [eS V cS c,.str h] (.bool (S (h∈c))):=by
 refine Wz.pr ?_;refine et (U:=Z c) (c:=λe=>[ff,I e]) (λe=>∀d(g:d<Z c),d<e->(c[d]==h)=aa) (by simp) rfl (λe f j l q=>?_) (λj l=>?_)
 ·simp only[Q,i,G,a8,A,a,f,decide_true,aC f (g5 _),aH,kp,fF]
  refine a7 (b (λm=>hR ?_) (λm=>?_))
  ·grind
  ·rw[n.inc f,Q]
   grind
 ·simp only[Q,i,G,a8,A,a,ca,decide_false]
  refine bq (bE ?_);simp only[decide_eq_false_iff_not];intro o;obtain⟨d,g,rfl⟩:=jS.1 o;have:=j d g g;simp at this
theorem N0(c:List aO)(h:aO)(m:Sm c):PR C 80 [eS V cV c,.agg (cV h)] (.bool (S (h∈c))):=by
 refine Xf.pr ?_;simp only[xf,Q];refine et (U:=Z c) (c:=λe=>[ff,I e]) (λe=>∀d(g:d<Z c),d<e->c[d]≠h) (by simp) rfl (λe f j k p=>?_) (λj k=>?_)
 ·simp only[Q,i,G,a8,A,a,f,decide_true,aC f (lZ _),oa,Vw]
  refine a7 (b (λl=>hR ?_) (λl=>?_))
  ·grind
  ·rw[m.inc f,Q]
   grind
 ·simp only[Q,i,G,a8,A,a,ca,decide_false]
  refine bq (bE ?_);simp only[decide_eq_false_iff_not];intro n;obtain⟨d,g,rfl⟩:=jS.1 n;exact j d g g rfl
theorem N1(c:aG)(W:oh c)(J:Sm (c.ae.map Lit.ad++[c.ad]).flatten):PR C 45 [.agg (aP V c)] (eS aa cS (e7 c)):=by
 refine XW.pr ?_;simp only[l3,Q,dZ,eA,a6,aH,sS,od,aJ,a8,bo,c3,de,Kk,iJ];have X:Z (c.ae.map Lit.ad++[c.ad])=Z c.ae+1:=by simp
 refine s4 (c.ae.map Lit.ad++[c.ad]) cH [] 1 1 cS (N:=[.arr 0 1 [],.arr 0 1 []]) 0 rfl (by simp[aY]) (λf P j n B N R=>?_) (λn B=>?_)
 ·have bf:=List.take_sublist f (c.ae.map Lit.ad++[c.ad])
  have be:Z j+Z (c.ae.map Lit.ad++[c.ad])[f]<=Z (c.ae.map Lit.ad++[c.ad]).flatten:=by
   have F:=NZ ((c.ae.map Lit.ad++[c.ad]).take f) [];rw[<-N]at F;have r:Z (c.ae.map Lit.ad++[c.ad]).flatten=Z ((c.ae.map Lit.ad++[c.ad]).take f).flatten+Z ((c.ae.map Lit.ad++[c.ad]).drop f).flatten:=by
    rw[<-fb,<-zQ,vg]
   rw[mQ P,wE,fb]at r;simp only[de,aJ]at F;omega
  have u:∀o,o<Z (c.ae.map Lit.ad++[c.ad])[f]->o<4611686018427387904:=by unfold Sm at J;omega
  generalize H:(c.ae.map Lit.ad++[c.ad])[f]=h at*;have U:S ((f:Int)<=Z c.ae)=true:=by simp;omega
  simp only[i,G];refine a7 ?_ U;have inner:iC (λe d xp=>bd (fX .sl (eS V cT h) d) λac=>bd (aS .s .lss (g e 1) ac) λaf=>dY af
   (bd (bY 4 (eS V cT h) (g e 1) d) λah=>bd (dw 0 ah d) λak=>bd (aR 1 aa ak d) λaq=>bd (aS .s .neq aq (.str [])) λar=>
    gd ar ab (bd (bY 4 (eS V cT h) (g e 1) d) λau=>bd (dw 0 au d) λax=>bd (aR 1 aa ax d) λaQ=>cp C 63 [g e 0,aQ] d λa0=>bd (aS .s .lss a0 (I 0)) λa3=>
     dY (g [a3] 0) (bd (bY 4 (eS V cT h) (g e 1) d) λv=>bd (dw 0 v d) λw=>bd (aR 1 aa w d) λx=>bd (fw 1 [.str []] 1 [(0,x)]) λy=>cc (cx 1 16 (g e 0) y d) λz t=>bd (aS .s .add (g e 1) (I 1)) λk=>xp [g [z] 0,k] t)
      (bd (aS .s .add (g e 1) (I 1)) λk=>xp [g [g e 0] 0,k] d))
     (dY (g [ff] 0) (bd (bY 4 (eS V cT h) (g e 1) d) λv=>bd (dw 0 v d) λw=>bd (aR 1 aa w d) λx=>bd (fw 1 [.str []] 1 [(0,x)]) λy=>cc (cx 1 16 (g e 0) y d) λz t=>bd (aS .s .add (g e 1) (I 1)) λk=>xp [g [z] 0,k] t)
      (bd (aS .s .add (g e 1) (I 1)) λk=>xp [g [g e 0] 0,k] d)))
   (bd (aS .s .add (I f) (I 1)) λa4=>B [g e 0,a4] d)) [.q 1 n 0 (Z j),I 0] (aY [.arr 0 1 [],.arr 0 1 []] 1 1 cS n j):=by
   refine s4 h (λj Y=>dR j Y.aB) j 1 1 cS (N:=[.arr 0 1 [],.arr 0 1 []]) n rfl rfl (λo m E M L O bb=>?_) (λM L=>?_)
   ·have a9:Z E+1<=1099511627776:=by
     have:=xr (h.take o) j;simp only[cH]at this;rw[<-O]at this;simp at this;unfold Sm at J;omega
    simp only[i,G,Q,a8,A,a,m,decide_true,aC m (h8 _),a6,aH,nn,ib,aJ];refine a7 (y4 (λl=>?_) (λl=>bq ?_))
    ·refine ea _ (nw E _ (by grind[Sm])) (.ck (l7 (oo (by simp)) (by simp)) (.ck (.str _ _) (.nil _))) (.int _ _) ?_
     simp only[A,Q,DW];refine c8 (λr=>?_) (λr=>?_)
     ·rw[xt,Q]
      refine NU (by simp) (by omega) ?_;rw[ba (u _ m),Q];grind[dR]
     ·rw[ba (u _ m),Q]
      grind[dR]
    ·rw[ba (u _ m),Q]
     grind[dR]
   ·simp only[i,G,Q,a8,A,a,ca,decide_false]
    refine bq ?_;rw[ba (by have:=W.2.1;grind[Sm]),Q];exact R _
  refine b (λl=>?_) (λl=>?_)
  ·have p:f<Z c.ae:=by simpa using l
   have:c.ae[f].ad=h:=by rw[<-H,Tz (by simpa using p)];simp
   simp only[aC p (h9 _ _),Q,a6,aH,oc,aJ,this];exact inner
  ·have p:f=Z c.ae:=by simp at l;omega
   have:c.ad=h:=by rw[<-H,List.getElem_append_right (by simp;omega)];simp
   simp only[this];exact inner
 ·have:S ((Z (c.ae.map Lit.ad++[c.ad]):Int)<=Z c.ae)=false:=by rw[decide_eq_false_iff_not,X];omega
  simp only[i,G];refine bq ?_ this;exact y7 (by simp) (by simp)
theorem uA(c:List z)(d:z->Bool)(ok:Bool)(h:[.bool ok,I ((0:Nat):Int)]=bg)
 (step:∀a(g:a<Z c)(e:Bool)(b:List AV->List Obj->Prop),b [.bool (e&&d c[a]),I ((a+1:Nat):Int)] N->ja [.bool e,I a] N b)
 (last:∀b:List AV->List Obj->Prop,ja [.bool (ok&&c.all d),I (Z c)] N b):iC ja bg N:=by
 refine et (U:=Z c) (c:=λa=>[.bool (ok&&(c.take a).all d),I a]) (λ_=>True) trivial (by grind) (λa i _ b j=>?_) (λ_ b=>?_)
 ·grind[mD]
 grind
def y8(a:bM):Bool:=S ((Z a.au:Int)<=10)&&S ((Z a.eg:Int)<=80)
def xv(a:Fn):Bool:=S ((Z a.src:Int)<=10)&&(S ((Z a.dst:Int)<=10)&&S ((Z a.gM:Int)<=10))
def Bj(a:cD):Bool:=S ((Z a.bb:Int)<=10)
def DX(a:aG):Bool:=S ((Z a.ae:Int)<=10)&&S ((Z a.ad:Int)<=10)&&a.ae.all λb=>S ((Z b.ad:Int)<=10)
def Bk(a:aj):Bool:=(!S (6<(Z a.m:Int))&& !S (10<(Z a.aW:Int))&& !S (26<(Z a.d:Int))&& !S (14<(Z a.ah:Int)))&&
 (a.m.all y8&&a.aW.all xv&&a.d.all Bj&&a.ah.all DX)
def q3(a:aj)(b:List aw):Bool:=Bk a&& !S (10<(Z a.ah:Int))&& !S (60<(Z b:Int))&&a.ah.all (λd=> !S (5<(Z d.ae:Int)))&&b.all λc=> !S (6<(Z c.ad:Int))
theorem acG(b:aj)(l:dW b)(Hq:∀q∈b.ah,PR C 231 [.agg (aP V q)] (.bool (l6 q))):PR C 155 [.agg (cP V F b)] (.bool (p8 b)):=by
 refine Xr.pr ?_;have p:p8 b=((!S (4<(Z b.m:Int))&& !S (8<(Z b.aW:Int))&& !S (24<(Z b.d:Int))&& !S (40<(Z b.ah:Int)))&&((((ab&&b.m.all xn)&&b.aW.all r2)&&b.d.all r3)&&b.ah.all l6)):=by
  simp only[p8,ek,<-kr];generalize S ((Z b.m:Int)<=4)=r;generalize S ((Z b.aW:Int)<=8)=s;generalize S ((Z b.d:Int)<=24)=t;generalize S ((Z b.ah:Int)<=40)=u;cases r<;>cases s<;>cases t<;>cases u<;>simp
 simp only[dS,Q,a6,aH,oe,sT,iy,mz,aJ,a8,er];refine eh (N:=[]) (!(!S (4<(Z b.m:Int))&& !S (8<(Z b.aW:Int))&& !S (24<(Z b.d:Int))&& !S (40<(Z b.ah:Int)))) (λo c=>?_) ?_
 ·refine dy (by grind) (λv=>dy (by grind) (λw=>dy (by grind) (λx=>by simp_all)))
 simp only[G];refine c8 (by grind[bE]) (λe=>?_);rw[p,e,cu];clear p e;refine uA b.m xn ab rfl (λk g j h c=>?_) (λh=>?_)
 ·simp only[Q,i,G,A,a,g,decide_true,aC g (jh _ _),a6,aH,Vu,gF,aJ]
  refine a7 (eh (N:=[]) (j&&xn b.m[k]) (λo c=>aZ (λe=>kB c (by rw[e];rfl)) (λe=>kB c (by rw[e];rfl))) ?_);rw[l.m.inc g,Q,G];exact c
 simp only[Q,i,G,A,a,ca,decide_false];refine bq ?_;refine uA b.aW r2 _ rfl (λk g j h c=>?_) (λh=>?_)
 ·simp only[Q,i,G,A,a,g,decide_true,aC g (p3 _ _),AH]
  refine a7 (eh (N:=[]) (j&&r2 b.aW[k]) (λo c=>aZ (λe=>f (acA _ (l.fn _ (bs g))) (kB c (by rw[e];rfl))) (λe=>kB c (by rw[e];rfl))) ?_);rw[l.aW.inc g,Q,G];exact c
 simp only[Q,i,G,A,a,ca,decide_false];refine bq ?_;refine uA b.d r3 _ rfl (λk g j h c=>?_) (λh=>?_)
 ·simp only[Q,i,G,A,a,g,decide_true,aC g (hD _ _),ub]
  refine a7 (eh (N:=[]) (j&&r3 b.d[k]) (λo c=>aZ (λe=>f (acC _ (l.q0 _ (bs g))) (kB c (by rw[e];rfl))) (λe=>kB c (by rw[e];rfl))) ?_);rw[l.d.inc g,Q,G];exact c
 simp only[Q,i,G,A,a,ca,decide_false];refine bq ?_;refine uA b.ah l6 _ rfl (λk g j h c=>?_) (λh=>?_)
 ·simp only[Q,i,G,A,a,g,decide_true,aC g (kQ _ _),kR]
  refine a7 (eh (N:=[]) (j&&l6 b.ah[k]) (λo c=>aZ (λe=>f (Hq _ (bs g)) (kB c (by rw[e];rfl))) (λe=>kB c (by rw[e];rfl))) ?_);rw[l.ah.inc g,Q,G];exact c
 simp only[Q,i,G,A,a,ca,decide_false];exact bq (gU rfl)
theorem acH(c:aj)(n:dW c):PR C 93 [.agg (cP V F c)] (.bool (Bk c)):=by
 refine Xi.pr ?_;have r:Bk c=((!S (6<(Z c.m:Int))&& !S (10<(Z c.aW:Int))&& !S (26<(Z c.d:Int))&& !S (14<(Z c.ah:Int)))&&((((ab&&c.m.all y8)&&c.aW.all xv)&&c.d.all Bj)&&c.ah.all DX)):=by
  simp[Bk]
 simp only[dS,Q,a6,aH,oe,sT,iy,mz,aJ,a8,er];refine eh (N:=[]) (!(!S (6<(Z c.m:Int))&& !S (10<(Z c.aW:Int))&& !S (26<(Z c.d:Int))&& !S (14<(Z c.ah:Int)))) (λo b=>?_) ?_
 ·refine dy (by grind) (λy=>dy (by grind) (λg=>dy (by grind) (λp=>by simp_all)))
 simp only[G];refine c8 (by grind[bE]) (λe=>?_);rw[r,e,cu];clear r e;refine uA c.m y8 ab rfl (λh f k j b=>?_) (λj=>?_)
 ·simp only[Q,i,G,A,a,f,decide_true,aC f (jh _ _),a6,aH,np,Dk,a8,jN,aJ]
  refine a7 (eh (N:=[]) (k&&y8 c.m[h]) (λo b=>aZ (λe=>aZ (λg=>kB b (by rw[e,y8,g];rfl)) (λg=>kB b (by rw[e,y8,g];rfl))) (λe=>kB b (by rw[e];rfl))) ?_);rw[n.m.inc f,Q,G];exact b
 simp only[Q,i,G,A,a,ca,decide_false];refine bq ?_;refine uA c.aW xv _ rfl (λh f k j b=>?_) (λj=>?_)
 ·simp only[Q,i,G,A,a,f,decide_true,aC f (p3 _ _),a6,aH,AN,AO,GH,a8,jN,aJ]
  refine a7 (eh (N:=[]) (k&&xv c.aW[h]) (λo b=>aZ (λe=>aZ (λg=>aZ (λp=>kB b (by rw[e,xv,g,p];rfl)) (λp=>kB b (by rw[e,xv,g,p];rfl))) (λg=>kB b (by rw[e,xv,g];rfl))) (λe=>kB b (by rw[e];rfl))) ?_);rw[n.aW.inc f,Q,G];exact b
 simp only[Q,i,G,A,a,ca,decide_false];refine bq ?_;refine uA c.d Bj _ rfl (λh f k j b=>?_) (λj=>?_)
 ·simp only[Q,i,G,A,a,f,decide_true,aC f (hD _ _),a6,aH,ue,a8,jN,aJ]
  refine a7 (eh (N:=[]) (k&&Bj c.d[h]) (λo b=>aZ (λe=>kB b (by rw[e,Bj];rfl)) (λe=>kB b (by rw[e];rfl))) ?_);rw[n.d.inc f,Q,G];exact b
 simp only[Q,i,G,A,a,ca,decide_false];refine bq ?_;refine uA c.ah DX _ rfl (λh f k j b=>?_) (λj=>?_)
 ·have v:=n.hG _ (bs f)
  simp only[Q,i,G,A,a,f,decide_true,aC f (kQ _ _),a6,aH,sS,od,a8,jN,aJ];refine a7 (eh (N:=[]) (k&&(S ((Z c.ah[h].ae:Int)<=10)&&S ((Z c.ah[h].ad:Int)<=10))) (λo b=>aZ (λe=>aZ (λg=>kB b (by rw[e,g];rfl)) (λg=>kB b (by rw[e,g];rfl))) (λe=>kB b (by rw[e];rfl))) ?_);refine uA c.ah[h].ae (λx=>S ((Z x.ad:Int)<=10)) _ rfl (λw q t s u=>?_) (λs=>?_)
  ·simp only[Q,i,G,A,a,q,decide_true,aC q (h9 _ _),a6,aH,oc,a8,jN,aJ]
   refine a7 (eh (N:=[]) (t&&S ((Z c.ah[h].ae[w].ad:Int)<=10)) (λo b=>aZ (λe=>kB b (by rw[e];rfl)) (λe=>kB b (by rw[e];rfl))) ?_);rw[v.2.1.inc q,Q,G];exact u
  ·simp only[Q,i,G,A,a,ca,decide_false]
   refine bq ?_;rw[n.ah.inc f,Q,TA];exact b
 simp only[Q,i,G,A,a,ca,decide_false];exact bq (gU rfl)
theorem acI(d:aj)(e:List aw)(n:dW d)(t:Sm e):PR C 44 [.agg (cP V F d),eS b2 (cF bp) e] (.bool (q3 d e)):=by
 refine W6.pr ?_;simp only[dS,Q,a6,aH,fQ,mz,aJ,a8,er,bo,G];refine f (acH d n) ?_;simp only[bD,Q];refine gV (λp=>?_) (λg=>a7 (bE (by rw[q3,g];rfl)));refine dy (λg=>a7 (bE (by rw[q3,g];simp))) (λq=>?_);refine b (by simp_all[q3]) (λr=>?_);have s:q3 d e=(d.ah.all (λm=> !S (5<(Z m.ae:Int)))&&e.all λl=> !S (6<(Z l.ad:Int))):=by
  rw[q3,p,q,r];rfl
 rw[s];refine et (U:=Z d.ah) (c:=λc=>[ff,I c]) (λc=>(d.ah.take c).all (λm=> !S (5<(Z m.ae:Int)))=ab) (by simp) rfl (λc h j k u=>?_) (λj k=>?_)
 ·simp only[Q,i,G,A,a,h,decide_true,aC h (kQ _ _),a6,aH,od,a8,er,aJ]
  refine a7 (b (λg=>bE ?_) (λg=>?_))
  ·grind
  ·rw[n.ah.inc h,Q]
   grind[mD]
 rw[dB]at j;simp only[Q,i,G,A,a,ca,decide_false];refine bq ?_;rw[j,cu];refine et (U:=Z e) (c:=λc=>[ff,I c]) (λc=>(e.take c).all (λl=> !S (6<(Z l.ad:Int)))=ab) (by simp) rfl (λc h j k u=>?_) (λj k=>?_)
 ·simp only[Q,i,G,A,a8,a,h,decide_true,aC h (hE _ _),a6,aH,ug,er,aJ]
  refine a7 (b (λg=>bE ?_) (λg=>?_))
  ·grind
  ·rw[t.inc h,Q]
   grind[mD]
 rw[dB]at j;simp only[Q,i,G,A,a,ca,decide_false];exact bq (hR j)
theorem xw{id:Nat}(b:id<Z N)(a:List Obj):aY N id U a2 O o++a=aY (N++a) id U a2 O o:=by
 grind[aY]
variable{jW:Nat}
theorem uB{id:Nat}{a:List cn}(b:id≠O):
 aY (aY N id U a2 c2 o) O y mZ jW a=aY (aY N O y mZ jW a) id U a2 c2 o:=by
 grind[aY,List.set_comm]
theorem N2{id:Nat}{a:List cn}(b:id≠O)(c:id<Z N):
 (aY (aY N id U a2 c2 o) O y mZ jW a)[id]?=T (.arr c2 U (o.map a2)):=by
 grind[aY]
theorem acJ(a:List cn)(f:List z->cn->List z)(d:List z)(id j:Nat)(i:z->List AV)(m:Nat)
 (t:id<Z N)(p:[.q id m 0 (Z d),I ((0:Nat):Int)]=bg)(o:aY N id j i m d=ey)
 (step:∀c(n:c<Z a)(h:List z)(e:Nat)(N:List Obj)(g:List AV->List Obj->Prop),id<Z N->h=(a.take c).foldl f d->(∀l k,id<Z k->g [.q id l 0 (Z (f h a[c])),I ((c+1:Nat):Int)] (aY k id j i l (f h a[c])))->ja [.q id e 0 (Z h),I c] (aY N id j i e h) g)
 (last:∀(e:Nat)(N:List Obj)(g:List AV->List Obj->Prop),id<Z N->ja [.q id e 0 (Z (a.foldl f d)),I (Z a)] (aY N id j i e (a.foldl f d)) g):iC ja bg ey:=by
 refine bB (λb=>[.q id b.2.1 0 (Z ((a.take b.1).foldl f d)),I b.1]) (λb=>aY b.2.2 id j i b.2.1 ((a.take b.1).foldl f d)) (λb=>Z a -b.1) (λb=>b.1<=Z a/\id<Z b.2.2) (0,m,N) ⟨by simp,t⟩ ?_ (by simpa using p) (by simpa using o);rintro⟨c,e,N⟩ ⟨v,r⟩ g u;by_cases n:c<Z a
 ·refine step c n _ e N g r rfl λl k s=>?_
  have:=u (c+1,l,k) ⟨n,s⟩ (by simp;omega);grind[jB]
 grind
def l8(a:List aO)(b:aO):List aO:=if b∈a then a else a++[b]
def uC(a:List aO)(b:aw):List aO:=b.ad.foldl l8 a
def Bl(a:List aw):List aO:=a.foldl uC []
def nx(a:List aO)(b:aM):List aO:=if b.aB=[]then l8 a b.const else a
def iO(a:aG):List aM:=a.ad++(a.ae.map Lit.ad).flatten
def vU(a:List aO)(b:aG):List aO:=(iO b).foldl nx a
def pa(b:aj)(a:List aw):List aO:=b.ah.foldl vU (Bl a)
theorem acK(a:List aO)(b:aO):Z (l8 a b)<=Z a+1:=by grind[l8]
theorem acL(b:aw)(a:List aO):Z (uC a b)<=Z a+Z b.ad:=by
 unfold uC;generalize b.ad=c;induction c generalizing a with
 |nil=>simp
 |cons e c d=>grind[l8]
theorem acM(a:List aO)(b:aM):Z (nx a b)<=Z a+1:=by
 grind[nx,acK]
theorem N3(a:List aM)(b:List aO):Z (a.foldl nx b)<=Z b+Z a:=by
 induction a generalizing b with
 |nil=>simp
 |cons d a c=>grind[acM,nx,List.length_cons]
theorem acN(b:aG)(a:List aO):Z (vU a b)<=Z a+Z (iO b):=N3 _ _
theorem acO(a:List aO)(b:List aO):Z (a.foldl l8 b)<=Z b+Z a:=by
 induction a generalizing b with
 |nil=>simp
 |cons d a c=>grind[l8]
theorem Hr(c:List aO->z->List aO)(d:Nat):∀(b:List z)(_:∀x∈b,∀a,Z (c a x)<=Z a+d)(a:List aO),Z (b.foldl c a)<=Z a+Z b*d
 |[],_,a=>by simp
 |x::b,e,a=>by
  have f:=e x (by simp) a;have g:=Hr c d b (by grind) (c a x);grind[List.length_cons,Nat.succ_mul]
theorem Bm(g:z->List cn)(b:Nat):∀(a:List z)(_:∀x∈a,Z (g x)<=b),Z ((a.map g).flatten)<=Z a*b
 |[],_=>by simp
 |x::a,c=>by
  have d:=c x (by simp);have e:=Bm g b a (by grind);grind[List.flatten_cons,List.length_append,List.length_cons,Nat.succ_mul]
structure qi(p:aj)(fs:List aw):Prop where
 ah:Z p.ah<=10
 facts:Z fs<=60
 ae:∀r∈p.ah,Z r.ae<=5
 DY:∀r∈p.ah,Z r.ad<=10
 s5:∀r∈p.ah,∀l∈r.ae,Z l.ad<=10
 N4:∀f∈fs,Z f.ad<=6
variable{M:aj}{X:List aw}
theorem N5(a:q3 M X=ab):qi M X:=by
 simp only[q3,Bk,bG,fi,jt,decide_eq_false_iff_not,DX,decide_eq_true_eq]at a;obtain⟨⟨⟨⟨⟨b,c⟩,d⟩,e⟩,f⟩,g⟩:=a;exact⟨by omega,by omega,by grind,by grind,by grind,by grind⟩
variable{u:aG}
theorem qi.N6(a:qi M X)(b:u∈M.ah):Z (iO u)<=60:=by
 have c:=a.DY u b;have d:=Bm Lit.ad 10 u.ae (a.s5 u b);have e:=a.ae u b;grind[iO]
theorem qi.N7(c:qi M X)(a:Nat):Z ((X.take a).foldl uC [])<=360:=by
 have:=Hr uC 6 (X.take a) (λb f d=>by have:=acL b d;have:=c.N4 b (by grind);omega) [];have e:Z (X.take a)<=60:=by have:=c.facts;simp;omega
 grind
theorem qi.N8(a:qi M X)(b:Nat):Z ((M.ah.take b).foldl vU (Bl X))<=960:=by
 have:=Hr vU 60 (M.ah.take b) (λe d c=>by have:=acN e c;have:=a.N6 (qL d);omega) (Bl X);have f:Z (M.ah.take b)<=10:=by have:=a.ah;simp;omega
 have g:=a.N7 (Z X);grind[Bl]
theorem N9(c:aj)(o:List aw)(n:qi c o):PR C 30 [.agg (cP V F c),eS b2 (cF bp) o] (eS aa cV (pa c o)):=by
 refine Wl.pr ?_;simp only[dS,Q,dZ,eA,a6,aH,mz,aJ,a8,c3,de,Kk,iJ];refine s4 o uC [] 1 3 cV (N:=[.arr 0 3 [],.arr 0 3 []]) 0 rfl (by simp[aY]) (λb r h q z H J=>?_) (λq z=>?_)
 ·have aB:=n.N4 _ (bs r)
  have ac:Z h<=360:=H▸n.N7 b;simp only[Q,i,G,A,a,r,decide_true,aC r (hE _ _),a6,aH,ug,aJ,a8];refine a7 ?_;refine s4 o[b].ad l8 h 1 3 cV (N:=[.arr 0 3 [],.arr 0 3 []]) q rfl rfl (λe j g p B v m=>?_) (λp B=>?_)
  ·have N:Z g<=366:=by
    have:=acO (o[b].ad.take e) h;rw[<-v]at this;have:Z (o[b].ad.take e)<=6:=by simp;omega
    omega
   simp only[Q,i,G,A,a,j,decide_true,bo,aC j (lZ _),oa];refine a7 (ea _ (N0 g _ (by unfold Sm;omega)) (.ck (l7 (oo (by simp)) (by simp)) (.ck cy (.nil _))) (.bool _) ?_);simp only[bD,Q];refine c8 (λl=>?_) (λl=>?_)
   ·rw[vT,Q]
    refine DU (by simp) (by omega) ?_;rw[ba,Q];grind[l8]
   ·rw[ba,Q]
    grind[l8]
  ·simp only[Q,i,G,A,a,ca,decide_false]
   refine bq ?_;rw[ba (by have:=n.facts;omega),Q];exact J _
 simp only[Q,i,G,A,a,ca,decide_false];refine bq ?_;refine acJ c.ah vU (Bl o) 1 3 cV (N:=[.arr 0 3 [],.arr 0 3 []]) q (by simp) rfl rfl (λb r h q f z I H J=>?_) (λq f z I=>?_)
 ·have y:=bs r
  have ac:Z h<=960:=H▸n.N8 b;have a3:=n.DY _ y;have a4:=n.ae _ y;have P:=n.s5 _ y;simp only[Q,i,G,A,a,r,decide_true,aC r (kQ _ _),a6,aH,sS,od,aJ,a8];refine a7 (bj (nu (a2:=cT) (o:=c.ah[b].ad) rfl (r8 h8 _ _ _) (by omega)) ?_);rw[DV _ _ _ _ (.arr 0 4 []),xw I,nt];have X:1<Z (f++[Obj.arr 0 4 []]):=by simp;omega
  have O:1≠Z f:=by omega
  refine s4 c.ah[b].ae (λh d=>h++d.ad) c.ah[b].ad (Z f) 4 cT (N:=aY (f++[.arr 0 4 []]) 1 3 cV q h) 0 rfl rfl (λe j g p B v m=>?_) (λp B=>?_)
  ·have N:Z g<=60:=by
    have U:∀(d:List Lit)(k:List aM),(∀s∈d,Z s.ad<=10)->Z (d.foldl (λh d=>h++d.ad) k)<=Z k+Z d*10:=by
     intro d;induction d with
     |nil=>intro k _;simp
     |cons s d K=>
      intro k R;have:=K (k++s.ad) λau ar=>R au (by simp[ar]);have:=R s (by simp);simp only[oJ,iJ,fb]at*;omega
    have:=U (c.ah[b].ae.take e) c.ah[b].ad λs aq=>P s (qL aq);rw[<-v]at this;have:Z (c.ah[b].ae.take e)<=5:=by simp;omega
    omega
   have aQ:=P _ (bs j);simp only[Q,i,G,A,a,j,decide_true,aC j (h9 _ _),a6,aH,oc,aJ];refine a7 (NW (by simp[nt]) h8 (by omega) ?_);rw[ba,Q];exact m _
  simp only[Q,i,G,A,a,ca,decide_false];refine bq ?_;have Y:∀(d:List Lit)(k:List aM),d.foldl (λh d=>h++d.ad) k=k++(d.map Lit.ad).flatten:=by
   intro d;induction d with
   |nil=>intro k;simp
   |cons s d K=>intro k;simp[K]
  rw[Y];have ak:c.ah[b].ad++(c.ah[b].ae.map Lit.ad).flatten=iO c.ah[b]:=rfl;rw[ak,uB O];have a0:=n.N6 y;generalize M:aY (f++[.arr 0 4 []]) (Z f) 4 cT p (iO c.ah[b])=t;have W:t[Z f]?=T (.arr p 4 ((iO c.ah[b]).map cT)):=by rw[<-M];exact oo (by simp)
  have E:1<Z t:=by rw[<-M,nt];exact X
  refine s4 (iO c.ah[b]) nx h 1 3 cV (N:=t) q rfl rfl (λe j g w S v m=>?_) (λw S=>?_)
  ·have N:Z g<=1020:=by
    have:=N3 ((iO c.ah[b]).take e) h;rw[<-v]at this;have:Z ((iO c.ah[b]).take e)<=60:=by simp;omega
    omega
   have x:(aY t 1 3 cV w g)[Z f]?=T (.arr p 4 ((iO c.ah[b]).map cT)):=by
    simp only[aY];rw[nV O];exact W
   have L:((iO c.ah[b]).map cT)[e]?=T (cT (iO c.ah[b])[e]):=by simp[j]
   simp only[Q,i,G,nj,A,a,j,decide_true,e3 x j,oq x,cr x L,nn,fF,bo,aJ,fo];have af:aR 3 ab (.ptr (Z f) p e 1) (aY t 1 3 cV w g)=T (.agg (cV (iO c.ah[b])[e].const)):=by
    simp only[aR,tY,x,if_true,L,iA];rfl
   refine a7 (aZ (λl=>?_) (λl=>bq ?_))
   ·rw[af,Q]
    refine ea _ (N0 g _ (by unfold Sm;omega)) (.ck (l7 (oo E) (by simp)) (.ck cy (.nil _))) (.bool _) ?_;simp only[bD,Q];refine c8 (λu=>?_) (λu=>?_)
    ·rw[vT,Q]
     refine DU E (by omega) ?_;rw[ba,Q];have:nx g (iO c.ah[b])[e]=g++[(iO c.ah[b])[e].const]:=by simp at l u;simp[nx,l8,l,u]
     rw[this]at m;exact m _
    ·rw[ba,Q]
     have:nx g (iO c.ah[b])[e]=g:=by simp at l u;simp[nx,l8,l,u]
     rw[this]at m;exact m _
   ·rw[ba,Q]
    have:nx g (iO c.ah[b])[e]=g:=by simp at l;simp[nx,l]
    rw[this]at m;exact m _
  ·simp only[Q,i,G,nj,A,a,ca,decide_false]
   refine bq ?_;rw[ba (by have:=n.ah;omega),Q];exact J w t E
 ·simp only[Q,i,G,A,a,ca,decide_false]
  exact bq (y7 I (by simp))
def ny(b c:Int):Nat->Int->Int
 |0,a=>a
 |k+1,a=>if a<=c then ny b c k (a*b)else a
def r9(a:aj)(b:List aw)(c:Int):Bool:=q3 a b&&a.ah.all λd=> !S (c<ny (Z (pa a b)) c (Z (e7 d)) 1)
theorem qi.flat(a:qi M X)(b:u∈M.ah):Z (u.ae.map Lit.ad++[u.ad]).flatten<=60:=by
 have c:=a.DY u b;have d:=Bm Lit.ad 10 u.ae (a.s5 u b);have e:=a.ae u b;grind
theorem Hs(a:aG):Z (e7 a)<=Z (a.ae.map Lit.ad++[a.ad]).flatten:=by
 have:=NZ (a.ae.map Lit.ad++[a.ad]) [];simpa[e7]using this
theorem acP(c:aj)(m:List aw)(e:Int)(af:0<=e/\e<=1000000)(q:dW c)(L:Sm m):PR C 13 [.agg (cP V F c),eS b2 (cF bp) m,I e] (.bool (r9 c m e)):=by
 refine XP.pr ?_;simp only[dS,Q,a6,aH,fQ,mz,aJ,a8];refine f (acI c m q L) ?_;simp only[bD,Q];refine c8 (by simp_all[r9]) (λj=>?_);have r:=N5 j;refine f (N9 c m r) ?_;simp only[a8,Q];have K:(Z (pa c m):Int)<=960:=by
  have:=r.N8 (Z c.ah);rw[dB]at this;unfold pa;omega
 rw[r9,j,cu];generalize X:(Z (pa c m):Int)=h at*;have w:0<=h:=by omega
 refine et (U:=Z c.ah) (c:=λd=>[ff,I d]) (λd=>(c.ah.take d).all (λt=> !S (e<ny h e (Z (e7 t)) 1))=ab) (by simp) rfl (λd n p u ad=>?_) (λp u=>?_)
 ·have x:=bs n
  have Y:=r.flat x;have aq:=Hs c.ah[d];simp only[Q,i,G,A,a,n,decide_true,aC n (kQ _ _),kR];refine a7 ?_;refine bB (z:=Nat×Int) (λg=>[I g.2,I g.1]) (λ_=>[]) (λg=>Z (e7 c.ah[d]) -g.1) (λg=>g.1<=Z (e7 c.ah[d])/\0<=g.2/\g.2<=960000000/\ny h e (Z (e7 c.ah[d])) 1=ny h e (Z (e7 c.ah[d]) -g.1) g.2) (0,1) ⟨by simp,by simp,by simp,by simp⟩ ?_;rintro⟨k,l⟩ ⟨B,v,E,o⟩ W y;simp only at B v E o y⊢
  have out:ny h e (Z (e7 c.ah[d])) 1=l->bd (aS .s .gtr (I l) (I e)) λP=>dY P (aI [] .res (AV.pl ff) (.bool (c.ah.all λt=> !S (e<ny h e (Z (e7 t)) 1)))) (bd (aS .s .add (I d) (I 1)) λR=>u [ff,R] []):=by
   intro z;simp only[er,Q];refine b (λj=>bE ?_) (λj=>?_)
   ·grind
   ·rw[q.ah.inc n,Q]
    grind[mD]
  refine eh (N:=[]) (S (k<Z (e7 c.ah[d]))&&S (l<=e)) (λar ae=>?_) ?_
  ·refine f (N1 _ (q.hG _ x) (by unfold Sm;omega)) ?_
   simp only[i,G,a8,Q,A,jN,a];exact aZ (by grind) (by grind)
  simp only[G,i];refine b (λj=>?_) (λj=>?_)
  ·simp only[bG,decide_eq_true_eq]at j
   obtain⟨H,J⟩:=j;have ak:l*h<=1000000*960:=Int.mul_le_mul (by omega) K w (by omega);have O:0<=l*h:=akU v w;rw[Mq (by omega) (by omega),Q,ba,Q];refine y (k+1,l*h) ⟨H,O,by omega,?_⟩ (by simp;omega);rw[o,show Z (e7 c.ah[d]) -k=(Z (e7 c.ah[d]) -(k+1))+1 by omega,ny,if_pos J]
  ·refine out ?_
   rw[o];rcases Kj k (Z (e7 c.ah[d]))with N|ac
   ·have:¬l<=e:=by
     intro M;simp[N,M]at j
    rw[show Z (e7 c.ah[d]) -k=(Z (e7 c.ah[d]) -(k+1))+1 by omega,ny,if_neg this]
   ·rw[show Z (e7 c.ah[d]) -k=0 by omega,ny]
 ·rw[dB]at p
  simp only[Q,i,G,A,a,ca,decide_false];exact bq (hR p)
theorem Ht(c:aj)(e:k)(p:dW c):PR C 232 [.agg (cP V F c),.str e] (I (bN (λf=>f.ar==e) c.m)):=by
 refine ZR.pr ?_;simp only[dS,Q,a6,aH,oe,aJ,a8];refine et (U:=Z c.m) (c:=λh=>[I 0,I h]) (λh=>∀d(j:d<Z c.m),d<h->(c.m[d].ar==e)=aa) (by simp) rfl (λh g l o r=>?_) (λl o=>?_)
 ·simp only[Q,i,G,A,a,g,decide_true,aC g (jh _ _),a6,aH]
  refine a7 (b (λn=>?_) (λn=>?_))
  ·simp[sU (dG:=λf:bM=>f.ar==e) g l n]
  ·rw[p.m.inc g,Q]
   grind
 ·simp only[Q,i,G,A,a,ca,decide_false]
  exact bq (by simp[vJ (dG:=λf:bM=>f.ar==e) (λd j=>l d j j)])
theorem Oa(c:aj)(e:k)(o:dW c):PR C 234 [.agg (cP V F c),.str e] (I (bN (λf=>f.ar==e) c.aW)):=by
 refine WL.pr ?_;simp only[dS,Q,a6,aH,sT,aJ,a8];refine et (U:=Z c.aW) (c:=λh=>[I 0,I h]) (λh=>∀d(j:d<Z c.aW),d<h->(c.aW[d].ar==e)=aa) (by simp) rfl (λh g l n q=>?_) (λl n=>?_)
 ·simp only[Q,i,G,A,a,g,decide_true,aC g (p3 _ _),a6,aH]
  refine a7 (b (λm=>?_) (λm=>?_))
  ·simp[sU (dG:=λf:Fn=>f.ar==e) g l m]
  ·rw[o.aW.inc g,Q]
   grind
 ·simp only[Q,i,G,A,a,ca,decide_false]
  exact bq (by simp[vJ (dG:=λf:Fn=>f.ar==e) (λd j=>l d j j)])
theorem Hu(c:aj)(f:k)(p:dW c):PR C 235 [.agg (cP V F c),.str f] (I (bN (λg=>g.ar==f) c.d)):=by
 refine Y8.pr ?_;simp only[dS,Q,a6,aH,iy,aJ,a8];refine et (U:=Z c.d) (c:=λj=>[I 0,I j]) (λj=>∀e(l:e<Z c.d),e<j->(c.d[e].ar==f)=aa) (by simp) rfl (λj h m o r=>?_) (λm o=>?_)
 ·simp only[Q,i,G,A,a,h,decide_true,aC h (hD _ _),a6,aH]
  refine a7 (b (λn=>?_) (λn=>?_))
  ·simp[sU (dG:=λg:cD=>g.ar==f) h m n]
  ·rw[p.d.inc h,Q]
   grind
 ·simp only[Q,i,G,A,a,ca,decide_false]
  exact bq (by simp[vJ (dG:=λg:cD=>g.ar==f) (λe l=>m e l l)])
theorem y9(b:bM)(a:Int):PR C 85 [.agg (bn V b),I a] (.bool (S (0<=a)&&S (a<Z b.au))):=by
 refine Wu.pr ?_;simp only[kT,Q,a6,aH,np,aJ,a8,gF,A,bo,G];exact aZ (by simp_all) (by grind[bE])
def known(bound:List k)(a:aM):Bool:=a.aB==[]||S (a.aB∈bound)
def iP(bound:List k)(a:Lit):Bool:=
 if(a.ak==1||a.ak==3)=ab then ab else
 if(a.ak==5&&a.op==1&&(Z a.ad:Int)==2)=ab then a.ad.any (known bound)else a.ad.all (known bound)
theorem DZ(bound:List k)(b:aM)(c:Sm bound):PR C 202 [eS V cS bound,.agg (cT b)] (.bool (known bound b)):=by
 refine Y3.pr ?_;simp only[ud,Q,a6,aH,nn,aJ,fF,bo,G];exact dx (λa=>f (xu _ _ c) (gU (by rw[known,a];rfl))) (λa=>hR (by rw[known,a];rfl))
theorem Ob:∀{a:List z}(_:Z a=2)(b:0<Z a)(c:1<Z a),a.any dG=(dG a[0]||dG a[1])
 |[d,e],_,_,_=>by simp
theorem acQ(bound:List k)(d:Lit)(j:Sm bound)(o:p9 d):PR C 194 [eS V cS bound,.agg (a5 F d)] (.bool (iP bound d)):=by
 refine Yg.pr ?_;simp only[nm,Q,a6,aH,oY,oc,xg,aJ,c9,a8];refine eh (N:=[]) (d.ak==1||d.ak==3) (λx e=>dx (λc=>kB e (by rw[c];rfl)) (λc=>kB e (by rw[c];rfl))) ?_;simp only[G];refine b (λc=>hR (by rw[iP,if_pos c])) (λc=>?_);rw[iP,if_neg (by grind)]
 refine eh (N:=[]) (d.ak==5&&d.op==1&&(Z d.ad:Int)==2) (λx e=>aZ (λc=>aZ (λh=>kB e (by rw[c,h];rfl)) (λh=>kB e (by rw[c,h];rfl))) (λc=>kB e (by rw[c];rfl))) ?_;simp only[G];refine b (λc=>?_) (λc=>?_)
 ·rw[if_pos c]
  have t:Z d.ad=2:=by
   simp only[bG,beq_iff_eq]at c;omega
  have m:0<Z d.ad:=by omega
  have n:1<Z d.ad:=by omega
  have s:d.ad.any (known bound)=(known bound d.ad[0]||known bound d.ad[1]):=Ob t m n;rw[s];have e0:=aC (V:=F) (a2:=cT) (o:=d.ad) (U:=0) (N:=[]) m (h8 _);have l:=aC (V:=F) (a2:=cT) (o:=d.ad) (U:=1) (N:=[]) n (h8 _);simp only[TB]at e0 l;simp only[e0,l,Q,ji,bo,G];refine f (DZ _ _ j) (dx (λc=>?_) (λc=>hR (by rw[c];rfl)));exact f (DZ _ _ j) (gU (by rw[c];rfl))
 ·rw[if_neg (by grind)]
  refine y5 (dG:=known bound) (fN:=λz p=>aI p .res z (.bool (d.ad.all (known bound)))) o (λH B=>⟨λc w u=>?_,λc v=>?_⟩) (λc=>hR c) (λc=>bE c)
  ·simp only[Q,i,G,A,a,c,decide_true,aC c (h8 _),ji]
   refine a7 (f (DZ _ _ j) ?_);simp only[bD,Q];refine c8 u (λr=>?_);rw[Sm.inc o c,Q];exact w r
  ·simp only[Q,i,G,A,a]
   exact bq v (by simp;omega)
def HR(C:eD)(e:Nat)(args:List AV)(c:List Obj)(d:AV->List Obj->Prop):Prop:=∃b a,C e args c b a/\d b a
theorem cY{args:List AV}{c:AV->List Obj->Prop}(d:HR C U args N fN)(g:args.map AV.pl=args)(h:∀b a,fN b a->c b a):ch C U args N c:=by
 obtain⟨b,a,e,f⟩:=d;exact⟨b,a,g.symm▸e,h _ _ f⟩
variable{pE:List Obj -> (AV -> List Obj -> Prop) -> Prop}
def Oc(d:List Obj)(id:Nat)(b:List k)(f:AV)(c:List Obj):Prop:=∃a e,f=.q id a 0 (Z b)/\c=aY (d++e) id 1 cS a b
theorem Od{id:Nat}(a:List k)(c:k)(d:id<Z N)(h:Z a<1099511627776):
 HR C 76 [.q id U 0 (Z a),.str c] (aY N id 1 cS U a) (Oc N id (dR a c)):=by
 refine Zs.hq ?_;simp only[eA,dZ,xw d];have f:id<Z (N++[Obj.arr 0 1 []]):=by simp;omega
 refine ea _ (xu a c h) (.ck (l7 (oo f) (by simp)) (.ck (.str _ _) (.nil _))) (.bool _) ?_;refine eh (N:=aY (N++[Obj.arr 0 1 []]) id 1 cS U a) (c==[]||S (c∈a)) (λj g=>?_) ?_
 ·simp only[fF,Q]
  exact dx (λd=>kB g (by rw[d];rfl)) (λd=>kB g (by rw[d];rfl))
 simp only[G];refine b (λe=>?_) (λe=>?_)
 ·refine⟨U,[.arr 0 1 []],?_,?_⟩<;>rw[show dR a c=a by simp at e;simp[dR,e]]
  rfl
 ·rw[xt,Q]
  refine NU f h ⟨U+1,[.arr 0 1 []],?_,?_⟩<;>rw[show dR a c=a++[c]by simp at e;simp[dR,e]]
  rfl
theorem acR(J:List Obj->Prop)(a:List cn)(f:List z->cn->List z)(d:List z)(id j:Nat)(i:z->List AV)(m:Nat)
 (s:J N)(t:[.q id m 0 (Z d),I ((0:Nat):Int)]=bg)(r:aY N id j i m d=ey)
 (step:∀c(n:c<Z a)(h:List z)(e:Nat)(N:List Obj)(g:List AV->List Obj->Prop),J N->h=(a.take c).foldl f d->(∀l k,J k->g [.q id l 0 (Z (f h a[c])),I ((c+1:Nat):Int)] (aY k id j i l (f h a[c])))->ja [.q id e 0 (Z h),I c] (aY N id j i e h) g)
 (last:∀(e:Nat)(N:List Obj)(g:List AV->List Obj->Prop),J N->ja [.q id e 0 (Z (a.foldl f d)),I (Z a)] (aY N id j i e (a.foldl f d)) g):iC ja bg ey:=by
 refine bB (z:=Nat×Nat×List Obj) (λb=>[.q id b.2.1 0 (Z ((a.take b.1).foldl f d)),I b.1]) (λb=>aY b.2.2 id j i b.2.1 ((a.take b.1).foldl f d)) (λb=>Z a -b.1) (λb=>b.1<=Z a/\J b.2.2) (0,m,N) ⟨by simp,s⟩ ?_ (by simpa using t) (by simpa using r);rintro⟨c,e,N⟩ ⟨v,o⟩ g p;simp only at v o p⊢;by_cases n:c<Z a
 ·refine step c n _ e N g o rfl λl k u=>?_
  have:=p (c+1,l,k) ⟨n,u⟩ (by simp;omega);grind[jB]
 grind
theorem Oe{id:Nat}(b:List k)(c:Lit)(n:id<Z N)(x:Z b+Z c.ad<1099511627776):
 HR C 75 [.q id U 0 (Z b),.agg (a5 V c)] (aY N id 1 cS U b) (Oc N id (cH b c.ad)):=by
 refine YF.hq ?_;simp only[nm,Q,eA,dZ,xw n,a6,aH,oc,aJ,a8];refine acR (λe=>∃d,e=N++d) c.ad (λf s=>dR f s.aB) b id 1 cS (N:=N++[.arr 0 1 []]) U ⟨_,rfl⟩ rfl rfl (λr l f h e m g o w=>?_) (λh e m g=>?_)
 ·obtain⟨d,rfl⟩:=g
  have j:=xr (c.ad.take r) b;simp only[cH]at j;rw[<-o,gb]at j;simp only[Q,i,G,A,a,l,decide_true,aC l (h8 _),a6,aH];refine a7 (cY (Od f _ (by simp;omega) (by omega)) rfl λy t p=>?_);obtain⟨v,u,rfl,rfl⟩:=p;rw[ba,Q];grind
 ·obtain⟨d,rfl⟩:=g
  simp only[Q,i,G,A,a,ca,decide_false];exact bq ⟨h,d,rfl,rfl⟩
theorem acS(a b c d h i g e f j:Bool)(k:(a&&f&&e&&d&&b&&c)=aa):(a&&b&&c&&d&&h&&i&&g&&e&&(f&&j))=false:=by
 grind
theorem acT(a b c d e f g h i j:Bool)(k:(a&&i&&h&&d&&b&&c)=ab):(a&&b&&c&&d&&e&&f&&g&&h&&(i&&j))=(e&&(f&&g)&&j):=by
 grind
theorem Hq(b:aG)(e:oh b):PR C 231 [.agg (aP V b)] (.bool (l6 b)):=by
 refine ZQ.pr ?_;have j:l6 b=(!S (b.bf<0)&& !S (b.af.ak<0)&& !S (3<b.af.ak)&&(b.ar==[]||bV b.ar)&&(!(b.ar==[])|| !(S (0<(Z b.ad:Int))|| !(b.af.ak==0)))&&
  (if(b.af.ak==1||b.af.ak==3)=ab then bV b.af.ar else b.af.ar==[])&&(if(b.af.ak==2||b.af.ak==3)=ab then isVar b.af.aB else b.af.aB==[])&&
  ek 4 ic b.ad&&(!S (8<(Z b.ae:Int))&&b.ae.all mC)):=by
  rw[<-kr,<-kr,<-kr,<-kr];rfl
 generalize l6 b=v at*;simp only[l3,Q,a6,aH,GK,sS,AQ,Mn,AR,od,yQ,aJ,fo,Nat.reduceAdd,a8,A,er,c9,cd,fF,ib];refine eh (N:=[]) (!(!S (b.bf<0)&& !S (8<(Z b.ae:Int))&&ek 4 ic b.ad&&(b.ar==[]||bV b.ar)&& !S (b.af.ak<0)&& !S (3<b.af.ak))) (λm k=>?_) ?_
 ·refine dy (by grind) (λw=>dy (by grind) (λh=>f (NI _ e.1) ?_))
  simp only[bD,Q];refine gV (λx=>f (NJ _ _) ?_) (by grind);simp only[bD,Q,cu];refine gV (λy=>?_) (by grind);exact dy (by grind) (λz=>kB k (by grind))
 simp only[G];refine c8 (by grind[bE,acS]) (λc=>?_);rw[acT _ _ _ _ _ _ _ _ _ _ c]at j;clear c;refine eh (N:=[]) (b.af.ak==1||b.af.ak==3) (by grind[dx]) ?_;refine eh (N:=[]) (b.af.ak==2||b.af.ak==3) (by grind[dx]) ?_;generalize(b.af.ak==1||b.af.ak==3)=l at*;generalize(b.af.ak==2||b.af.ak==3)=g at*;simp only[G,bD,Q]
 refine eh (N:=[]) (!((if l=ab then bV b.af.ar else b.af.ar==[])&&(if g=ab then isVar b.af.aB else b.af.aB==[]))) (λm k=>?_) ?_
 ·cases l<;>cases g
  ·refine aZ (by grind) (λ_=>aZ (λ_=>gV (by grind[aZ]) (by grind)) (by grind))
  ·refine aZ (by grind) (λ_=>aZ (λ_=>gV (λc=>aZ (λ_=>f (DL _) ?_) (by grind)) (by grind)) (by grind))
   simp only[bD,Q];exact gV (by grind[aZ]) (by grind)
  ·refine aZ (λ_=>f (qY _) ?_) (by grind)
   simp only[bD,Q];exact gV (by grind[aZ]) (by grind)
  ·refine aZ (λ_=>f (qY _) ?_) (by grind)
   simp only[bD,Q];refine gV (λc=>aZ (by grind) (λ_=>aZ (λ_=>f (DL _) ?_) (by grind))) (by grind);simp only[bD,Q];exact gV (by grind[aZ]) (by grind)
 generalize((if l=ab then bV b.af.ar else b.af.ar==[])&&(if g=ab then isVar b.af.aB else b.af.aB==[]))=W at*;simp only[G];refine c8 (by simp_all) (λc=>?_);refine eh (N:=[]) (!(!(b.ar==[])|| !(S (0<(Z b.ad:Int))|| !(b.af.ak==0)))) (λm k=>?_) ?_
 ·refine aZ (λc=>dy (by grind) (λh=>by simp_all[bne])) (by grind)
 simp only[G];refine c8 (by simp_all) (λh=>?_);rw[c,h,cu,cu]at j;rw[j];refine y5 (fN:=λs n=>aI n .res s (.bool (b.ae.all mC))) e.2.1 (λB t=>⟨λc r p=>?_,λc q=>?_⟩) (λc=>hR c) (λc=>bE c)
 ·simp only[Q,i,G,A,a,c,decide_true,aC c (h9 _ _),l1]
  refine a7 (f (aci _ (e.2.2 _ (bs c))) ?_);simp only[bD,Q];refine c8 p (λo=>?_);rw[e.2.1.inc c,Q];exact r o
 ·simp only[Q,i,G,A,a]
  exact bq q (by simp;omega)
theorem fx{id:Nat}(b:N[id]?=T (.arr O U (o.map a2)))(c:∀a∈o,bO (a2 a)):aI N .res (.q id O 0 (Z o)) (eS aa a2 o):=by
 refine .na id O 0 (Z o) U (o.map a2) _ b (by simp) ?_;rw[jR,fW (by simp)];have:n9 (o.map a2):=by
  clear b;induction o with
  |nil=>exact .nil
  |cons a o d=>exact .cons _ _ (c a (by simp)) (by grind)
 exact this.snap
theorem Bn{id:Nat}(a:N[id]?=T (.arr U O bS))(c:bS[y]?=T [Y])(d:E.pl.cells=[E])(b:E.bP=ab):df 1 (.ptr id U y 0) E N=T (N.set id (.arr U O (bS.set y [E]))):=by
 grind[df,eV]
theorem qj{bytes:Nat}(a:O*bytes<=2^47)(b:O<2^47):tZ U bg bytes (I O) (I O) N=T (.q (Z N) 0 0 O,N++[.arr 0 U (List.replicate O bg)]):=by
 grind[tZ]
theorem acU(a:List k)(b:List Obj)(c:Z a<1099511627776):C 193 [eS V cS a] b (.q (Z b+1) 0 0 (Z a)) (b++[.arr 0 1 [],.arr 0 1 (a.map cS)]):=by
 refine Xz.hr ?_;simp only[eA,dZ];refine bj (nu rfl (r8 g5 _ _ _) (by omega)) ?_;simp
def fK(c:aG):List k:=c.ae.foldl (λa b=>cH a b.ad) []
def mF(a:List k)(b:Lit):List k:=if(b.ak==1)=ab then dR a b.bind else a
def ie(a:aG):List k:=a.ae.foldl mF []
theorem D0:∀(b:List Lit)(a:List k),Z (b.foldl (λa b=>cH a b.ad) a)<=Z a+Z (b.map Lit.ad).flatten
 |[],a=>by simp
 |x::b,a=>by
  have c:=xr x.ad a;have d:=D0 b (cH a x.ad);grind
theorem acV(a:List k)(b:Lit):Z (mF a b)<=Z a+1:=by
 grind[mF,NY]
theorem D1:∀(b:List Lit)(a:List k),Z (b.foldl mF a)<=Z a+Z b
 |[],a=>by simp
 |x::b,a=>by
  have c:=acV a x;have d:=D1 b (mF a x);grind
def j6(a:aG):Prop:=Z a.ae<=100/\Z (a.ae.map Lit.ad).flatten<=1000/\Z a.ad<=100/\∀b∈a.ae,Z b.ad<=1000
theorem j6.take(b:j6 u)(a:Nat):Z ((u.ae.take a).map Lit.ad).flatten<=1000:=by
 have c:Z (u.ae.map Lit.ad).flatten=Z ((u.ae.take a).map Lit.ad).flatten+Z ((u.ae.drop a).map Lit.ad).flatten:=by
  rw[<-fb,<-zQ,<-ht,vg]
 have:=b.2.1;omega
theorem Hv(c:aG)(m:j6 c):PR C 27 [.agg (aP V c)] (.aE [eS aa cS (fK c),eS aa cS (ie c)]):=by
 refine Zl.pr ?_;simp only[l3,Q,dZ,eA,a6,aH,od,aJ,a8,c3,de,fm,iJ]
 refine bB (λd=>[.q 2 d.2.1 0 (Z ((c.ae.take d.1).foldl (λf h=>cH f h.ad) [])),.q 3 d.2.2.1 0 (Z ((c.ae.take d.1).foldl mF [])),I d.1]) (λd=>aY (aY d.2.2.2 3 1 cS d.2.2.1 ((c.ae.take d.1).foldl mF [])) 2 1 cS d.2.1 ((c.ae.take d.1).foldl (λf h=>cH f h.ad) [])) (λd=>Z c.ae -d.1) (λd=>d.1<=Z c.ae/\3<Z d.2.2.2) (0,0,0,[.arr 0 1 [],.arr 0 1 [],.arr 0 1 [],.arr 0 1 []]) ⟨by simp,by simp⟩ ?_
 rintro⟨e,n,o,k⟩ ⟨w,j⟩ E p;simp only at w j p⊢;by_cases g:e<Z c.ae
 ·have x:=D0 (c.ae.take e) []
  have y:=D1 (c.ae.take e) [];have N:=m.take e;have M:=m.2.2.2 _ (bs g);have K:=m.1;simp only[de,aJ,gb]at x y;have z:=λn o k j=>p (e+1,n,o,k) ⟨g,j⟩ (by simp;omega);simp only[jB g]at z;generalize(c.ae.take e).foldl (λf h=>cH f h.ad) []=r at*;generalize(c.ae.take e).foldl mF []=s at*;simp only[Q,i,G,A,a,g,decide_true,aC g (h9 _ _),l1,a6,aH,oY,yP,c9,bo,aJ]
  refine a7 (cY (Oe r c.ae[e] (by rw[nt];omega) (by omega)) rfl λB t l=>?_);obtain⟨H,u,rfl,rfl⟩:=l;rw[xw j];have L:3<Z (k++u):=by simp;omega
  refine b (λv=>?_) (λv=>?_)
  ·rw[uB (by decide)]
   refine cY (Od s _ (by rw[nt];omega) (by omega)) rfl λB t l=>?_;obtain⟨J,F,rfl,rfl⟩:=l;rw[xw (by omega),uB (by decide),ba,Q];grind[mF]
  ·rw[ba,Q]
   grind[mF]
 ·have:e=Z c.ae:=by omega
  subst this;simp only[Q,i,G,A,a,ca,decide_false,dB];refine bq (.aE _ _ _ (.ck (fx (oo (by rw[nt];omega)) (by simp)) (.ck (fx (U:=1) ?_ (by simp)) (.nil _))));grind[uB,oo,nt]
def lJ(b:List Lit)(out:List Nat)(bound:List k)(a:Nat):Bool:= !S (a∈out)&&(match b[a]? with|some c=>iP bound c|none=>aa)
def vV(a:List Lit)(out:List Nat)(bound:List k):Option Nat:=(List.range (Z a)).find? (lJ a out bound)
def xx(a:List Lit)(b:Nat):List aM:=(a[b]?.map Lit.ad).getD []
def mG(a:List Lit):Nat->List Nat->List k->Option (List Nat)
 |0,out,_=>T out
 |n+1,out,bound=>match vV a out bound with|none=>D|some b=>mG a n (out++[b]) (cH bound (xx a b))
def ord(a:List Lit)(bound:List k):Option (List Nat):=mG a (Z a) [] bound
def cN(a:Nat):List AV:=[I (a:Int)]
@[simp] theorem Of(a:Nat):bO (cN a):=by simp[cN]
@[simp] theorem amX(a:Bool)(b:List Nat):Im (eS a cN b):=kP Of a b
@[simp] theorem Og(a:Nat):Z (cN a)=1:=rfl
@[simp] theorem Oh(a:Nat):(cN a)[0]?=T (I (a:Int)):=rfl
def l9(a:Option (List Nat)):AV:=match a with|some a=>.aE [eS aa cN a,I 0]|none=>.aE [eS aa cN [],I 80]
theorem Bo(a:Nat):fw 1 [(I 0)] 1 [(0,I (a:Int))]=T (.sl aa [cN a]):=rfl
theorem Oi(f:Nat)(e:Nat->Bool)(m:[I (-1),I ((0:Nat):Int)]=bg)
 (step:∀a(d:List AV->List Obj->Prop),a<f->(e a=ab->d [I (a:Int),I ((a+1:Nat):Int)] N)->(e a=aa->d [I (-1),I ((a+1:Nat):Int)] N)->ja [I (-1),I a] N d)
 (done:∀a(d:List AV->List Obj->Prop),a<f->e a=ab->(∀c,c<a->e c=aa)->ja [I (a:Int),I ((a+1:Nat):Int)] N d)
 (D:(∀c,c<f->e c=aa)->∀d:List AV->List Obj->Prop,ja [I (-1),I f] N d):iC ja bg N:=by
 refine bB (z:=Nat×Bool) (λb=>if b.2=ab then[I ((b.1 -1:Nat):Int),I b.1]else[I (-1),I b.1]) (λ_=>N) (λb=>if b.2=ab then 0 else f+1 -b.1) (λb=>b.1<=f/\(b.2=ab->0<b.1/\e (b.1 -1)=ab/\∀c,c<b.1 -1->e c=aa)/\(b.2=aa->∀c,c<b.1->e c=aa)) (0,aa) ⟨by omega,by simp,by simp⟩ ?_ (by simpa using m) rfl;rintro⟨a,k⟩ ⟨n,i,g⟩ d h;simp only at n i g h⊢;cases k with
 |true=>
  obtain⟨p,q,r⟩:=i rfl;obtain⟨j,rfl⟩:∃j,a=j+1:=⟨a -1,by omega⟩;grind
 |false=>
  have g:=g rfl;by_cases l:a<f
  ·refine step a d l (λo=>?_) (λo=>?_)
   ·have:=h (a+1,ab) (by grind) (by simp;omega)
    grind
   ·have:=h (a+1,aa) (by grind) (by simp;omega)
    grind
  grind
variable{jb:List Lit}
theorem Oj{out:List Nat}{bound:List k}(b:U<Z jb)(d:lJ jb out bound U=ab)(c:∀a,a<U->lJ jb out bound a=aa):vV jb out bound=T U:=by
 simp_all[vV]
theorem Ol{out:List Nat}{bound:List k}(b:∀a,a<Z jb->lJ jb out bound a=aa):vV jb out bound=none:=by
 grind[vV]
def fj(b:Nat)(out:List Nat):List Bool:=(List.range b).map λa=>S (a∈out)
theorem Om(a:Nat):fj a []=List.replicate a false:=by
 apply sH<;>simp[fj]
theorem D2{out:List Nat}(a:O<U):((fj U out).map cB)[O]?=T [.bool (S (O∈out))]:=by
 simp[fj,a,cB]
theorem On{out:List Nat}:((fj U out).map cB).set O [tt]=(fj U (out++[O])).map cB:=by
 apply sH
 ·simp[fj]
 grind[fj,cB,absurd]
theorem Oo(c:aG)(bound:List k)(w:j6 c)(W:Z bound<=1000):PR C 123 [.agg (aP V c),eS F cS bound] (l9 (ord c.ae bound)):=by
 refine YS.pr ?_;simp only[l3,Q,dZ,eA,c3,de];refine oZ _ (acU bound _ (by omega)) ?_;have be:=w.1;simp only[a6,aH,od,aJ,Q,a8];refine bj (qj (by omega) (by omega)) ?_;simp only[fm,c3,iJ,de,aJ,Nat.reduceAdd];have ac:List.replicate (Z c.ae) [ff]=(fj (Z c.ae) []).map cB:=by rw[Om];simp[cB]
 rw[ac]
 refine bB (z:=List Nat×List k×Nat×Nat×List Obj) (λd=>[.q 0 0 0 0,I 0,.q 2 d.2.2.1 0 (Z d.2.1),.q 4 d.2.2.2.1 0 (Z d.1)]) (λd=>aY (aY (aY d.2.2.2.2 2 1 cS d.2.2.1 d.2.1) 3 1 cB 0 (fj (Z c.ae) d.1)) 4 1 cN d.2.2.2.1 d.1) (λd=>Z c.ae -(Z d.1)) (λd=>Z d.1<=Z c.ae/\5<=Z d.2.2.2.2/\Z d.2.1<=1000+Z d.1*1000/\ord c.ae bound=mG c.ae (Z c.ae -(Z d.1)) d.1 d.2.1) ([],bound,0,0,[.arr 0 1 [],.arr 0 1 [],.arr 0 1 [],.arr 0 1 [],.arr 0 1 []]) ⟨by simp,by simp,by simpa using W,by simp[ord]⟩ ?_
 rintro⟨out,f,h,l,j⟩ ⟨af,Y,p,n⟩ K J;simp only at af Y p n J⊢;simp only[i,G,nj,Q,A,a];refine b (λm=>?_) (λm=>?_)
 ·have m:Z out<Z c.ae:=by simpa using m
  rw[show Z c.ae -(Z out)=(Z c.ae -(Z out+1))+1 by omega,mG]at n;have o:(aY (aY (aY j 2 1 cS h f) 3 1 cB 0 (fj (Z c.ae) out)) 4 1 cN l out)[3]?=T (.arr 0 1 ((fj (Z c.ae) out).map cB)):=by grind[N2,nt]
  have y:(aY (aY (aY j 2 1 cS h f) 3 1 cB 0 (fj (Z c.ae) out)) 4 1 cN l out)[2]?=T (.arr h 1 (f.map cS)):=by
   have:(aY (aY (aY j 2 1 cS h f) 3 1 cB 0 (fj (Z c.ae) out)) 4 1 cN l out)[2]?=(aY (aY j 2 1 cS h f) 3 1 cB 0 (fj (Z c.ae) out))[2]?:=by simp[aY]
   rw[this];exact N2 (by decide) (by omega)
  generalize U:aY (aY (aY j 2 1 cS h f) 3 1 cB 0 (fj (Z c.ae) out)) 4 1 cN l out=r at y o⊢;refine Oi (Z c.ae) (lJ c.ae out f) rfl (λe x g H p=>?_) (λe x g ah v=>?_) (λv x=>?_)
  ·simp only[bo,Q,i,G,A,a,g,decide_true]
   refine aZ (λ_=>a7 ?_) (λm=>by cases m);simp only[e3 o g,Q,cr o (D2 g),cv,bD,aC g (h9 _ _),l1];have X:lJ c.ae out f e=(!S (e∈out)&&iP f c.ae[e]):=by
    rw[lJ,bC g]
   rw[X]at H p;refine aZ (λs=>ea _ (acQ f c.ae[e] (by unfold Sm;omega) (by have:=w.2.2.2 _ (bs g);unfold p9 Sm;omega)) (.ck (l7 y (by simp)) (.ck cy (.nil _))) (.bool _) ?_) (λs=>bq ?_)
   ·refine b (λt=>?_) (λt=>?_)
    ·rw[ba,Q];exact H (by rw[s,t];rfl)
    ·rw[ba,Q];exact p (by rw[s,t];rfl)
   ·rw[ba,Q];exact p (by rw[s];rfl)
  ·have z:S ((e:Int)<0)=false:=by simp
   have E:dY (.bool (S ((e:Int)<0))) (cc (T (AV.q (Z r) 0 0 0,r++[.arr 0 1 []])) λau O=>aI O .res (.aE [au.pl,(I 80).pl]) (l9 (ord c.ae bound)))
    (bd (bY 1 (.q 3 0 0 (Z c.ae)) (I e) r) λax=>bd (df 1 ax tt r) λu=>bd (bY 9 (eS V (a5 V) c.ae) (I e) u) λaB=>bd (aR 9 ab aB u) λaQ=>ch C 75 [.q 2 h 0 (Z f),aQ] u λa0 P=>bd (fw 1 [I 0] 1 [(0,I e)]) λa3=>cc (cx 1 8 (.q 4 l 0 (Z out)) a3 P) λa4 R=>K [.q 0 0 0 0,I 0,a0,a4] R):=by
    refine bq ?_ z;rw[e3 o g,Q,Bn o (D2 g) rfl rfl,Q,On,<-U];have aq:(aY (aY (aY j 2 1 cS h f) 3 1 cB 0 (fj (Z c.ae) out)) 4 1 cN l out).set 3 (.arr 0 1 ((fj (Z c.ae) (out++[e])).map cB))=aY (aY (aY j 3 1 cB 0 (fj (Z c.ae) (out++[e]))) 4 1 cN l out) 2 1 cS h f:=by
     rw[show(aY (aY (aY j 2 1 cS h f) 3 1 cB 0 (fj (Z c.ae) out)) 4 1 cN l out).set 3 (.arr 0 1 ((fj (Z c.ae) (out++[e])).map cB))=aY (aY (aY (aY j 2 1 cS h f) 3 1 cB 0 (fj (Z c.ae) out)) 4 1 cN l out) 3 1 cB 0 (fj (Z c.ae) (out++[e]))from rfl];grind[uB,id,NX]
    rw[aq];simp only[aC g (h9 _ _),Q,l1];have bi:=w.2.2.2 _ (bs g);have bf:Z out*1000<=100*1000:=by omega
    refine cY (Oe f c.ae[e] (by grind[nt]) (by omega)) rfl λbw a9 ak=>?_;obtain⟨N,L,rfl,rfl⟩:=ak;rw[Bo,Q,xw (by rw[nt];omega),xw (by omega),uB (id:=4) (O:=2) (by decide)];refine xq (a2:=cN) (by grind[nt,List.length_append]) rfl (by omega) ?_;rw[uB (id:=3) (O:=2) (by decide)];have B:Z (out++[e])=Z out+1:=by simp
    have br:=xr c.ae[e].ad f;refine J (out++[e],cH f c.ae[e].ad,N,l+1,j++L) ⟨by simp;omega,by simp;omega,by simp only[B];omega,?_⟩ (by simp;omega);rw[Oj g ah v]at n;rw[n,B];simp[xx,g]
   simp only[bo,Q,i,G,A];refine aZ (λ_=>bq E z) (λ_=>bq E)
  ·simp only[bo,Q,i,G,A,a,ca,decide_false]
   refine aZ (λm=>by cases m) (λ_=>bq (a7 ?_));rw[n,Ol v];refine .aE _ _ _ (.ck ?_ (.ck (.int _ _ _) (.nil _)));exact fx (o:=([]:List Nat)) (a2:=cN) (U:=1) (O:=0) (by simp) (by simp)
 ·have m:Z c.ae -(Z out)=0:=by simp at m;omega
  rw[n,m,mG];refine .aE _ _ _ (.ck ?_ (.ck (.int _ _ _) (.nil _)));exact fx (oo (by simp only[nt];omega)) (by simp)
def uD(a:aG):Bool:=(ord a.ae []).isSome&&a.ad.all (known (fK a))&&((a.af.ak !=2)&&(a.af.ak !=3)||S (a.af.aB∈ie a))
def q4(a:List (Int×Int))(b:aG):List (Int×Int):=if uD b=ab then a else a++[(80,b.bf)]
def nA(a:aj):List (Int×Int):=a.ah.foldl q4 []
theorem j6.Oq(a:j6 u):Z (fK u)<=1000:=by
 have:=D0 u.ae [];have:=a.2.1;grind[fK]
theorem j6.lvl(a:j6 u):Z (ie u)<=100:=by
 have:=D1 u.ae [];have:=a.1;grind[ie]
theorem vW(a b:Int):fw 2 [(I 0),(I 0)] 1 [(0,.agg [I a,I b])]=T (.sl aa [bX (a,b)]):=rfl
theorem uE(a b:Int):ko [(I 0),(I 0)] [(0,1,I a),(1,1,I b)]=T [I a,I b]:=rfl
theorem acW(b:aG)(d:j6 b):PR C 136 [.agg (aP V b)] (.bool (uD b)):=by
 refine YW.pr ?_;simp only[l3,Q,a6,aH,kR,sS,AQ,AR,aJ,fo,Nat.reduceAdd,a8,cd];refine⟨.c4,[.agg (aP V b),eS aa cS []],l9 (ord b.ae []),by decide,?_,Oo b [] d (by simp),by simp,?_⟩
 ·exact .ck cy (.ck (.ai _ _) (.nil _))
 rw[uD];cases o:ord b.ae []with
 |none=>
  simp only[l9,ef,cv,dk,Q,cd];exact a7 (bE rfl)
 |some r=>
  simp only[l9,ef,cv,dk,Q,cd,mS,cu];refine bq (f (Hv b d) ?_);simp only[cv,dk,Q];have p:=d.Oq;have n:=d.lvl;refine et (U:=Z b.ad) (c:=λe=>[ff,I e]) (λe=>(b.ad.take e).all (known (fK b))=ab) (by simp) rfl (λe j h k m=>?_) (λh k=>?_)
  ·simp only[Q,i,G,A,a,j,decide_true,aC j (h8 _),ji]
   refine a7 (f (DZ _ _ (by unfold Sm;omega)) ?_);simp only[bD,Q];refine c8 (by grind[bE,uz]) (λc=>?_);rw[ba (by have:=d.2.2.1;omega),Q];grind[mD]
  ·rw[dB]at h
   simp only[Q,i,G,A,a,ca,decide_false,bo];rw[h,cu];refine bq (aZ (λc=>dx (λg=>?_) (λg=>hR (by rw[c,g];rfl))) (λc=>?_))
   ·exact f (xu _ _ (by unfold Sm;omega)) (gU (by rw[c,g];rfl))
   ·exact f (xu _ _ (by unfold Sm;omega)) (gU (by rw[c];rfl))
theorem Hw:∀(b:List aG)(a:List (Int×Int)),Z (b.foldl q4 a)<=Z a+Z b
 |[],a=>by simp
 |r::b,a=>by
  have:=Hw b (q4 a r);grind[q4]
theorem Ot(b:aj)(t:Z b.ah<=20)(n:∀p∈b.ah,j6 p):PR C 70 [.agg (cP V F b)] (eS aa bX (nA b)):=by
 refine Wr.pr ?_;simp only[dS,Q,dZ,eA,a6,aH,mz,aJ,a8,c3,de,fm,iJ];refine s4 b.ah q4 [] 1 2 bX (N:=[.arr 0 2 [],.arr 0 2 []]) 0 rfl (by simp[aY]) (λo d g h e k s=>?_) (λh e=>?_)
 ·have l:=Hw (b.ah.take o) []
  rw[<-k,gb,de]at l;have m:=bs d;simp only[Q,i,G,A,a,d,decide_true,nj,bo,aC d (kQ _ _),kR,a6,aH,yQ,aJ];have j:S ((Z g:Int)<20)=true:=by simp;omega
  refine aZ (λ_=>a7 (f (acW _ (n _ m)) ?_) j) (λc=>by cases c);simp only[bD,Q];refine c8 (λc=>?_) (λc=>?_)
  ·rw[uE,Q,vW,Q]
   refine xq (a2:=bX) (by simp) rfl (by omega) ?_;rw[ba,Q];grind[q4]
  ·rw[ba,Q]
   grind[q4]
 ·simp only[Q,i,G,A,a,ca,decide_false,bo]
  exact aZ (λc=>by cases c) (λ_=>bq (y7 (by simp) (by simp)))
abbrev qk:KD:=⟨aa,1,[1]⟩
def hS(a:List k):List AV:=a.map AV.str
def q5(a:List k):List AV:=List.replicate (Z a) (.agg [])
def nB(a:List k):AV:=.iu (hS a) (q5 a)
def nC(a:List k):Obj:=.mp ab (hS a) (q5 a)
theorem q6(a b:k):qk.eq (.str a) (.str b)=T (a==b):=rfl
theorem q7(c:k):∀(b:List k)(a:Nat),qk.find (.str c) (hS b) a=T ((b.findIdx? (c==·)).map (· +a))
 |[],a=>rfl
 |x::b,a=>by
  rw[hS,eJ,KD.find,q6,Cs];cases d:c==x with
  |true=>simp
  |false=>
   simp only[cZ,if_false];have:=q7 c b (a+1);rw[hS]at this;rw[this]
   congr 1
   cases b.findIdx? (c==·)<;>simp;omega
theorem Ou(b:k)(a:List k):(a.findIdx? (b==·)).isSome=S (b∈a):=by
 grind
theorem acX(a:U<Z x):(q5 x)[U]?=T (.agg []):=by simp[q5,a]
theorem acY(a:k)(c:kO N Y=T (hS x,q5 x)):hC qk (.agg []) ab Y (.str a) N=T (.aE [.agg [],.bool (S (a∈x))]):=by
 have d:=Ou a x;simp only[hC,c,q6,mS,if_true,q7];cases b:x.findIdx? (a==·)with
 |none=>
  grind
 |some e=>
  rw[b]at d;have f:e<Z x:=by
   have:=nW.1 b;exact this.1
  simp_all[iA,fo,acX,decide]
theorem acZ(a:List k)(b:Nat):(q5 a).set b (.agg [])=q5 a:=by
 simp_all[q5]
def ql(a:List k)(b:k):List k:=if b∈a then a else a++[b]
theorem D3{id:Nat}(a:k)(b:N[id]?=T (nC x)):jg qk (.b5 id) (.str a) (.agg []) N=T (N.set id (nC (ql x a))):=by
 have c:=Ou a x;simp only[jg,b,nC,xc,q6,mS,if_true,q7,yM];cases d:x.findIdx? (a==·)with
 |none=>
  simp_all[ql,hS,q5,akJ]
 |some e=>
  simp_all[iA,fo,acZ,ql]
theorem s6(a:List k):bO (hS a):=by
 unfold hS;induction a with
 |nil=>exact .nil
 |cons c a b=>simp_all
theorem Hy(a:List k):bO (q5 a):=by
 unfold q5;induction a with
 |nil=>exact .nil
 |cons c a b=>exact .cons _ _ (.agg _ .nil) b
theorem Hz(a:List k)(b:List Obj):aI b .c4 (nB a) (nB a):=.ys _ _ _ _ (s6 a).snap (Hy a).snap
theorem D4{id:Nat}(a:N[id]?=T (nC x)):aI N .cm (.b5 id) (nB x):=.wU id ab _ _ _ _ a (s6 x).snap (Hy x).snap
def sa(b c:List k):Prop:=∀a,a∈b<->a∈c
variable{fL:List k}
theorem sa.known(b:sa x fL)(a:aM):known x a=known fL a:=by
 simp only[Go.AM.known,b a.aB]
theorem ac0(a:List k):(nB a).pl=nB a:=rfl
theorem HA(a:List k)(b:aM):PR C 114 [nB a,.agg (cT b)] (.bool (!known a b)):=by
 refine aad.pr ?_;have d:=acY (Y:=nB a) (N:=[]) b.aB rfl;simp only[ud,Q,a6,aH,nn,aJ,d,ef,cv,dk,ib,bD,bo,G];refine aD rfl ?_;refine y4 (λc=>gU ?_) (λc=>bE ?_)
 ·rw[known,c];rfl
 grind[known]
theorem D5(a:List k)(b:aM):fa C (.fn 114 [nB a] []) (.agg (cT b)) (.bool (!known a b)):=by
 refine⟨114,[nB a,.agg (cT b)],rfl,HA a b,λc=>?_⟩;exact .ck (Hz a c) (.ck cy (.nil _))
theorem HB(a:List k):gT (.fn 114 [nB a] []):=
 ⟨rfl,λb=>.fn _ _ _ _ _ _ (.ck (Hz a b) (.nil _)) (.nil _)⟩
theorem HC(a:List z)(b:z->Bool):(!a.any λc=> !b c)=a.all b:=by
 grind
theorem ac1(c:List k)(a:Lit)(l:p9 a):PR C 171 [nB c,.agg (a5 V a)] (.bool (iP c a)):=by
 refine aam.pr ?_;simp only[nm,Q,a6,aH,oY,oc,xg,aJ,c9,a8,ac0];refine eh (N:=[]) (a.ak==1||a.ak==3) (λm i=>dx (by grind) (by grind)) ?_;simp only[G];refine b (by simp_all[iP]) (λd=>?_);rw[iP,if_neg (by grind)];refine eh (N:=[]) (a.ak==5&&a.op==1&&(Z a.ad:Int)==2) (λm i=>aZ (λd=>aZ (by grind) (by grind)) (by grind)) ?_;simp only[G];refine b (λd=>?_) (λd=>?_)
 ·rw[if_pos d]
  have j:Z a.ad=2:=by
   simp only[bG,beq_iff_eq]at d;omega
  have g:0<Z a.ad:=by omega
  have h:1<Z a.ad:=by omega
  rw[Ob j g h];have e0:=aC (V:=V) (N:=[]) g (h8 _);have f:=aC (V:=V) (N:=[]) h (h8 _);simp only[TB]at e0 f;simp only[e0,f,Q,ji,bo,G,yM];refine(D5 c a.ad[0]).cp ?_;simp only[bD,Q,FC];refine dx (λd=>?_) (by simp_all);refine(D5 c a.ad[1]).cp ?_;simp only[bD,Q,FC];simp_all
 ·rw[if_neg (by grind)]
  refine⟨.c4,[eS V cT a.ad,.fn 114 [nB c] []],_,by decide,?_,Hg (HB c) a.ad l (λn _=>D5 c n),by simp,?_⟩
  ·exact .ck cy (.ck ((HB c).2 _) (.nil _))
  ·simp only[bD,Q,HC]
   exact gU rfl
def hI(a:List Obj)(id:Nat)(b:List k):List Obj:=a.set id (nC b)
theorem Ov{id:Nat}(a:id<Z N):(hI N id x)[id]?=T (nC x):=by simp[hI,a]
theorem HD{id:Nat}:Z (hI N id x)=Z N:=by simp[hI]
theorem Ow{id:Nat}:(hI N id x).set id (nC fL)=hI N id fL:=by simp[hI]
theorem D6{id:Nat}(a:id≠U):aY (hI N id x) U O a2 y o=hI (aY N U O a2 y o) id x:=by
 grind[aY,hI,List.set_comm]
theorem ac2(a:List k)(b:bH≠[]):dR a bH=ql a bH:=by
 grind[dR,ql]
theorem ac3{id:Nat}(e:List k)(c:Lit)(j:id<Z N)(o:Z c.ad<=1000):C 172 [.b5 id,.agg (a5 V c)] (hI N id e) (.aE []) (hI N id (cH e c.ad)):=by
 refine Xx.hr ?_;simp only[nm,Q,a6,aH,oc,aJ,a8];refine bB (z:=Nat) (λb=>[I b]) (λb=>hI N id (cH e (c.ad.take b))) (λb=>Z c.ad -b) (λb=>b<=Z c.ad) 0 (by simp) ?_;intro b n m l;simp only[G,A,Q,a];by_cases h:b<Z c.ad
 ·have g:=l (b+1) h (by omega)
  rw[cH,jB h]at g;simp only[h,decide_true,aC h (h8 _),Q,ji,vC,NS,ib,bo];refine a7 (c8 (λi=>?_) (λi=>?_))
  ·refine aD rfl ?_
   rw[D3 _ (Ov j),Q,Ow,ba,Q];have:dR ((c.ad.take b).foldl (λd f=>dR d f.aB) e) c.ad[b].aB=ql ((c.ad.take b).foldl (λd f=>dR d f.aB) e) c.ad[b].aB:=by
    exact ac2 _ (by simpa using i)
   rw[this]at g;exact g
  ·rw[ba,Q]
   have:dR ((c.ad.take b).foldl (λd f=>dR d f.aB) e) c.ad[b].aB=(c.ad.take b).foldl (λd f=>dR d f.aB) e:=by
    simp only[beq_iff_eq]at i;simp[dR,i]
   rw[this]at g;exact g
 ·have:b=Z c.ad:=by omega
  simp_all
def uF(a:List k):List k:=a.foldl ql []
theorem ac4(b:List k)(c a:k):a∈ql b c<->a∈b\/a=c:=by
 grind[ql]
theorem Ox(c:k):∀(b a:List k),c∈b.foldl ql a<->c∈a\/c∈b
 |[],a=>by simp
 |y::b,a=>by rw[oJ,Ox c b,ac4,cf,or_assoc]
theorem Oy(a:List k):sa (uF a) a:=λb=>by rw[uF,Ox];simp
theorem Oz(c:List k)(d:List Obj)(l:Z c<=1000000):C 162 [eS V cS c] d (.b5 (Z d)) (d++[nC (uF c)]):=by
 refine ZC.hr ?_;simp only[dZ,a8,Q];have g:Z d<Z (d++[Obj.mp ab [] []]):=by simp
 refine bB (z:=Nat) (λb=>[I b]) (λb=>hI (d++[.mp ab [] []]) (Z d) ((c.take b).foldl ql [])) (λb=>Z c -b) (λb=>b<=Z c) 0 (by simp) ?_ rfl (by simp[hI,nC,hS,q5]);intro b j i h;simp only[G,A,Q,a];by_cases e:b<Z c
 ·have f:=h (b+1) e (by omega)
  rw[jB e]at f;simp only[e,decide_true,aC e (g5 _),Q,aH,kp];refine a7 (aD rfl ?_);rw[D3 _ (Ov g),Q,Ow,ba,Q];exact f
 ·have:b=Z c:=by omega
  subst this;simp only[ca,decide_false,dB];exact bq ⟨rfl,by simp[hI,uF]⟩
theorem ac5(b:sa x fL)(a:List aM):sa (cH x a) (cH fL a):=by
 unfold cH;induction a generalizing x fL with
 |nil=>exact b
 |cons f a c=>
  refine c λd=>?_;unfold dR;have e:=b d;grind
theorem sa.iP(b:sa x fL)(a:Lit):iP x a=iP fL a:=by
 have:=funext b.known;grind[Go.AM.iP]
theorem sa.lJ(b:sa x fL)(a:List Lit)(out:List Nat):lJ a out x=lJ a out fL:=by
 funext c
 simp only[Go.AM.lJ];cases a[c]?<;>simp[b.iP]
theorem sa.mG(c:sa x fL)(b:List Lit):∀(a:Nat)(out:List Nat),mG b a out x=mG b a out fL:=by
 intro a;induction a generalizing x fL with
 |zero=>intro _;rfl
 |succ a d=>
  intro out;simp only[Go.AM.mG,vV,c.lJ];grind[List.range,Go.AM.lJ,ac5]
theorem OA(c:aG)(bound:List k)(y:j6 c)(ac:Z bound<=1000):PR C 115 [.agg (aP V c),eS F cS bound] (l9 (ord c.ae bound)):=by
 refine YM.pr ?_;simp only[l3,Q,dZ,eA,c3,de];refine oZ _ (Oz bound _ (by omega)) ?_;have af:=y.1;simp only[a6,aH,od,aJ,Q,a8];refine bj (qj (by omega) (by omega)) ?_;simp only[fm,c3,iJ,de,aJ,Nat.reduceAdd];have M:List.replicate (Z c.ae) [ff]=(fj (Z c.ae) []).map cB:=by rw[Om];simp[cB]
 rw[M];have ah:ord c.ae bound=mG c.ae (Z c.ae) [] (uF bound):=(Oy bound).mG _ _ _▸rfl;refine bB (λf=>[.q 0 0 0 0,I 0,.q 3 f.2.2 0 (Z f.1)]) (λf=>aY (aY (hI [.arr 0 1 [],.arr 0 1 [],.arr 0 1 [],.arr 0 1 []] 1 f.2.1) 2 1 cB 0 (fj (Z c.ae) f.1)) 3 1 cN f.2.2 f.1) (λf=>Z c.ae -(Z f.1)) (λf=>Z f.1<=Z c.ae/\ord c.ae bound=mG c.ae (Z c.ae -(Z f.1)) f.1 f.2.1) ([],uF bound,0) (by grind) ?_
 rintro⟨out,e,h⟩ ⟨ar,n⟩ Y W;simp only[i,G,nj,Q,A,a];refine b (λl=>?_) (λl=>?_)
 ·have l:Z out<Z c.ae:=by simpa using l
  rw[show Z c.ae -(Z out)=(Z c.ae -(Z out+1))+1 by omega,mG]at n;have p:(aY (aY (hI [.arr 0 1 [],.arr 0 1 [],.arr 0 1 [],.arr 0 1 []] 1 e) 2 1 cB 0 (fj (Z c.ae) out)) 3 1 cN h out)[2]?=T (.arr 0 1 ((fj (Z c.ae) out).map cB)):=rfl;have w:(aY (aY (hI [.arr 0 1 [],.arr 0 1 [],.arr 0 1 [],.arr 0 1 []] 1 e) 2 1 cB 0 (fj (Z c.ae) out)) 3 1 cN h out)[1]?=T (nC e):=rfl
  generalize E:aY (aY (hI [.arr 0 1 [],.arr 0 1 [],.arr 0 1 [],.arr 0 1 []] 1 e) 2 1 cB 0 (fj (Z c.ae) out)) 3 1 cN h out=r at w p⊢;refine et (U:=Z c.ae) (c:=λd=>[.q 3 h 0 (Z out),I d]) (λd=>∀m,m<d->lJ c.ae out e m=aa) (by simp) rfl (λd j o t O=>?_) (λo t=>?_)
  ·simp only[bo,Q,i,G,A,a,j,decide_true,aC j (h9 _ _),l1,vE,e3 p j,cr p (D2 j),cv,bD]
   have K:lJ c.ae out e d=(!S (d∈out)&&iP e c.ae[d]):=by
    rw[lJ,bC j]
   have L:(AV.agg [g (a5 V c.ae[d]) 0,g (a5 V c.ae[d]) 1,g (a5 V c.ae[d]) 2,g (a5 V c.ae[d]) 3,g (a5 V c.ae[d]) 4,g (a5 V c.ae[d]) 5,g (a5 V c.ae[d]) 6,g (a5 V c.ae[d]) 7,g (a5 V c.ae[d]) 8])=.agg (a5 V c.ae[d]):=rfl;rw[L];have U:=y.2.2.2 _ (bs j);have no:lJ c.ae out e d=aa->bd (aS .s .add (I d) (I 1)) λX=>t [.q 3 h 0 (Z out),X] r:=by
    intro N;rw[ba,Q];refine O λm ak=>?_;by_cases v:m=d
    ·subst v;exact N
    ·exact o m (by omega)
   refine a7 (aZ (λz=>ea _ (ac1 e c.ae[d] (by unfold p9 Sm;omega)) (.ck (D4 w) (.ck cy (.nil _))) (.bool _) ?_) (by simp_all));refine b (λB=>?_) (by grind);have P:lJ c.ae out e d=true:=by rw[K,z,B];rfl
   rw[Oj j P o]at n;have H:r=hI (aY (aY [.arr 0 1 [],.arr 0 1 [],.arr 0 1 [],.arr 0 1 []] 2 1 cB 0 (fj (Z c.ae) out)) 3 1 cN h out) 1 e:=by
    rw[<-E,D6 (by decide),D6 (by decide)]
   rw[H];refine oZ (.aE []) (ac3 e c.ae[d] (by simp[nt]) U) ?_;have J:hI (aY (aY [.arr 0 1 [],.arr 0 1 [],.arr 0 1 [],.arr 0 1 []] 2 1 cB 0 (fj (Z c.ae) out)) 3 1 cN h out) 1 (cH e c.ae[d].ad)=aY (aY (hI [.arr 0 1 [],.arr 0 1 [],.arr 0 1 [],.arr 0 1 []] 1 (cH e c.ae[d].ad)) 3 1 cN h out) 2 1 cB 0 (fj (Z c.ae) out):=by
    rw[D6 (by decide),D6 (by decide),uB (by decide)]
   rw[J];have x:(aY (aY (hI [.arr 0 1 [],.arr 0 1 [],.arr 0 1 [],.arr 0 1 []] 1 (cH e c.ae[d].ad)) 3 1 cN h out) 2 1 cB 0 (fj (Z c.ae) out))[2]?=T (.arr 0 1 ((fj (Z c.ae) out).map cB)):=oo (by simp[nt,HD]);rw[e3 x j,Q,Bn x (D2 j) rfl rfl,Q,On,Bo,Q]
   have R:(aY (aY (hI [.arr 0 1 [],.arr 0 1 [],.arr 0 1 [],.arr 0 1 []] 1 (cH e c.ae[d].ad)) 3 1 cN h out) 2 1 cB 0 (fj (Z c.ae) out)).set 2 (.arr 0 1 ((fj (Z c.ae) (out++[d])).map cB))=aY (aY (hI [.arr 0 1 [],.arr 0 1 [],.arr 0 1 [],.arr 0 1 []] 1 (cH e c.ae[d].ad)) 2 1 cB 0 (fj (Z c.ae) (out++[d]))) 3 1 cN h out:=by
    rw[show∀u:List Obj,u.set 2 (.arr 0 1 ((fj (Z c.ae) (out++[d])).map cB))=aY u 2 1 cB 0 (fj (Z c.ae) (out++[d]))fromλ_=>rfl,NX,uB (by decide)]
   rw[R];refine xq (by simp[nt,HD]) rfl (by omega) ?_;have aq:Z (out++[d])=Z out+1:=by simp
   refine W (out++[d],cH e c.ae[d].ad,h+1) ⟨by simp;omega,?_⟩ (by simp;omega);grind[xx]
  ·simp only[Q,i,G,A,a,ca,decide_false]
   refine bq ?_;rw[n,Ol o];refine .aE _ _ _ (.ck ?_ (.ck (.int _ _ _) (.nil _)));exact fx (o:=([]:List Nat)) (U:=1) (by simp) (by simp)
 ·have l:Z c.ae -(Z out)=0:=by simp at l;omega
  rw[n,l,mG];refine .aE _ _ _ (.ck ?_ (.ck (.int _ _ _) (.nil _)));exact fx (oo (by simp[nt,HD])) (by simp)
theorem OB(a:(!known x ⟨bH,⟨0,0,[]⟩⟩)=ab):dR x bH=x++[bH]/\ql x bH=x++[bH]:=by
 grind[known,dR,ql]
theorem OC(a:(!known x ⟨bH,⟨0,0,[]⟩⟩)=aa):dR x bH=x:=by
 grind[known,dR]
theorem ac6(a:List k)(b:aM):known a b=known a ⟨b.aB,⟨0,0,[]⟩⟩:=rfl
def vX(a b:List k)(c d:Nat):List Obj:=[.arr c 1 (a.map cS),.arr d 1 (b.map cS),nC a,nC b]
theorem ac7(a:k)(c:Z x<1099511627776):cx 1 16 (.q 0 U 0 (Z x)) (.sl aa [cS a]) (vX x fL U O)=T (.q 0 (U+1) 0 (Z (x++[a])),[.arr (U+1) 1 ((x++[a]).map cS),.arr O 1 (fL.map cS),nC x,nC fL]):=
 mE (N:=vX x fL U O) a (by simp[vX]) rfl (by omega)
theorem ac8(a:k)(c:Z fL<1099511627776):cx 1 16 (.q 1 O 0 (Z fL)) (.sl aa [cS a]) (vX x fL U O)=T (.q 1 (O+1) 0 (Z (fL++[a])),[.arr U 1 (x.map cS),.arr (O+1) 1 ((fL++[a]).map cS),nC x,nC fL]):=
 mE (N:=vX x fL U O) a (by simp[vX]) rfl (by omega)
theorem OD(c:aG)(w:j6 c):PR C 54 [.agg (aP V c)] (.aE [eS aa cS (fK c),eS aa cS (ie c)]):=by
 refine Zq.pr ?_;simp only[l3,Q,dZ,eA,a6,aH,od,aJ,a8,c3,de,fm,iJ];refine bB (λd=>[.q 0 d.2.1 0 (Z ((c.ae.take d.1).foldl (λf m=>cH f m.ad) [])),.q 1 d.2.2 0 (Z ((c.ae.take d.1).foldl mF [])),I d.1]) (λd=>vX ((c.ae.take d.1).foldl (λf m=>cH f m.ad) []) ((c.ae.take d.1).foldl mF []) d.2.1 d.2.2) (λd=>Z c.ae -d.1) (λd=>d.1<=Z c.ae) (0,0,0) (by simp) ?_;rintro⟨e,v,p⟩ P M J;by_cases l:e<Z c.ae
 ·have F:=D0 (c.ae.take e) []
  have H:=D1 (c.ae.take e) [];have U:=w.take e;have S:=w.2.2.2 _ (bs l);have O:=w.1;simp only[de,aJ,gb]at F H;have s:=λv p=>J (e+1,v,p) l (by simp;omega);simp only[jB l]at s;generalize(c.ae.take e).foldl (λf m=>cH f m.ad) []=o at*;generalize(c.ae.take e).foldl mF []=h at*;simp only[Q,i,G,A,a,l,decide_true,aC l (h9 _ _),l1,vE,uq,ur,vR,uu,uv,uw,vS,ux,uy,a8];refine a7 ?_;rw[bo]
  refine bB (λd=>.q 0 d.2 0 (Z (cH o (c.ae[e].ad.take d.1)))::I d.1::a5 V c.ae[e]) (λd=>vX (cH o (c.ae[e].ad.take d.1)) h d.2 p) (λd=>Z c.ae[e].ad -d.1) (λd=>d.1<=Z c.ae[e].ad) (0,v) (by simp) ?_;rintro⟨j,k⟩ R N K;simp only[Q,i,G,A,a];by_cases r:j<Z c.ae[e].ad
  ·have n:=λk=>K (j+1,k) r (by simp;omega)
   simp only[cH,jB r]at n;have y:=xr (c.ae[e].ad.take j) o;rw[gb]at y;simp only[cH]at y⊢;generalize(c.ae[e].ad.take j).foldl (λf L=>dR f L.aB) o=B at*;simp only[r,decide_true,aC r (h8 _),Q,ji,vC,NS,acu,acv,acw,bo,uq,ur,vR,uu,uv,uw,vS,ux,uy];refine a7 (ea _ (HA B c.ae[e].ad[j]) (.ck (D4 rfl) (.ck (by simp[Im.snap,cT]) (.nil _))) (.bool _) ?_);rw[ac6];refine b (λg=>?_) (λg=>?_)
   ·rw[xt,Q]
    refine bj (ac7 _ (by omega)) ?_;refine aD rfl ?_;refine aD (D3 _ rfl) ?_;rw[ba,Q];obtain⟨t,u⟩:=OB g;rw[t]at n;rw[u];exact n (k+1)
   ·rw[ba,Q]
    rw[OC g]at n;exact n k
  ·have:j=Z c.ae[e].ad:=by omega
   subst this;simp only[ca,decide_false,dB,uq,ur,vR,uu,uv,uw,vS,ux,uy,c9,Q,bo];have E:ko [(.str []),(I 0),(I 0),(.str [])] [(0,1,.str c.ae[e].bind)]=T (cT ⟨c.ae[e].bind,⟨0,0,[]⟩⟩):=rfl;refine bq (aZ (λg=>?_) (λg=>bq ?_))
   ·rw[E,Q]
    refine ea _ (HA h _) (.ck (D4 rfl) (.ck cy (.nil _))) (.bool _) ?_
    try simp only[G,i]
    have z:mF h c.ae[e]=dR h c.ae[e].bind:=by rw[mF,if_pos g]
    rw[z]at s;refine b (λx=>?_) (λx=>?_)
    ·rw[xt,Q]
     refine bj (ac8 _ (by omega)) ?_;refine aD rfl ?_;refine aD (D3 _ rfl) ?_;rw[ba,Q];obtain⟨t,u⟩:=OB x;rw[t]at s;rw[u];exact s k (p+1)
    ·rw[ba,Q]
     grind[OC]
   ·have z:mF h c.ae[e]=h:=by rw[mF,if_neg (by rw[g];decide)]
    grind[G,i,ba,Q]
 ·have:e=Z c.ae:=by omega
  subst this;simp only[Q,i,G,A,a,ca,decide_false,dB];exact bq (.aE _ _ _ (.ck (fx rfl (by simp)) (.ck (fx rfl (by simp)) (.nil _))))
theorem ac9(a:aG)(b:j6 a):PR C 104 [.agg (aP V a)] (.bool (uD a)):=by
 refine X5.pr ?_;simp only[l3,Q,a6,aH,kR,sS,AQ,AR,aJ,fo,Nat.reduceAdd,cd,j3,true_and];refine⟨.c4,[.agg (aP V a),eS aa cS []],l9 (ord a.ae []),by decide,?_,OA a [] b (by simp),by simp,?_⟩
 ·exact .ck cy (.ck (.ai _ _) (.nil _))
 rw[uD];cases l:ord a.ae []with
 |none=>
  simp only[l9,ef,cv,dk,Q,cd];exact a7 (bE rfl)
 |some n=>
  simp only[l9,ef,cv,dk,Q,cd,mS,cu];refine bq (f (OD a b) ?_);simp only[cv,dk,Q];have m:=b.Oq;have k:=b.lvl;refine oZ _ (Oz (fK a) [] (by omega)) ?_;have g:a.ad.any (λc=> !known (uF (fK a)) c)= !a.ad.all (known (fK a)):=by
   rw[<-HC,FC]
   congr 1
   funext c
   rw[(Oy (fK a)).known]
  refine⟨.cm,[eS V cT a.ad,.fn 114 [nB (uF (fK a))] []],.bool (a.ad.any λc=> !known (uF (fK a)) c),by decide,?_,Hg (HB _) a.ad (by have:=b.2.2.1;grind[Sm]) (λh _=>D5 _ h),λ_=>.bool _,?_⟩
  ·exact .ck cy (.ck (.fn _ _ _ _ _ _ (.ck (D4 rfl) (.nil _)) (.nil _)) (.nil _))
  rw[g];simp only[bo,G];have j:∀e,(ie a).contains e=S (e∈ie a):=by grind
  refine c8 (by grind[bE]) (λd=>?_);rw[d,cu];refine aZ (λd=>dx (λi=>?_) (by simp_all)) (λd=>?_)
  ·exact f (vK _ _ (by grind[Sm])) (by simp_all)
  ·exact f (vK _ _ (by grind[Sm])) (by simp_all)
theorem HE(b:aj)(u:Z b.ah<=20)(p:∀q∈b.ah,j6 q):PR C 50 [.agg (cP V F b)] (eS aa bX (nA b)):=by
 refine W7.pr ?_;simp only[dS,Q,dZ,eA,a6,aH,mz,aJ,a8,c3,de,fm,iJ];refine s4 b.ah q4 [] 1 2 bX (N:=[.arr 0 2 [],.arr 0 2 []]) 0 rfl (by simp[aY]) (λc d h j e l t=>?_) (λj e=>?_)
 ·have m:=Hw (b.ah.take c) []
  rw[<-l,gb,de]at m;have o:=bs d;simp only[Q,i,G,A,a,d,decide_true,nj,bo,aC d (kQ _ _),kR,uc];have s:S ((Z h:Int)<20)=true:=by simp;omega
  have n:(AV.agg [g (aP V b.ah[c]) 0,g (aP V b.ah[c]) 1,g (aP V b.ah[c]) 2,g (aP V b.ah[c]) 3,g (aP V b.ah[c]) 4,g (aP V b.ah[c]) 5,g (aP V b.ah[c]) 6,g (aP V b.ah[c]) 7,g (aP V b.ah[c]) 8])=.agg (aP V b.ah[c]):=rfl;rw[n];refine a7 (aZ (λ_=>f (ac9 _ (p _ o)) ?_) (by grind));simp only[bD,Q,om];refine c8 (λk=>?_) (λk=>?_)
  ·rw[uE,Q,vW,Q]
   refine xq (by simp) rfl (by omega) ?_;rw[ba,Q];grind[q4]
  ·rw[ba,Q]
   grind[q4]
 ·simp only[Q,i,G,A,a,ca,decide_false,bo]
  exact bq (y7 (by simp) (by simp))
end AM
namespace Law
abbrev cO:=Nat->Nat->Bool
def q8(a:cO)(d:Nat):cO:=λb c=>a b c||(a b d&&a d c)
def jC(a:cO)(b:Nat):cO:=(List.range b).foldl q8 a
theorem HF(b:cO)(a:Nat):jC b (a+1)=q8 (jC b a) a:=by
 simp[jC,wJ]
inductive Way(d:cO)(K:Nat):Nat->Nat->Prop
 |gP (a b:Nat) (h:d a b=ab):Way d K a b
 |via (a c b:Nat) (h:Way d K a c) (hc:c<K) (t:Way d K c b):Way d K a b
variable{eT:cO}{U O y c2:Nat}
theorem Way.mono(a:U<=O)(e:Way eT U y c2):Way eT O y c2:=by
 induction e with
 |gP y c2 a=>exact .gP y c2 a
 |via y b c2 _ f _ c d=>exact .via y b c2 c (by omega) d
theorem Way.succ(j:Way eT (U+1) O y):Way eT U O y\/(Way eT U O U/\Way eT U U y):=by
 induction j with
 |gP O y e=>exact .inl (.gP O y e)
 |via O a y _ l _ h i=>
  by_cases k:a=U
  ·grind
  ·have d:a<U:=by omega
   rcases h with b|⟨b,f⟩<;>rcases i with c|⟨c,g⟩
   ·exact .inl (.via O a y b d c)
   ·exact .inr ⟨.via O a U b d c,g⟩
   ·exact .inr ⟨b,.via U a y f d c⟩
   grind
theorem D7(d:cO):∀(n b c:Nat),jC d n b c=ab<->Way d n b c
 |0,b,c=>by
  constructor
  ·exactλa=>.gP b c a
  ·intro a
   cases a with
   |gP _ _ a=>exact a
   |via _ g _ _ h _=>omega
 |n+1,b,c=>by
  rw[HF];simp only[q8,kg,bG,D7 d n];constructor
  ·rintro(a|⟨e,f⟩)
   ·exact a.mono (Kp n)
   ·exact .via b n c (e.mono (Kp n)) (TC n) (f.mono (Kp n))
  ·exact Way.succ
inductive nD(d:cO):Nat->Nat->Prop
 |gP (a b:Nat) (h:d a b=ab):nD d a b
 |step (a c b:Nat) (h:d a c=ab) (t:nD d c b):nD d a b
theorem nD.trans(a:nD eT U O)(b:nD eT O y):nD eT U y:=by
 induction a with
 |gP U O a=>exact .step U O y a b
 |step U c O a _ d=>exact .step U c y a (d b)
theorem ada(c:∀O y,eT O y=ab->O<U/\y<U):Way eT U O y<->nD eT O y:=by
 constructor
 ·intro a
  induction a with
  |gP O y a=>exact .gP O y a
  |via O b y _ _ _ d e=>exact d.trans e
 ·intro a
  induction a with
  |gP O y a=>exact .gP O y a
  |step O b y a _ f=>exact .via O b y (.gP O b a) (c O b a).2 f
theorem OE(c:∀a b,eT a b=ab->a<U/\b<U)(a b:Nat):jC eT U a b=ab<->nD eT a b:=
 (D7 eT U a b).trans (ada c)
end Law
namespace AM
variable{V:Bool}{U:Nat}{b9:Nat -> Bool}{O:Nat}{N:List Obj}{eT:Go.Law.cO}{z:Type}{cA:Md}{a2:z -> List AV}{hB:List Obj -> Prop}
section
open Go.Law
def eW(a:Bool)(d:Nat)(b:Nat->Bool):AV:=eS a (λc=>cB (b c)) (List.range d)
def za(c:Nat)(b:cO)(a:Nat):List AV:=[eW aa c (b a)]
def eM(a:Nat)(b:cO):AV:=eS aa (za a b) (List.range a)
@[simp] theorem am5(a:Bool)(c:Nat)(b:Nat->Bool):Im (eW a c b):=kP (λ_=>LZ _) a _
@[simp] theorem adb(c:Nat)(b:cO)(a:Nat):bO (za c b a):=by simp[za]
@[simp] theorem am6(b:Nat)(a:cO):Im (eM b a):=kP (λ_=>adb _ _ _) _ _
@[simp] theorem am7(a:Bool)(c:Nat)(b:Nat->Bool):(eW a c b).pl=eW a c b:=rfl
@[simp] theorem am8(b:Nat)(a:cO):(eM b a).pl=eM b a:=rfl
@[simp] theorem zb(a:Nat)(c:cO)(b:List Obj):fX .sl (eM a c) b=T (I a):=by simp[eM]
theorem q9(a:O<U):bY 1 (eW V U b9) (I O) N=T (.aK V (cB (b9 O)) 0):=by
 have:=aC (V:=V) (a2:=λO=>cB (b9 O)) (o:=List.range U) (U:=O) (N:=N) (by grind) rfl;rw[Fw]at this;exact this
theorem s7(c:O<U):bY 1 (eM U eT) (I O) N=T (.aK aa (za U eT O) 0):=by
 have:=aC (V:=false) (a2:=za U eT) (o:=List.range U) (U:=O) (N:=N) (by grind) rfl;rw[Fw]at this;exact this
@[simp] theorem xy(c:Nat)(b:cO)(a:Nat):(za c b a)[0]?=T (eW aa c (b a)):=rfl
structure iQ(H:List Obj)(id gg:Nat)(gG:Nat->Nat)(n:Nat)(m:cO):Prop where
 outer:H[id]?=T (.arr gg 1 ((List.range n).map λa=>[.q (gG a) 0 0 n]))
 rows:∀a,a<n->H[gG a]?=T (.arr 0 1 ((List.range n).map λb=>[.bool (m a b)]))
 ne:∀a,a<n->gG a≠id
 inj:∀a b,a<n->b<n->gG a=gG b->a=b
variable{H:List Obj}{id gg n:Nat}{gG:Nat->Nat}{m:cO}
theorem iQ.ia(a:iQ H id gg gG n m)(b:U<n):bY 1 (.q id gg 0 n) (I U) H=T (.ptr id gg U 0):=e3 a.outer b
theorem iQ.ld(a:iQ H id gg gG n m)(b:U<n):aR 1 aa (.ptr id gg U 0) H=T (.q (gG U) 0 0 n):=by
 rw[cr a.outer (bg:=[.q (gG U) 0 0 n]) (by simp[b])];rfl
theorem iQ.D8(a:iQ H id gg gG n m)(b:U<n)(c:O<n):bY 1 (.q (gG U) 0 0 n) (I O) H=T (.ptr (gG U) 0 O 0):=e3 (a.rows U b) c
theorem iQ.HG(a:iQ H id gg gG n m)(b:U<n)(c:O<n):aR 1 aa (.ptr (gG U) 0 O 0) H=T (.bool (m U O)):=by
 rw[cr (a.rows U b) (bg:=[.bool (m U O)]) (by simp[c])];rfl
def b6(m:cO)(c d:Nat)(e:Bool):cO:=λa b=>if a=c/\b=d then e else m a b
theorem iQ.st(a:iQ H id gg gG n m)(c:U<n)(j:O<n)(h:Bool):∃d,df 1 (.ptr (gG U) 0 O 0) (.bool h) H=T d/\iQ d id gg gG n (b6 m U O h)/\(∀e,e≠gG U->d[e]?=H[e]?):=by
 refine⟨_,Bn (a.rows U c) (Y:=.bool (m U O)) (by simp[j]) rfl rfl,⟨?_,?_,a.ne,a.inj⟩,?_⟩
 ·rw[nV (a.ne U c)];exact a.outer
 ·intro b g
  by_cases f:b=U
  ·subst f
   have k:gG b<Z H:=by
    have:=a.rows b c;exact(e6.1 this).1
   rw[wL k]
   congr 2
   apply sH
   ·simp
   grind[b6]
  ·rw[nV (λi=>f (a.inj U b c g i).symm),a.rows b g]
   grind[b6]
 grind
theorem iQ.congr(b:iQ H id gg gG n m){d:cO}(f:∀a c,a<n->c<n->m a c=d a c):iQ H id gg gG n d:=by
 refine⟨b.outer,λa e=>?_,b.ne,b.inj⟩;rw[b.rows a e];simp_all
theorem Bp{H:List Obj}{g:z->List AV}:∀(a:List z)(_:∀x∈a,bR H cA (a2 x) (g x)),eX H cA (a.map a2) (a.map g)
 |[],_=>.nil _
 |x::a,b=>.ck (b x (by simp)) (Bp a (by grind))
theorem iQ.snap(c:iQ H id gg gG n m):aI H .res (.q id gg 0 n) (eM n m):=by
 refine .na id gg 0 n 1 _ _ c.outer (by simp) ?_;rw[jR,fW (by simp)];refine Bp _ λa b=>.ck ?_ (.nil _);have b:a<n:=by simpa using b
 refine .na (gG a) 0 0 n 1 _ _ (c.rows a b) (by simp) ?_;rw[jR,fW (by simp)];exact Bp _ λd _=>.ck (.bool _ _) (.nil _)
def D9(d f:AV)(k:List Obj)(j:List Obj->Prop):Prop:=
 iC (λc h zc=>
 bd (aS .s .lss (g c 0) f) λq=>
 dY q (
 iC (λnE i p=>
 bd (aS .s .lss (g nE 0) f) λr=>
 dY r (
 iC (λb a HH=>
 bd (aS .s .lss (g b 0) f) λt=>
 dY t (
 jn (λuj=>
 bd (bY 1 d (g nE 0) a) λu=>
 bd (aR 1 aa u a) λe=>
 bd (bY 1 d (g nE 0) a) λv=>
 bd (aR 1 aa v a) λw=>
 bd (bY 1 w (g b 0) a) λx=>
 bd (aR 1 aa x a) λy=>
 gd y aa (
 bd (bY 1 d (g nE 0) a) λz=>
 bd (aR 1 aa z a) λA=>
 bd (bY 1 A (g c 0) a) λB=>
 bd (aR 1 aa B a) λC=>
 gd C ab (
 bd (bY 1 d (g c 0) a) λE=>
 bd (aR 1 aa E a) λF=>
 bd (bY 1 F (g b 0) a) λG=>
 bd (aR 1 aa G a) λH=>
 bd (bY 1 e (g b 0) a) λJ=>
 bd (df 1 J H a) λm=>
 uj [] m) (
 bd (bY 1 e (g b 0) a) λK=>
 bd (df 1 K ff a) λn=>
 uj [] n)) (
 bd (bY 1 e (g b 0) a) λL=>
 bd (df 1 L tt a) λo=>
 uj [] o)) λP l=>
 bd (aS .s .add (g b 0) (I 1)) λM=>
 HH [M] l) (
 bd (aS .s .add (g nE 0) (I 1)) λN=>
 p [N] a)) [(I 0)] i) (
 bd (aS .s .add (g c 0) (I 1)) λO=>
 zc [O] i)) [(I 0)] h) (
 j h)) [(I 0)] k
def j7(d:cO)(f c e:Nat):cO:=λa b=>if a<c\/(a=c/\b<e)then q8 d f a b else d a b
theorem OF(b:cO)(a d e c:Nat):j7 b a d e c a=b c a:=by
 grind[j7,q8]
theorem OG(b:cO)(a d e c:Nat):j7 b a d e a c=b a c:=by
 grind[j7,q8]
theorem ade(c:cO)(d a b:Nat):b6 (j7 c d a b) a b (q8 c d a b)=j7 c d a (b+1):=by
 funext e f
 simp only[b6,j7];grind
theorem OH(ac:n<1099511627776)(z:iQ H id gg gG n m)(ad:∀k,iQ k id gg gG n (jC m n)->hB k):D9 (.q id gg 0 n) (I n) H hB:=by
 unfold D9;refine bB (z:=Nat×List Obj) (λc=>[I c.1]) (λc=>c.2) (λc=>n -c.1) (λc=>c.1<=n/\iQ c.2 id gg gG n (jC m c.1)) (0,H) ⟨by simp,z⟩ ?_;rintro⟨e,v⟩ ⟨Y,B⟩ U M;simp only[G,A,Q,a];refine b (λh=>?_) (λZ=>?_)
 ·have h:e<n:=by simpa using h
  refine bB (z:=Nat×List Obj) (λc=>[I c.1]) (λc=>c.2) (λc=>n -c.1) (λc=>c.1<=n/\iQ c.2 id gg gG n (j7 (jC m e) e c.1 0)) (0,v) ⟨by simp,?_⟩ ?_
  ·refine B.congr λf g _ _=>?_
   simp[j7]
  rintro⟨f,l⟩ ⟨W,p⟩ V N;simp only[G,A,Q,a];refine b (λhalt=>?_) (λF=>?_)
  ·have halt:f<n:=by simpa using halt
   refine bB (z:=Nat×List Obj) (λc=>[I c.1]) (λc=>c.2) (λc=>n -c.1) (λc=>c.1<=n/\iQ c.2 id gg gG n (j7 (jC m e) e f c.1)) (0,l) ⟨by simp,p⟩ ?_;rintro⟨g,o⟩ ⟨X,d⟩ x O;simp only[G,A,Q,a];refine b (λi=>?_) (λJ=>?_)
   ·have i:g<n:=by simpa using i
    simp only[bo,d.ia halt,d.ld halt,d.D8 halt i,d.HG halt i,d.D8 halt h,d.HG halt h,d.ia h,d.ld h,d.D8 h i,d.HG h i,Q,OF,OG];have E:j7 (jC m e) e f g f g=jC m e f g:=by simp[j7]
    rw[E];have go:∀j,j=q8 (jC m e) e f g->bd (df 1 (.ptr (gG f) 0 g 0) (.bool j) o) λC=>bd (aS .s .add (I g) (I 1)) λR=>x [R] C:=by
     intro j K;obtain⟨w,y,r,_⟩:=d.st halt i j;rw[y,Q,ba,Q];refine O (g+1,w) ⟨i,?_⟩ (by simp;omega);rw[K,ade]at r;exact r
    grind[dx,aZ,q8]
   ·have:g=n:=by simp at J;omega
    subst this;rw[ba,Q];refine N (f+1,o) ⟨halt,d.congr λP S t L=>?_⟩ (by simp;omega);grind[j7]
  ·have:f=n:=by simp at F;omega
   subst this;rw[ba,Q];refine M (e+1,l) ⟨h,p.congr λP S t L=>?_⟩ (by simp;omega);rw[HF];simp[j7,t]
 grind
end
variable{Y:AV}{bg:List AV}{lq:Nat -> Bool}
section
open Go.Law
variable{H:List Obj}{id gg n:Nat}{gG:Nat->Nat}{m:cO}
theorem OI{len:Nat}(a:O<len):oV len U Y (I O) H=dw (O*U) Y H:=by
 simp[oV,a]
theorem iaaO_0{off:Nat}:oV 2 1 (.aK V bg off) (I 0) H=T (.aK V bg (off+0)):=rfl
theorem iaaO_1{off:Nat}:oV 2 1 (.aK V bg off) (I 1) H=T (.aK V bg (off+1)):=rfl
def kt(n:Nat)(m:cO)(c:Nat->Bool)(a:Nat):Bool:=c a&&(List.range n).all λb=> !c b||m a b
def nF(n:Nat)(m:cO)(b:Nat->Bool):Int:=match(List.range n).find? (kt n m b)with|some a=>a|none=> -1
def ku(n:Nat)(m:cO)(c:Nat->Bool)(b:Nat):Bool:=(List.range n).all λa=> !c a||m a b
def qm(n:Nat)(m:cO)(a:Nat->Bool):Int:=nF n m (ku n m a)
theorem Ea(b:U<n)(d:kt n m b9 U=ab)(c:∀a,a<U->kt n m b9 a=aa):nF n m b9=U:=by
 grind[List.range,kt,List.find?_range_eq_some,nF]
theorem HI(b:∀a,a<n->kt n m b9 a=aa):nF n m b9= -1:=by
 grind[List.range,kt,nF]
theorem Bq(a:Nat):(List.range (a+1)).all b9=((List.range a).all b9&&b9 a):=by
 grind
theorem adf(v:n<1099511627776)(d:Nat->Bool):PR C 204 [eM n m,eW V n d] (I (nF n m d)):=by
 refine Y4.pr ?_;simp only[zb,Q];refine et (U:=n) (c:=λc=>[I 0,I c]) (λc=>∀j,j<c->kt n m d j=aa) (by simp) rfl (λc g l p s=>?_) (λl p=>?_)
 ·simp only[i,G,A,Q,a,g,decide_true,q9 g,aH,vF]
  refine a7 ?_;refine et (U:=n) (c:=λe=>[.bool (d c&&(List.range e).all λV=> !d V||m c V),I e]) (λ_=>True) trivial (by simp) (λe o _ q h=>?_) (λ_ q=>?_)
  ·have h:=h trivial
   rw[Bq,<-TA]at h;generalize(d c&&(List.range e).all λV=> !d V||m c V)=r at*;simp only[i,G,A,Q,a,o,decide_true,q9 o,s7 g,aH,vF,xy,bD];refine a7 (eh (N:=[]) (r&&(!d e||m c e)) (λw u=>?_) ?_)
   ·exact aZ (λf=>gV (by grind) (by grind)) (by grind)
   ·rw[ba,Q,G]
    exact h
  ·simp only[i,G,A,Q,a,ca,decide_false]
   refine bq (b (λk=>?_) (λk=>?_))
   ·rw[Ea g k l]
    simp
   ·rw[ba,Q]
    refine s λj t=>?_;by_cases f:j=c
    ·subst f;exact k
    grind
 ·simp only[i,G,A,Q,a,ca,decide_false]
  refine bq ?_;rw[HI l];simp
def e4(n:Nat)(a:Nat->Bool):Obj:=.arr 0 1 ((List.range n).map λb=>[.bool (a b)])
theorem adg:((List.range n).map λa=>[AV.bool (b9 a)]).set U [.bool V]=(List.range n).map λa=>[.bool (if a=U then V else b9 a)]:=by
 apply sH
 ·simp
 grind
theorem Eb(a:U<n):((List.range n).map λb=>[AV.bool (b9 b)])[U]?=T [.bool (b9 U)]:=by simp[a]
theorem Br{H:List Obj}{id:Nat}(b:H[id]?=T (e4 n b9))(c:U<n):df 1 (.ptr id 0 U 0) (.bool V) H=T (H.set id (e4 n λa=>if a=U then V else b9 a)):=by
 rw[Bn b (Eb c) rfl rfl,adg];rfl
theorem xz(b:∀a,a<n->b9 a=lq a):e4 n b9=e4 n lq:=by
 simp_all[e4]
theorem zd(n:Nat):List.replicate n [ff]=(List.range n).map λ_=>[AV.bool aa]:=by
 apply sH<;>simp
theorem OJ{H:List Obj}{id:Nat}(a:H[id]?=T (e4 n b9)):aI H .cm (.q id 0 0 n) (eW ab n b9):=by
 refine .vq id 0 0 n 1 _ _ a (by simp) ?_;rw[jR,fW (by simp)];exact Bp _ λb _=>.ck (.bool _ _) (.nil _)
theorem adh{H:List Obj}{id:Nat}(a:H[id]?=T (e4 n b9)):aI H .res (.q id 0 0 n) (eW aa n b9):=by
 refine .na id 0 0 n 1 _ _ a (by simp) ?_;rw[jR,fW (by simp)];exact Bp _ λb _=>.ck (.bool _ _) (.nil _)
theorem OK(c:List Int)(s:n<1099511627776)(j:Sm c)(k:∀e∈c,0<=e/\e<n):PR C 145 [I n,eS V cI c] (eW aa n λd=>S ((d:Int)∈c)):=by
 refine Xq.pr ?_;refine bj (qj (by omega) (by omega)) ?_;rw[zd];simp only[c3,de,a8,Q];refine bB (z:=Nat) (λb=>[I b]) (λb=>[e4 n λd=>S ((d:Int)∈c.take b)]) (λb=>Z c -b) (λb=>b<=Z c) 0 (by simp) ?_ rfl (by simp[e4]);intro b r m l;simp only[G,A,Q,a];by_cases f:b<Z c
 ·obtain⟨p,q⟩:=k _ (bs f)
  obtain⟨e,g⟩:∃e:Nat,c[b]=e:=⟨c[b].toNat,by omega⟩;have h:e<n:=by omega
  have t:=l (b+1) f (by omega);simp only[f,decide_true,aC f (g4 _),Q,aH,j4];rw[g];refine a7 (aD (e3 (bS:=(List.range n).map λd:Nat=>[AV.bool (S ((d:Int)∈c.take b))]) (U:=0) rfl h) ?_);refine aD (Br rfl h) ?_;rw[ba (j.lt f),Q];have:e4 n (λd=>if d=e then ab else S ((d:Int)∈c.take b))=e4 n (λd=>S ((d:Int)∈c.take (b+1))):=by
   refine xz λd _=>?_;rw[hX f,g];by_cases i:d=e
   ·grind
   ·simp[i]
    omega
  grind
 ·have:b=Z c:=by omega
  subst this;simp only[ca,decide_false,dB];exact bq (adh rfl)
theorem HJ(t:n<1099511627776)(d:Nat->Bool):PR C 144 [eM n m,eW V n d] (I (qm n m d)):=by
 refine Zz.pr ?_;simp only[zb,Q];refine bj (qj (by omega) (by omega)) ?_;rw[zd];simp only[c3,de];refine bB (z:=Nat) (λf=>[I f]) (λf=>[e4 n λb=>S (b<f)&&ku n m d b]) (λf=>n -f) (λf=>f<=n) 0 (by simp) ?_ rfl (by simp[e4]);intro b H B u;simp only[G,A,Q,a];by_cases h:b<n
 ·have K:=u (b+1) h (by omega)
  simp only[h,decide_true];refine a7 (aD (e3 (U:=0) (bS:=(List.range n).map λc=>[AV.bool (S (c<b)&&ku n m d c)]) rfl h) (aD (Br rfl h) ?_));refine bB (z:=Nat) (λe=>[I e]) (λe=>[e4 n λc=>if c=b then(List.range e).all λV=> !d V||m V b else(S (c<b)&&ku n m d c)]) (λe=>n -e) (λe=>e<=n) 0 (by simp) ?_ rfl (by simp);intro e J o v;simp only[G,A,Q,a];by_cases i:e<n
  ·have w:=v (e+1) i (by omega)
   simp only[i,decide_true,bo];have k:[e4 n λc=>if c=b then(List.range e).all λV=> !d V||m V b else(S (c<b)&&ku n m d c)][0]?=T (e4 n λc=>if c=b then(List.range e).all λV=> !d V||m V b else(S (c<b)&&ku n m d c)):=rfl
   have go:∀j,j=((List.range (e+1)).all λV=> !d V||m V b)->bd (bY 1 (.q 0 0 0 n) (I b) [e4 n λc=>if c=b then(List.range e).all λV=> !d V||m V b else(S (c<b)&&ku n m d c)]) λx=>bd (df 1 x (.bool j) [e4 n λc=>if c=b then(List.range e).all λV=> !d V||m V b else(S (c<b)&&ku n m d c)]) λr=>bd (aS .s .add (I e) (I 1)) λy=>o [y] r:=by
    intro j l;refine aD (e3 k h) (aD (Br rfl h) ?_);rw[ba,Q];have:(λf=>if f=b then j else if f=b then(List.range e).all λV=> !d V||m V b else(S (f<b)&&ku n m d f))=(λc=>if c=b then(List.range (e+1)).all λV=> !d V||m V b else(S (c<b)&&ku n m d c)):=by
     funext f
     by_cases g:f=b
     ·rw[if_pos g,if_pos g,l]
     ·rw[if_neg g,if_neg g,if_neg g]
    show o _ [e4 n _];rw[this];exact w
   refine a7 (aD (e3 k h) (aD (cr k (Eb h)) ?_));simp only[if_true,Q,q9 i,aH,vF,bD,s7 i,xy,q9 h];rw[Bq]at go;generalize((List.range e).all λV=> !d V||m V b)=E at*;exact aZ (λg=>gV (λp=>go _ (by grind)) (λp=>go _ (by grind))) (λg=>go _ (by rw[g];rfl))
  ·have:e=n:=by omega
   subst this;simp only[ca,decide_false];refine bq ?_;rw[ba,Q];have:e4 e (λc=>if c=b then(List.range e).all λV=> !d V||m V b else(S (c<b)&&ku e m d c))=e4 e (λc=>S (c<b+1)&&ku e m d c):=by
    refine xz λc _=>?_;by_cases g:c=b
    ·subst g;simp[ku]
    ·rw[if_neg g]
     congr 1
     simp;omega
   grind
 ·have:b=n:=by omega
  subst this;simp only[ca,decide_false];refine bq ?_;have l:e4 b (λc=>S (c<b)&&ku b m d c)=e4 b (ku b m d):=by grind[xz]
  rw[l];refine ea _ (adf t (ku b m d)) (.ck cy (.ck (OJ rfl) (.nil _))) (.int _ _) ?_;simp[qm]
end
variable{aU c1:Int}{dG:z -> Bool}{o:List z}{gC:List (Int × Int)}{y:Nat}
section
open Go.Law
variable{H:List Obj}{id gg n:Nat}{gG:Nat->Nat}{m:cO}
def eF(b:bM)(a:Int):Bool:=S (0<=a)&&S (a<Z b.au)
def ot(b:bM)(a:Int×Int):Bool:=eF b a.1&&eF b a.2
def uG(b:List k)(a:Nat):Bool:=match b[a]? with|some c=>(b.take a).contains c|none=>aa
def ow(a:bM):Int:=
 if(bV a.ar&& !S ((Z a.au:Int)<1)&& !S (8<(Z a.au:Int))&& !S (64<(Z a.eg:Int)))=aa then 1 else
 if a.au.all bV=aa then 1 else if a.eg.all (ot a)=aa then 1 else
 if((List.range (Z a.au)).any (uG a.au))=ab then 5 else 0
theorem ig(a:c1=aU):aI N .res (AV.pl (I aU)) (I c1):=by simp[a]
theorem OL(b:∀a∈o,dG a=aa):o.any dG=false:=by
 grind
theorem adi(c:bM)(s:j5 c):PR C 146 [.agg (bn V c)] (I (ow c)):=by
 refine YX.pr ?_;simp only[kT,Q,a6,aH,hF,Me,np,Dk,aJ,a8,A,er];refine eh (N:=[]) (!(bV c.ar&& !S ((Z c.au:Int)<1)&& !S (8<(Z c.au:Int))&& !S (64<(Z c.eg:Int)))) (λk m=>?_) ?_
 ·refine f (qY _) ?_
  simp only[bD,Q];exact gV (λu=>dy (by grind) (λv=>dy (by grind) (λw=>by simp_all))) (by grind)
 simp only[G];refine c8 (by simp_all[ow]) (λo=>?_);rw[ow,if_neg (by grind)];have B:Z c.au<=8:=by
  simp only[bG,jt,decide_eq_false_iff_not]at o;omega
 refine et (U:=Z c.au) (c:=λd=>[I 0,I d]) (λd=>(c.au.take d).all bV=ab) (by simp) rfl (λd e h l m=>?_) (λh l=>?_)
 ·simp only[Q,i,G,A,a,e,decide_true,aC e (g5 _),aH,kp]
  refine a7 (f (qY _) ?_);simp only[bD,Q];refine c8 (by grind[ig]) (λg=>?_);rw[ba,Q];grind[mD]
 rw[dB]at h;simp only[Q,i,G,A,a,ca,decide_false];refine bq ?_;rw[if_neg (by grind)];refine et (U:=Z c.eg) (c:=λd=>[I 0,I d]) (λd=>(c.eg.take d).all (ot c)=ab) (by simp) rfl (λd e h l m=>?_) (λh l=>?_)
 ·simp only[Q,i,G,A,a,e,decide_true,aC e (r1 _),iaaO_0,iaaO_1,aH,Dg,Dh,fo,aJ,bo]
  refine a7 (f (y9 _ _) ?_);simp only[bD,Q];have bad:ot c c.eg[d]=aa->aI [] .res (AV.pl (I 1)) (I (if c.eg.all (ot c)=aa then 1 else if((List.range (Z c.au)).any (uG c.au))=ab then 5 else 0)):=by grind[ig]
  refine gV (λt=>f (y9 _ _) ?_) (λg=>a7 (bad (by rw[ot,eF,g];rfl)));simp only[bD,Q];refine c8 (by grind[ot,eF]) (λg=>?_);rw[s.2.inc e,Q];grind[mD,ot,eF]
 rw[dB]at h;simp only[Q,i,G,A,a,ca,decide_false];refine bq ?_;rw[if_neg (by grind)];refine et (U:=Z c.au) (c:=λd=>[I 0,I d]) (λd=>∀j,j<d->uG c.au j=aa) (by simp) rfl (λd e h l m=>?_) (λh l=>?_)
 ·simp only[Q,i,G,A,a,e,decide_true]
  refine a7 ?_;have x:uG c.au d=(c.au.take d).contains c.au[d]:=by rw[uG,bC e]
  refine et (U:=d) (c:=λk=>[I 0,I k]) (λk=>∀j(y:j<Z c.au),j<k->(c.au[d]==c.au[j])=aa) (by simp) rfl (λk p r n z=>?_) (λr n=>?_)
  ·have q:k<Z c.au:=by omega
   simp only[Q,i,G,A,a,p,decide_true,aC e (g5 _),aC q (g5 _),aH,kp,fF];refine a7 (b (λg=>ig ?_) (λg=>?_))
   ·grind[List.mem_take_iff_getElem]
   ·rw[ba,Q]
    grind
  ·simp only[Q,i,G,A,a,ca,decide_false]
   refine bq ?_;rw[ba,Q];grind[List.mem_take_iff_getElem]
 ·simp only[Q,i,G,A,a,ca,decide_false]
  refine bq (ig ?_);grind
def qn(d:cO)(e:List (Int×Int)):cO:=λa b=>d a b||e.any λc=>c.1==(a:Int)&&c.2==(b:Int)
theorem HK(a:cO)(b:U<Z gC)(c:gC[U].1=O)(d:gC[U].2=y):b6 (qn a (gC.take U)) O y ab=qn a (gC.take (U+1)):=by
 funext e f
 simp only[b6,qn,hX b,List.any_append,TD,Kq,FB,c,d];grind
theorem OM(b:iQ H id gg gG n m)(o:0<=aU/\aU<n)(p:0<=c1/\c1<n)(r:∀d,iQ d id gg gG n (b6 m aU.toNat c1.toNat ab)->hB d):
 bd (bY 1 (.q id gg 0 n) (I aU) H) λh=>bd (aR 1 aa h H) λi=>bd (bY 1 i (I c1) H) λj=>bd (df 1 j tt H) hB:=by
 obtain⟨a,rfl⟩:∃a:Nat,aU=a:=⟨aU.toNat,by omega⟩;obtain⟨f,rfl⟩:∃a:Nat,c1=a:=⟨c1.toNat,by omega⟩;have c:a<n:=by omega
 have e:f<n:=by omega
 obtain⟨k,g,l,_⟩:=b.st c e ab;rw[b.ia c,Q,b.ld c,Q,b.D8 c e,Q,g,Q];grind
def kW(a:Nat):Nat:=if a=0 then 1 else a+2
def sb(a:Nat):AV:=if a=0 then .dI else .q 2 (a -1) 0 a
structure xA(n:Nat)(d:cO)(i:Nat)(H:List Obj):Prop where
 len:Z H=if i=0 then 1 else i+2
 outer:0<i->H[2]?=T (.arr (i -1) 1 ((List.range i).map λa=>[.q (kW a) 0 0 n]))
 rows:∀a,a<i->H[kW a]?=T (.arr 0 1 ((List.range n).map λb=>[.bool (d a b)]))
theorem xA.grow{c:cO}(e:xA n c U H)(p:U<1099511627776):∃h,cx 1 24 (sb U) (.sl aa [[.q (Z H) 0 0 n]]) (H++[.arr 0 1 ((List.range n).map λb=>[.bool (c U b)])])=T (sb (U+1),h)/\xA n c (U+1) h:=by
 by_cases g:U=0
 ·subst g
  have d:=e.len;rw[if_pos rfl]at d;obtain⟨f,rfl⟩:∃f,H=[f]:=by
   match H,d with
   |[f],_=>grind
  refine⟨[f,.arr 0 1 ((List.range n).map λb=>[.bool (c 0 b)]),.arr 0 1 [[.q 1 0 0 n]]],?_,⟨by simp,λ_=>by simp[kW],λa i=>?_⟩⟩
  ·simp[cx,hQ,sb,AV.isNil]
  grind[kW]
 ·have d:=e.len
  rw[if_neg g]at d;have l:=e.outer (by omega);have r:(H++[Obj.arr 0 1 ((List.range n).map λb=>[.bool (c U b)])])[2]?=T (.arr (U -1) 1 ((List.range U).map λa=>[.q (kW a) 0 0 n])):=by
   rw[lU (by omega)];exact l
  refine⟨(H++[Obj.arr 0 1 ((List.range n).map λb=>[AV.bool (c U b)])]).set 2 (.arr U 1 ((List.range (U+1)).map λa=>[.q (kW a) 0 0 n])),?_,⟨?_,λ_=>?_,λa i=>?_⟩⟩
  ·have m:kW U=Z H:=by rw[kW,if_neg g,d]
   have s:(List.range (U+1)).map (λa=>[AV.q (kW a) 0 0 n])=((List.range U).map λa=>[AV.q (kW a) 0 0 n])++[[.q (Z H) 0 0 n]]:=by
    rw[wJ,ht,<-m];rfl
   grind[sb,cx,hQ,AV.isNil]
  ·simp[d]
  ·grind
  ·have k:2≠kW a:=by unfold kW;split<;>omega
   rw[nV k];by_cases o:a=U
   ·grind[kW]
   ·have j:kW a<Z H:=by unfold kW;split<;>omega
    rw[lU j];exact e.rows a (by omega)
theorem xA.ON{a:cO}(b:xA n a n H)(c:0<n):iQ H 2 (n -1) kW n a:=
 ⟨b.outer c,b.rows,by grind[kW],by grind[kW]⟩
def s8:cO:=λa b=>S (a=b)
def dK(a:bM):cO:=jC (qn s8 a.eg) (Z a.au)
theorem Ec(e:bM)(F:0<Z e.au/\Z e.au<=8)(y:e.eg.all (ot e)=ab)(K:j5 e):PR C 86 [.agg (bn V e)] (eM (Z e.au) (dK e)):=by
 refine Wv.pr ?_;simp only[kT,Q,dZ,eA,a6,aH,np,Dk,aJ,a8,c3];generalize w:Z e.au=n at*;refine bB (z:=Nat×List Obj) (λc=>[sb c.1,I c.1]) (λc=>c.2) (λc=>n -c.1) (λc=>c.1<=n/\xA n s8 c.1 c.2) (0,[.arr 0 1 []]) ⟨by simp,⟨by simp,λd=>absurd d (by simp),λo x=>absurd x (by simp)⟩⟩ ?_;rintro⟨f,H⟩ ⟨z,l⟩ O m;simp only at z l m⊢;simp only[Q,i,G,A,a];refine b (λd=>?_) (λd=>?_)
 ·have d:f<n:=by simpa using d
  refine bj (qj (by omega) (by omega)) ?_;rw[zd];have s:(H++[Obj.arr 0 1 ((List.range n).map λ_=>[AV.bool aa])])[Z H]?=T (e4 n λ_=>aa):=by simp[e4]
  refine aD (e3 (bS:=(List.range n).map λ_=>[AV.bool aa]) s d) (aD (Br s d) ?_);have L:(H++[Obj.arr 0 1 ((List.range n).map λ_=>[AV.bool aa])]).set (Z H) (e4 n λg=>if g=f then ab else aa)=H++[.arr 0 1 ((List.range n).map λV=>[.bool (s8 f V)])]:=by
   rw[Kd _ _ (di _)];simp only[Ke,yk,e4]
   congr 4
   funext g
   simp only[s8];by_cases p:g=f
   ·subst p;simp
   ·rw[if_neg p];simp;omega
  rw[L];obtain⟨h,u,v⟩:=l.grow (by omega);refine aD (dD:=.sl aa [[.q (Z H) 0 0 n]]) rfl (bj u ?_);rw[ba,Q];exact m (f+1,h) ⟨d,v⟩ (by simp;omega)
 ·have:f=n:=by simp at d;omega
  subst this;have E:=l.ON F.1;have J:sb f=.q 2 (f -1) 0 f:=by rw[sb,if_neg (by omega)]
  rw[J];clear m;refine bB (z:=Nat×List Obj) (λc=>[I c.1]) (λc=>c.2) (λc=>Z e.eg -c.1) (λc=>c.1<=Z e.eg/\iQ c.2 2 (f -1) kW f (qn s8 (e.eg.take c.1))) (0,H) ⟨by simp,E.congr λo V _ _=>by simp[qn]⟩ ?_;rintro⟨g,N⟩ ⟨B,j⟩ P t;simp only at B j t⊢;simp only[Q,G,A,a];refine b (λd=>?_) (λd=>?_)
  ·have d:g<Z e.eg:=by simpa using d
   have k:=fi.1 y _ (bs d);simp only[ot,eF,bG,decide_eq_true_eq,w]at k;simp only[aC d (r1 _),Q,iaaO_0,iaaO_1,aH,Dg,Dh,fo,aJ];refine OM j k.1 k.2 λh r=>?_;rw[K.2.inc d,Q];refine t (g+1,h) ⟨d,?_⟩ (by simp;omega);grind[HK,s8]
  ·have:g=Z e.eg:=by simp at d;omega
   subst this;rw[dB]at j;refine OH (by omega) j λh r=>?_;have:=r.snap;simp_all[dK]
end
open Go.Law
def lK(d:Nat)(c:cO)(a b:Nat):Bool:=(a !=b&&c a b&&c b a)||S (qm d c (λe=>S ((e:Int)∈[(a:Int),(b:Int)]))<0)
def eu(a:bM):Int:=
 if ow a≠0 then ow a else
 if((List.range (Z a.au)).any λb=>(List.range (Z a.au)).any (lK (Z a.au) (dK a) b))=ab then 30 else
 if qm (Z a.au) (dK a) (λ_=>aa)<0 then 30 else 0
def ox(a:bM)(b c:Int):Bool:=eu a==0&&eF a b&&eF a c&&dK a b.toNat c.toNat
def fy(a:bM)(b:List Int):Int:=if eu a≠0 then -1 else if b.all (eF a)=aa then -1 else qm (Z a.au) (dK a) λc=>S ((c:Int)∈b)
def pb(a:bM)(b:List Int):Bool:=eu a==0&&(Z b:Int)==Z a.au&&b.all (eF a)&&
 (List.range (Z a.au)).all λc=>(List.range (Z a.au)).all λd=> !dK a c d||dK a (b.getD c 0).toNat (b.getD d 0).toNat
variable{dF:bM}
theorem vY(a:ow dF=0):(0<Z dF.au/\Z dF.au<=8)/\dF.eg.all (ot dF)=true:=by
 grind[ow]
theorem xB(a:eu dF=0):ow dF=0:=by
 grind[eu]
theorem Ed(a b:Int):fw 1 [(I 0)] 2 [(0,I a),(1,I b)]=T (eS aa cI [a,b]):=rfl
theorem Ee(g:bM)(o:j5 g):PR C 84 [.agg (bn V g)] (I (eu g)):=by
 refine Zu.pr ?_;simp only[kT,Q,hF];refine f (adi g o) ?_;simp only[cd,Q];refine b (by simp_all[eu]) (λr=>?_);have n:ow g=0:=by simpa using r
 obtain⟨u,t⟩:=vY n;rw[eu,if_neg (by simp[n])];refine f (Ec g u t o) ?_;simp only[zb,Q];generalize Z g.au=e at*;generalize dK g=h at*;refine et (U:=e) (c:=λc=>[I 0,I c]) (λc=>∀m,m<c->∀V,V<e->lK e h m V=aa) (by simp) rfl (λc k w p K=>?_) (λw p=>?_)
 ·simp only[i,G,A,Q,a,k,decide_true]
  refine a7 ?_;refine et (U:=e) (c:=λd=>[I 0,I d]) (λd=>∀V,V<d->lK e h c V=aa) (by simp) rfl (λd l x q M=>?_) (λx q=>?_)
  ·simp only[i,G,A,Q,a,l,decide_true,s7 k,s7 l,q9 k,q9 l,aH,xy,vF,cd,Ed]
   refine a7 (eh (N:=[]) (lK e h c d) (λy L=>?_) ?_)
   ·have j1:(c !=d&&h c d&&h d c)=aa->cp C 145 [I e,eS aa cI [(c:Int),(d:Int)]] [] λz=>cp C 144 [eM e h,z] [] λB=>bd (aS .s .lss B (I 0)) λE=>y [E] []:=by
     intro j;refine f (OK [(c:Int),(d:Int)] (by omega) (by simp[Sm]) (by simp;omega)) ?_;refine f (HJ (by omega) _) ?_;simp only[A,Q];exact(by grind[lK])
    have v:((c:Int) !=(d:Int))=(c !=d):=by
     rw[hY];simp;omega
    rw[v];exact aZ (λH=>aZ (λJ=>dx (by grind) (by grind[lK])) (by grind)) (by grind)
   ·simp only[G]
    refine b (λj=>ig ?_) (λj=>?_)
    ·grind
    ·rw[ba,Q]
     grind
  ·simp only[i,G,A,Q,a,ca,decide_false]
   refine bq ?_;rw[ba,Q];grind
 ·simp only[i,G,A,Q,a,ca,decide_false]
  rw[if_neg]
  ·refine bq (bj (qj (by omega) (by omega)) ?_)
   rw[zd];refine ea _ (HJ (by omega) λ_=>aa) (.ck cy (.ck (OJ rfl) (.nil _))) (.int _ _) ?_;simp only[A,Q];refine b (by simp) (by simp)
  grind
theorem qo(b:eF dF aU=ab):∃a:Nat,aU=a/\a<Z dF.au:=by
 simp only[eF,bG,decide_eq_true_eq]at b;exact⟨aU.toNat,by omega,by omega⟩
theorem OO(a:bM)(b c:Int)(i:j5 a):PR C 35 [.agg (bn V a),I b,I c] (.bool (ox a b c)):=by
 refine Wm.pr ?_;simp only[kT,Q,hF,bo,G];refine f (Ee a i) ?_;simp only[c9,Q];refine aZ (λd=>?_) (by simp_all[ox]);refine f (y9 a b) (aZ (λj=>?_) (by grind[bE,ox,eF]));refine f (y9 a c) (aZ (λk=>?_) (by grind[bE,ox,eF]));obtain⟨l,e⟩:=vY (xB (by simpa using d));refine f (Ec a l e i) ?_;have g:eF a b=true:=j;have h:eF a c=true:=k;rw[ox,d,g,h];obtain⟨m,rfl,o⟩:=qo g;obtain⟨n,rfl,e⟩:=qo h
 grind[s7,Q,aH,xy,q9,vF,gU]
variable{F:Bool}
theorem OP(c:bM)(d:List Int)(m:j5 c)(k:Sm d):PR C 83 [.agg (bn V c),eS F cI d] (I (fy c d)):=by
 refine Wt.pr ?_;simp only[kT,Q,hF,a8,a6,aH,np,aJ];refine f (Ee c m) ?_;simp only[cd,Q];refine b (by simp_all[fy]) (λo=>?_);have j:eu c=0:=by simpa using o
 rw[fy,if_neg (by simp[j])];obtain⟨q,p⟩:=vY (xB j);refine et (U:=Z d) (c:=λg=>[I 0,I g]) (λg=>(d.take g).all (eF c)=ab) (by simp) rfl (λg e l n r=>?_) (λl n=>?_)
 ·simp only[i,G,A,Q,a,e,decide_true,aC e (g4 _),aH,j4]
  refine a7 (f (y9 c _) ?_);simp only[bD,Q];refine c8 (λh=>ig (by rw[if_pos (uz e h)])) (λh=>?_);rw[k.inc e,Q];grind[mD,eF]
 ·rw[dB]at l
  simp only[i,G,A,Q,a,ca,decide_false];rw[if_neg (by grind)];refine bq (f (Ec c q p m) (f (OK d (by omega) k λu s=>?_) (f (HJ (by omega) _) (ig rfl))));grind[eF]
theorem adj(a:bM)(b c:Int)(d:j5 a):PR C 147 [.agg (bn V a),I b,I c] (I (fy a [b,c])):=by
 refine ZA.pr ?_;simp only[kT,Q,hF,Ed];exact f (OP a [b,c] d (by simp[Sm])) (by simp)
theorem zc(a:bM)(b:j5 a):PR C 34 [.agg (bn V a)] (I (fy a [])):=by
 refine XV.pr ?_;simp only[kT,Q,hF];refine⟨.c4,[.agg (bn V a),eS aa cI []],I (fy a []),by decide,?_,OP a [] b (by simp[Sm]),by simp,by simp⟩;exact .ck cy (.ck (.ai _ _) (.nil _))
theorem adk(d:bM)(b:List Int)(H:j5 d)(r:Sm b):PR C 288 [.agg (bn V d),eS F cI b] (.bool (pb d b)):=by
 refine WY.pr ?_;simp only[kT,Q,hF,a8,a6,aH,np,aJ,cd];refine eh (N:=[]) (!(eu d==0&&(Z b:Int)==Z d.au)) (λk q=>f (Ee d H) ?_) ?_
 ·simp only[cd,Q]
  exact dy (by grind) (by grind)
 simp only[G];refine c8 (by simp_all[pb]) (λp=>?_);have S:pb d b=(b.all (eF d)&&(List.range (Z d.au)).all λe=>(List.range (Z d.au)).all λV=> !dK d e V||dK d (b.getD e 0).toNat (b.getD V 0).toNat):=by
  rw[pb,p];rfl
 rw[S];simp only[bG,beq_iff_eq]at p;obtain⟨R,E⟩:=p;have E:Z b=Z d.au:=by omega
 obtain⟨ac,U⟩:=vY (xB R);refine f (Ec d ac U H) ?_;refine et (U:=Z b) (c:=λc=>[ff,I c]) (λc=>(b.take c).all (eF d)=ab) (by simp) rfl (λc h n o q=>?_) (λn o=>?_)
 ·simp only[i,G,A,Q,a,h,decide_true,aC h (g4 _),aH,j4]
  refine a7 (f (y9 d _) ?_);simp only[bD,Q];refine c8 (by grind[bE,uz,eF]) (λl=>?_);rw[r.inc h,Q];grind[mD,eF]
 rw[dB]at n;simp only[i,G,A,Q,a,ca,decide_false];rw[n,cu,<-E];have B:=λah af=>qo (fi.1 n ah af);refine bq ?_;generalize ar:dK d=j at*;have fail:∀e g,e<Z b->g<Z b->(!j e g||j (b.getD e 0).toNat (b.getD g 0).toNat)=aa->((List.range (Z b)).all λe=>(List.range (Z b)).all λV=> !j e V||j (b.getD e 0).toNat (b.getD V 0).toNat)=false:=by
  intro e g y z W;rw[<-Kr,fi];intro X;have:=X e (by simpa using y);rw[fi]at this;have:=this g (by simpa using z);rw[W]at this;cases this
 refine et (U:=Z b) (c:=λc=>[ff,I c]) (λc=>∀e,e<c->∀g,g<Z b->(!j e g||j (b.getD e 0).toNat (b.getD g 0).toNat)=ab) (by simp) rfl (λc h ad o q=>?_) (λad o=>?_)
 ·simp only[i,G,A,Q,a,h,decide_true]
  refine a7 ?_;refine et (U:=Z b) (c:=λc=>[ff,I c]) (λk=>∀g,g<k->(!j c g||j (b.getD c 0).toNat (b.getD g 0).toNat)=ab) (by simp) rfl (λk m ae v Y=>?_) (λae v=>?_)
  ·obtain⟨t,J,K⟩:=B b[c] (bs h)
   obtain⟨u,L,M⟩:=B b[k] (bs m);have K:t<Z b:=by omega
   have M:u<Z b:=by omega
   have w:b.getD c 0=t:=by rw[oM,bC h];simpa using J
   have x:b.getD k 0=u:=by rw[oM,bC m];simpa using L
   have step:(!j c k||j t u)=ab->bd (aS .s .add (I k) (I 1)) λak=>v [ff,ak] []:=by
    intro l;rw[r.inc m,Q];refine Y λg z=>?_;by_cases O:g=k
    ·subst O;rw[w,x];simpa using l
    ·grind
   simp only[i,G,A,Q,a,m,decide_true,s7 h,aH,xy,q9 m,vF,aC h (g4 _),aC m (g4 _),j4,J,L,s7 K,q9 M,bD,bo];refine a7 (aZ (λl=>c8 (λP=>bE (fail c k h m ?_)) (by grind)) (by grind[bq]));rw[w,x,l];simpa using P
  ·simp only[i,G,A,Q,a,ca,decide_false]
   refine bq ?_;rw[r.inc h,Q];refine q λe y=>?_;grind
 ·simp only[i,G,A,Q,a,ca,decide_false]
  refine bq (hR ?_);grind
def W(a:BitVec 8):AV:=.int .u8 (a.toNat:Int)
@[simp] theorem anb(a:BitVec 8):Im (W a):=.int _ _
@[simp] theorem anc(a:BitVec 8):(W a).pl=W a:=rfl
@[simp] theorem ane(a:BitVec 8):(W a).bP=true:=rfl
@[simp] theorem anf(a:BitVec 8):(W a).cells=[W a]:=rfl
theorem w0:AV.int .u8 0=W 0#8:=rfl
theorem w1:AV.int .u8 1=W 1#8:=rfl
theorem HL(a:BitVec 8):IntKind.u8.wrap (a.toNat:Int)=(a.toNat:Int):=wraps_u8 _ (by omega) (by omega)
theorem HM(a:BitVec 8):BitVec.ofInt IntKind.u8.bits (a.toNat:Int)=a:=by
 show BitVec.ofInt 8 (a.toNat:Int)=a;grind
theorem ze(bk:BK)(a b:BitVec 8):aS bk .and (W a) (W b)=T (W (a&&&b)):=by
 simp only[aS,W,if_true,jv,HM];exact congrArg (λc=>T (AV.int .u8 c)) (HL (a&&&b))
theorem OQ(bk:BK)(a b:BitVec 8):aS bk .or (W a) (W b)=T (W (a|||b)):=by
 simp only[aS,W,if_true,jv,HM];exact congrArg (λc=>T (AV.int .u8 c)) (HL (a|||b))
theorem adl(bk:BK)(a b:BitVec 8):aS bk .andNot (W a) (W b)=T (W (a&&&~~~b)):=by
 simp only[aS,W,if_true,jv,HM];exact congrArg (λc=>T (AV.int .u8 c)) (HL (a&&&~~~b))
theorem HN(bk:BK)(a b:BitVec 8):aS bk .sub (W a) (W b)=T (W (a -b)):=by
 simp only[aS,W,if_true,jv]
 congr 2
 rw[IntKind.wrap_u8,BitVec.toNat_sub];omega
theorem Ef(bk:BK)(a:BitVec 8)(b:Nat):aS bk .shl (W a) (I (b:Int))=T (W (a<<<b)):=by
 simp only[aS,W];rw[if_neg (by omega)]
 congr 2
 rw[IntKind.wrap_u8,BitVec.toNat_shiftLeft,Nat.shiftLeft_eq];simp only[ej];show(a.toNat:Int)*2^(min b 8)%256=((a.toNat*2^b%2^8:Nat):Int);rcases akV b 8 with h|h
 ·grind
 ·rw[akW h]
  obtain⟨c,rfl⟩:=Nat.exists_eq_add_of_le h;have d:a.toNat*2^(8+c)%2^8=0:=by
   rw[Nat.pow_add,<-Nat.mul_assoc,Nat.mul_right_comm];exact Nat.mul_mod_left _ _
  omega
theorem Bs(bk:BK)(a:BitVec 8)(b:Nat):aS bk .shr (W a) (I (b:Int))=T (W (a>>>b)):=by
 simp only[aS,W];rw[if_neg (by omega)]
 congr 2
 simp only[ej,BitVec.toNat_ushiftRight,Nat.shiftRight_eq_div_pow];show(a.toNat:Int).fdiv (2^(min b 8))=((a.toNat/2^b:Nat):Int);rcases akV b 8 with h|h
 ·grind
 ·rw[akW h]
  have c:a.toNat/2^b=0:=akX (jQ a.isLt (akY (by omega) h));have d:a.toNat/256=0:=akX a.isLt;grind
theorem zf(bk:BK)(a b:BitVec 8):aS bk .eql (W a) (W b)=T (.bool (a==b)):=by
 simp only[aS,W,if_true,jv]
 congr 2
 grind[BitVec.eq_of_toNat_eq]
theorem adm(bk:BK)(a b:BitVec 8):aS bk .neq (W a) (W b)=T (.bool (!(a==b))):=by
 have:=zf bk a b;simp only[aS,W,if_true,jv,eK,AV.bool.injEq]at this⊢;grind
theorem Bt(a:BitVec 8)(b:Nat):(a>>>b&&&1#8==1#8)=a.getLsbD b:=by
 have e:a>>>b&&&1#8=if a.getLsbD b=ab then 1#8 else 0#8:=by
  apply TE;intro d f;rw[Ct,akZ];by_cases c:d=0
  ·subst c
   cases a.getLsbD b<;>simp
  ·have:(1#8).getLsbD d=false:=by
    rw[ak0];simp[c]
   rw[this,zX];cases a.getLsbD b<;>simp[this]
 rw[e];cases a.getLsbD b<;>simp
theorem adn(a:BitVec 8)(b:Nat):(a>>>b&&&1#8==0#8)= !a.getLsbD b:=by
 have f:a>>>b&&&1#8=if a.getLsbD b=ab then 1#8 else 0#8:=by
  have:=Bt a b;cases d:a.getLsbD b with
  |true=>rw[d]at this;simpa using this
  |false=>
   apply TE;intro e g;rw[Ct,akZ];by_cases c:e=0
   ·subst c;simp[d]
   ·have:(1#8).getLsbD e=false:=by
     rw[ak0];simp[c]
    rw[this,zX];simp
 rw[f];cases a.getLsbD b<;>simp
def da(a:Nat->BitVec 8):List AV:=[W (a 0),W (a 1),W (a 2),W (a 3),W (a 4),W (a 5),W (a 6),W (a 7)]
@[simp] theorem ang(a:Nat->BitVec 8):bO (da a):=by simp[da]
theorem OR(a:Nat->BitVec 8)(b:U<8):(da a)[U]?=T (W (a U)):=by
 match U,b with
 |0,_=>rfl
 |1,_=>rfl
 |2,_=>rfl
 |3,_=>rfl
 |4,_=>rfl
 |5,_=>rfl
 |6,_=>rfl
 |7,_=>rfl
def uH(c:Nat->BitVec 8)(b:Nat)(d:BitVec 8):Nat->BitVec 8:=λa=>if a=b then d else c a
theorem ado(a:Nat->BitVec 8)(b:BitVec 8)(c:U<8):eV (da a) U [W b]=da (uH a U b):=by
 match U,c with
 |0,_=>rfl
 |1,_=>rfl
 |2,_=>rfl
 |3,_=>rfl
 |4,_=>rfl
 |5,_=>rfl
 |6,_=>rfl
 |7,_=>rfl
def qp(c:Nat)(e:Nat->BitVec 8)(d:cO):Prop:=∀a,a<c->∀b,(e a).getLsbD b=(S (b<c)&&d a b)
def xC(d:Nat)(b:BitVec 8)(c:Nat->Bool):Prop:=∀a,b.getLsbD a=(S (a<d)&&c a)
theorem adp{d e:BitVec 8}(c:xC U d b9)(f:xC U e lq):(d&&&~~~e==0#8)=(List.range U).all λa=> !b9 a||lq a:=by
 rw[hY,beq_iff_eq,fi];constructor
 ·intro g a b
  have b:a<U:=by simpa using b
  have:=congrArg (λh=>BitVec.getLsbD h a) g;simp only[Ct,ak1,c a,f a,b,decide_true,cu]at this;cases l:b9 a with
  |false=>rfl
  |true=>
   by_cases j:a<8
   ·grind
   ·have i:=c a
    grind
 ·intro k
  apply TE;intro a b;simp only[Ct,ak1,c a,f a];grind
theorem adq(a:U<8):oV 8 1 (.aK V bg 0) (I U) N=T (.aK V bg U):=by
 rw[OI a];simp
theorem HO(f:Nat->BitVec 8)(d:BitVec 8)(u:U<=8)(p:qp U f eT)(l:xC U d b9):PR C 253 [.agg (da f),W d,I U] (I (nF U eT b9)):=by
 refine XE.pr ?_;refine aD (p4 rfl rfl) ?_;refine et (U:=U) (c:=λc=>[I 0,I c]) (λc=>∀n,n<c->kt U eT b9 n=aa) (by simp) rfl (λc h m k t=>?_) (λm k=>?_)
 ·have j:kt U eT b9 c=(d.getLsbD c&&(d&&&~~~(f c)==0#8)):=by
   rw[kt,adp l (λo=>p c h o),l c];simp[h]
  simp only[i,G,A,Q,a,h,decide_true,w1,w0,Bs,ze,zf,Bt,bo,adq (show c<8 by omega),aH,OR f (show c<8 by omega),adl];have yes:kt U eT b9 c=ab->aI [] .res (AV.pl (I c)) (I (nF U eT b9)):=by grind[ig,Ea]
  have no:kt U eT b9 c=aa->bd (aS .s .add (I c) (I 1)) λq=>k [I 0,q] []:=λe=>by
   rw[ba,Q];grind
  exact a7 (aZ (λe=>b (λg=>yes (by rw[j,e,g];rfl)) (λg=>no (by rw[j,g];simp))) (λe=>bq (no (by rw[j,e];rfl))))
 ·simp only[i,G,A,Q,a,ca,decide_false]
  exact bq (ig (HI m))
variable{pP:Nat -> BitVec 8}
theorem s9{id:Nat}(a:N[id]?=T (.arr 0 8 [da pP]))(b:U<8):oV 8 1 (.ptr id 0 0 0) (I U) N=T (.ptr id 0 0 U):=by
 grind[OI,oq]
theorem uI{id:Nat}(a:N[id]?=T (.arr 0 8 [da pP]))(b:U<8):aR 1 aa (.ptr id 0 0 U) N=T (W (pP U)):=by
 rw[cr a (bg:=da pP) rfl,OR pP b]
theorem HP{id:Nat}{a:BitVec 8}(b:N[id]?=T (.arr 0 8 [da pP]))(c:U<8):df 1 (.ptr id 0 0 U) (W a) N=T (N.set id (.arr 0 8 [da (uH pP U a)])):=by
 have:U+1<=Z (da pP):=by show U+1<=8;omega
 simp_all[df,ado]
theorem xD{id:Nat}(a:N[id]?=T (.arr 0 8 [da pP])):aR 8 ab (.ptr id 0 0 0) N=T (.agg (da pP)):=kV a rfl rfl
theorem zg(a:Nat->BitVec 8):dh 8 (.agg (da a))=T (da a):=gS rfl rfl
def z8:List AV:=[.int .u8 0,.int .u8 0,.int .u8 0,.int .u8 0,.int .u8 0,.int .u8 0,.int .u8 0,.int .u8 0]
theorem adr(o:Nat->BitVec 8)(W:U<=8)(M:qp U o eT):∃g,qp U g (jC eT U)/\PR C 315 [.agg (da o),I U] (.agg (da g)):=by
 have key:∃q r,C 315 [.agg (da o),I U] [] q r/\∃g,qp U g (jC eT U)/\q=.agg (da g):=by
  refine XL.hq (Q:=λq r=>∃g,qp U g (jC eT U)/\q=.agg (da g)) ?_;refine bj (dD:=.ptr 0 0 0 0) (b:=[.arr 0 8 [da o]]) (by rw[mw,zg];rfl) ?_;refine bB (z:=Nat×(Nat->BitVec 8)) (λd=>I d.1::z8) (λd=>[.arr 0 8 [da d.2]]) (λd=>U -d.1) (λd=>d.1<=U/\qp U d.2 (jC eT d.1)) (0,o) ⟨by simp,M⟩ ?_;rintro⟨e,y⟩ ⟨L,u⟩ P B;simp only at L u B⊢;simp only[i,G,A,Q,a,z8];refine b (λk=>?_) (λk=>?_)
  ·have k:e<U:=by simpa using k
   refine bB (z:=Nat×(Nat->BitVec 8)) (λd=>I d.1::z8) (λd=>[.arr 0 8 [da d.2]]) (λd=>U -d.1) (λd=>d.1<=U/\qp U d.2 (j7 (jC eT e) e d.1 0)) (0,y) ⟨by simp,λc v f=>by rw[u c v f];simp[j7]⟩ ?_;rintro⟨c,j⟩ ⟨v,l⟩ R x;simp only at v l x⊢;simp only[i,G,A,Q,a,z8];refine b (λm=>?_) (λK=>?_)
   ·have m:c<U:=by simpa using m
    have w:c<8:=by omega
    have z:e<8:=by omega
    have p:[Obj.arr 0 8 [da j]][0]?=T (.arr 0 8 [da j]):=rfl;have H:(j c).getLsbD e=jC eT e c e:=by
     rw[l c m e,OF];simp[k]
    simp only[bo,s9 p w,s9 p z,uI p w,uI p z,Q,w1,Bs,ze,zf,Bt,OQ,HP p w,H,yk,ba (show c<4611686018427387904 by omega)];have E:∀s:Nat->BitVec 8,(∀h,h≠c->s h=j h)->(∀f,(s c).getLsbD f=(S (f<U)&&q8 (jC eT e) e c f))->qp U s (j7 (jC eT e) e (c+1) 0):=by
     intro s F V h n f;by_cases t:h=c
     ·grind[j7]
     ·rw[F h t,l h n f]
      simp only[j7];grind
    refine b (λt=>?_) (λt=>?_)
    ·refine x (c+1,uH j c (j c|||j e)) ⟨m,E _ (λh n=>by simp[uH,n]) λf=>?_⟩ (by simp;omega)
     simp only[uH,if_true,ak2,l c m f,l e k f,OG];grind[j7,jC,q8,decide]
    ·refine x (c+1,j) ⟨m,E _ (λ_ _=>rfl) λf=>?_⟩ (by simp;omega)
     rw[l c m f];grind[j7,jC,q8]
   ·have:c=U:=by simp at K;omega
    subst this;rw[ba,Q];refine B (e+1,j) ⟨k,λh n f=>?_⟩ (by simp;omega);rw[l h n f,HF];simp[j7,n]
  ·have:e=U:=by simp at k;omega
   subst this;rw[xD (pP:=y) rfl,Q,zg,Q];exact⟨y,u,rfl⟩
 obtain⟨q,r,J,g,N,rfl⟩:=key;exact⟨g,N,_,r,J,cy⟩
theorem ads(a:k):fR.contains a=lF a:=rfl
theorem OS(g:k):PR C 314 [.str g] (.bool (bV g)):=by
 refine Yv.pr rfl ?_;simp only[cz,hZ];cases g with
 |nil=>
  simp only[fF,Q];refine eh (N:=[]) ab (by simp) ?_;exact a7 (bE rfl)
 |cons c d=>
  simp only[xd,Q,er,A,yZ,fF,GP,GQ,a8];have o:((c::d)==([]:k))=false:=rfl;refine eh (N:=[]) (!(!S (16<(Z (c::d):Int))&& !S ((c.toNat:Int)<97)&& !S (122<(c.toNat:Int))&& !lF (c::d))) (λn h=>?_) ?_
  ·have z:aR 1 aa (gv G0 2) []=T (eS aa cS fR):=rfl
   rw[o,z,Q];refine dx (λ_=>?_) (λe=>by cases e);refine dy (by grind) (λK=>dy (by grind) (λL=>dy (by grind) (λM=>?_)));refine f (vK fR (c::d) (by simp[Sm,fR])) (kB h ?_);grind[ads]
  simp only[G];have s:bV (c::d)=(!S (16<(Z (c::d):Int))&& !S ((c.toNat:Int)<97)&& !S (122<(c.toNat:Int))&& !lF (c::d)&&d.all eE):=by
   rw[bV,lG,<-kr,<-kr,<-kr];have:S ((Z (c::d):Int)<=16)=S (Z (c::d)<=16):=by
    rw[hY];simp;omega
   rw[this];generalize S (Z (c::d)<=16)=u;generalize S ((97:Int)<=c.toNat)=v;generalize S ((c.toNat:Int)<=122)=w;generalize d.all eE=x;generalize lF (c::d)=y;revert u v w x y;decide
  refine c8 (by simp_all) (λe=>?_);rw[s,e,cu];have q:eE c=true:=by
   simp only[bG,jt,decide_eq_false_iff_not]at e;exact A7 (by omega) (by omega)
  have r:Sm (c::d):=by
   simp only[bG,jt,decide_eq_false_iff_not]at e;unfold Sm;omega
  have p:d.all eE=(c::d).all eE:=by rw[qJ,q,cu]
  rw[p];clear p q s e o;generalize c::d=g at*;refine y5 (dG:=eE) (fN:=λH t=>aI t .res H (.bool (g.all eE))) r (λj I=>⟨λe F B=>?_,λe E=>?_⟩) (λe=>hR e) (λe=>bE e)
  ·simp only[Q,i,G,A,a,e,decide_true,aC e (Dq _),aH,Dr,jN,c9]
   refine a7 (eh (N:=[]) (eE g[j]) (λn h=>?_) ?_)
   ·rw[eE,ns]at h
    refine eh (N:=[]) (S (97<=(g[j].toNat:Int))&&S ((g[j].toNat:Int)<=122)) (λn h=>aZ (by grind) (by grind)) ?_;simp only[G];refine b (by grind) (λl=>?_);rw[l,kh]at h;refine eh (N:=[]) (S (65<=(g[j].toNat:Int))&&S ((g[j].toNat:Int)<=90)) (λn h=>aZ (by grind) (by grind)) ?_;simp only[G];refine b (by grind) (λl=>?_);rw[l,kh]at h
    refine eh (N:=[]) (S (48<=(g[j].toNat:Int))&&S ((g[j].toNat:Int)<=57)) (λn h=>aZ (by grind) (by grind)) ?_;simp only[G];refine b (by grind) (λl=>?_);grind
   ·simp only[G]
    refine b (λl=>?_) B;rw[r.inc e,Q];exact F l
  ·simp only[Q,i,G,A,a]
   exact bq E (by simp;omega)
theorem OT:∀a<8,∀b<8,(1#8<<<a).getLsbD b=S (b=a):=by decide
theorem OU:∀b<9,∀a<8,((1#8<<<b) -1#8).getLsbD a=S (a<b):=by decide
theorem Eg(e:∀a,Z (a2 a)=U)(f:O<=Z o):dV (.sl U) (eS V a2 o) D (T (I O)) N=T (eS V a2 (o.take O)):=by
 have c:cQ (Z o) (Z o) (T (I (O:Int)))=T O:=by
  simp only[cQ];rw[if_pos (by omega)];simp
 have d:∀a b,cQ a b D=T b:=λ_ _=>rfl;simp only[dV,eS,kd,c,d,NT e o,if_true,jR,Ks]
theorem Eh{a:Nat->BitVec 8}{id:Nat}(b:N[id]?=T (.arr 0 8 [da pP])):df 8 (.ptr id 0 0 0) (.agg (da a)) N=T (N.set id (.arr 0 8 [da a])):=by
 have g:(AV.agg (da a)).pl.cells=da a:=rfl;have c:Z (da a)=8:=rfl;have d:Z (da pP)=8:=rfl;have e:(da a).all AV.bP=true:=rfl;have f:eV (da pP) 0 (da a)=da a:=rfl;simp[df,c,d,e,f,b]
theorem HQ(g:∀a,a<U->b9 a=lq a):nF U eT b9=nF U eT lq:=by
 have k:∀a,a<U->kt U eT b9 a=kt U eT lq a:=by
  intro a l;rw[kt,kt,g a l]
  congr 1
  rw[hY,fi,fi];constructor<;>intro j d e
  ·rw[<-g d (by simpa using e)];exact j d e
  ·rw[g d (by simpa using e)];exact j d e
 by_cases n:∃a,a<U/\kt U eT b9 a=ab
 ·obtain⟨c,m⟩:∃c,(List.range U).find? (kt U eT b9)=T c:=by
   cases o:(List.range U).find? (kt U eT b9)with
   |some c=>grind
   |none=>
    grind
  have b:=FD.1 m;have i:c<U:=by simpa using b.2.1
  rw[Ea i b.1 (λf h=>by simpa using b.2.2 f h),Ea i (by rw[<-k c i];exact b.1) (λf h=>by rw[<-k f (by omega)];simpa using b.2.2 f h)]
 grind[HI]
theorem OV:qm U eT (λ_=>aa)=nF U eT λ_=>true:=
 HQ (by grind[ku])
theorem adt(c:O<U)(d:y<U):qm U eT (λb=>S ((b:Int)∈[(O:Int),(y:Int)]))=nF U eT λa=>eT O a&&eT y a:=by
 refine HQ λa _=>?_;grind[ku]
theorem Ei(a:ow dF=aU)(b:aU≠0):eu dF=aU:=by grind[eu]
theorem adu(a:ow dF=0)(b:qm (Z dF.au) (dK dF) (λ_=>aa)<0):eu dF=30:=by
 grind[eu]
theorem adv(a:ow dF=0)(b:U<Z dF.au)(c:O<Z dF.au)(d:lK (Z dF.au) (dK dF) U O=ab):eu dF=30:=by
 grind[eu]
theorem chk_0(c:ow dF=0)(d:¬qm (Z dF.au) (dK dF) (λ_=>aa)<0)(e:∀a,a<Z dF.au->∀b,b<Z dF.au->lK (Z dF.au) (dK dF) a b=aa):eu dF=0:=by
 grind[eu]
def zh(a:bM)(c:AV):Prop:=∃b,c=.aE [.agg (da b),I (eu a)]/\(eu a=0->qp (Z a.au) b (dK a))
theorem min2(a b:Int):pU [I a,I b]=T (I (if b<a then b else a)):=rfl
theorem max2(a b:Int):rT [I a,I b]=T (I (if a<b then b else a)):=rfl
theorem adw(c a b:Int):(S ((if b<a then b else a)<0)||S (c<=if a<b then b else a))= !(S (0<=a)&&S (a<c)&&(S (0<=b)&&S (b<c))):=by
 grind
@[simp] theorem adx(a:Int×Int):dh 2 (.agg (bX a))=T (bX a):=gS rfl rfl
@[simp] theorem ady(a:Int×Int):g (bX a) 0=I a.1:=rfl
@[simp] theorem adz(a:Int×Int):g (bX a) 1=I a.2:=rfl
theorem OW(c:bM)(d8:j5 c):∃ci,zh c ci/\PR C 274 [.agg (bn V c)] ci:=by
 have key:∃O P,C 274 [.agg (bn V c)] [] O P/\zh c O:=by
  refine WV.hq (Q:=λO P=>zh c O) ?_;have ret:∀(m:Nat->BitVec 8)(j:Int),eu c=j->(j=0->qp (Z c.au) m (dK c))->bd (aR 8 ab (.ptr 0 0 0 0) [.arr 0 8 [da m]]) λn=>bd (dh 8 n) λe=>zh c (.aE [(AV.agg [g e 0,g e 1,g e 2,g e 3,g e 4,g e 5,g e 6,g e 7]).pl,(I j).pl]):=by
   intro m j bf u;rw[xD (pP:=m) rfl,Q,zg,Q];exact⟨m,by rw[bf];rfl,λh=>u (bf▸h)⟩
  simp only[kT,Q,km,dZ,de,c3,a6,aH,Me,np,Dk,aJ,a8,A,er,bo];have em:([AV.int .u8 0,.int .u8 0,.int .u8 0,.int .u8 0,.int .u8 0,.int .u8 0,.int .u8 0,.int .u8 0]:List AV)=da λ_=>0#8:=rfl;refine f (OS _) ?_;simp only[bD,Q,G,i];have x:ow c=if(bV c.ar&& !S ((Z c.au:Int)<1)&& !S (8<(Z c.au:Int))&& !S (64<(Z c.eg:Int)))=aa then 1 else
   if c.au.all bV=aa then 1 else if c.eg.all (ot c)=aa then 1 else if((List.range (Z c.au)).any (uG c.au))=ab then 5 else 0:=rfl
  have R:(bV c.ar&& !S ((Z c.au:Int)<1)&& !S (8<(Z c.au:Int))&& !S (64<(Z c.eg:Int)))=aa->eu c=1:=λh=>by simp_all[Ei]
  refine gV (λco=>?_) (λh=>a7 (ret (λ_=>0#8) 1 (R (by rw[h];rfl)) (λh=>by cases h)));refine dy (λh=>a7 (ret (λ_=>0#8) 1 (by grind) (λh=>by cases h))) (λa4=>?_);refine dy (λh=>a7 (ret (λ_=>0#8) 1 (R (by rw[h];simp)) (λh=>by cases h))) (λa9=>?_);refine b (λh=>ret (λ_=>0#8) 1 (R (by rw[h];simp)) (λh=>by cases h)) (λdl=>?_);rw[co,a4,a9,dl,if_neg (by decide)]at x;clear R
  have e2:1<=Z c.au:=by simp at a4;omega
  have ah:Z c.au<=8:=by simp at a9;omega
  have d3:=d8.2;refine bB (z:=Nat) (λd=>I 0::I d::z8) (λd=>[.arr 0 8 [da λk=>if k<d then 1#8<<<k else 0#8]]) (λd=>Z c.au -d) (λd=>d<=Z c.au/\(c.au.take d).all bV=ab) 0 (by simp) ?_ rfl (by simp[em]);rintro d ⟨q,ak⟩ K J;simp only[z8,i,G,A,Q,a];refine b (λh=>?_) (λh=>?_)
  ·have h:d<Z c.au:=by simpa using h
   have N:d<8:=by omega
   simp only[aC h (g5 _),Q,aH,kp];refine f (OS _) ?_;simp only[bD,Q];refine c8 (λj=>ret _ 1 (Ei (by rw[x,if_pos (uz h j)]) (by decide)) (λh=>by cases h)) (λj=>?_);rw[w1,Ef,Q,s9 (pP:=λk=>if k<d then 1#8<<<k else 0#8) rfl N,Q,HP (pP:=λk=>if k<d then 1#8<<<k else 0#8) rfl N,Q,ba,Q];have:=J (d+1) ⟨h,by rw[mD h,ak,j];rfl⟩ (by omega)
   have d7:uH (λk=>if k<d then 1#8<<<k else 0#8) d (1#8<<<d)=λk=>if k<d+1 then 1#8<<<k else 0#8:=by
    funext k
    simp only[uH];by_cases w:k=d
    ·subst w;simp
    ·rw[if_neg w]
     by_cases r:k<d
     ·rw[if_pos r,if_pos (by omega)]
     ·rw[if_neg r,if_neg (by omega)]
   rw[d7];exact this
  have:d=Z c.au:=by simp at h;omega
  subst this;rw[dB]at ak;rw[ak,if_neg (by decide)]at x;clear J;refine bB (z:=Nat×(Nat->BitVec 8)) (λt=>I 0::I t.1::z8) (λt=>[.arr 0 8 [da t.2]]) (λt=>Z c.eg -t.1) (λt=>t.1<=Z c.eg/\(c.eg.take t.1).all (ot c)=ab/\qp (Z c.au) t.2 (qn s8 (c.eg.take t.1))) (0,λk=>if k<Z c.au then 1#8<<<k else 0#8) ⟨by simp,by simp,λk z n=>?_⟩ ?_
  ·simp only[z,if_true,qn,Tp,Kq,FB,s8]
   by_cases y:n<8
   ·rw[OT k (by omega) n y,hY]
    simp;omega
   ·rw[TF _ _ (by omega)]
    have:¬n<Z c.au:=by omega
    simp[this]
  rintro⟨o,m⟩ ⟨bi,U,u⟩ K J;simp only at bi U u J⊢;simp only[z8,i,G,A,Q,a];refine b (λh=>?_) (λh=>?_)
  ·have h:o<Z c.eg:=by simpa using h
   simp only[aC h (r1 _),Q,Mb,adx,ady,adz,min2,max2,A,gF];have B:=adw (Z c.au) c.eg[o].1 c.eg[o].2;have bb:ot c c.eg[o]=(S (0<=c.eg[o].1)&&S (c.eg[o].1<Z c.au)&&(S (0<=c.eg[o].2)&&S (c.eg[o].2<Z c.au))):=rfl;rw[<-bb]at B;have bad:ot c c.eg[o]=aa->eu c=1:=λj=>Ei (by rw[x,if_pos (uz h j)]) (by decide);refine dy (λj=>a7 (ret _ 1 (bad (by rw[j]at B;simpa using B.symm)) (λh=>by cases h))) (λw=>?_)
   refine b (λj=>ret _ 1 (bad (by rw[j]at B;simpa using B.symm)) (λh=>by cases h)) (λr=>?_);rw[w,r]at B;have bv:ot c c.eg[o]=true:=by simpa using B.symm
   have bw:=bv;rw[bb]at bw;simp only[bG,decide_eq_true_eq]at bw;obtain⟨n,y⟩:∃n:Nat,c.eg[o].1=n:=⟨c.eg[o].1.toNat,by omega⟩;obtain⟨E,b4⟩:∃E:Nat,c.eg[o].2=E:=⟨c.eg[o].2.toNat,by omega⟩;have fd:n<Z c.au:=by omega
   have el:E<Z c.au:=by omega
   have aQ:n<8:=by omega
   simp only[y,b4,w1,Ef,s9 (pP:=m) (N:=[.arr 0 8 [da m]]) (id:=0) rfl aQ,uI (pP:=m) (N:=[.arr 0 8 [da m]]) (id:=0) rfl aQ,Q,OQ,HP (pP:=m) (N:=[.arr 0 8 [da m]]) (id:=0) rfl aQ,ba (d3.lt h)];refine J (o+1,uH m n (m n|||1#8<<<E)) ⟨h,by rw[mD h,U,bv];rfl,?_⟩ (by simp;omega);rw[<-HK s8 h y b4];intro k z e;simp only[uH,b6];by_cases ac:k=n
   ·subst ac
    rw[if_pos rfl,ak2,u k z e];by_cases d2:e<8
    ·rw[OT E (by omega) e d2]
     by_cases ec:e=E
     ·subst ec;simp[el]
     ·simp[ec]
    ·rw[TF (1#8<<<E) e (by omega)]
     have:¬e<Z c.au:=by omega
     simp[this]
   ·rw[if_neg ac,u k z e]
    simp[ac]
  have:o=Z c.eg:=by simp at h;omega
  subst this;rw[dB]at U u;rw[U,if_neg (by decide)]at x;clear J;refine et (U:=Z c.au) (c:=λd=>I 0::I d::z8) (λd=>∀o,o<d->uG c.au o=aa) (by simp) rfl (λd q aq K af=>?_) (λaq K=>?_)
  ·simp only[z8,i,G,A,Q,a,q,decide_true,aC q (g5 _),aH,kp,Eg g5 (TG q)]
   have be:uG c.au d=(c.au.take d).contains c.au[d]:=by rw[uG,bC q]
   refine a7 (f (vK _ _ (by simp[Sm];omega)) ?_);refine b (λj=>ret _ 5 (Ei (by
    rw[x,if_pos];rw[FE];exact⟨d,by simpa using q,by rw[be];exact j⟩) (by decide)) (λh=>by cases h)) (λj=>?_)
   rw[ba,Q];refine af λo bi=>?_;by_cases L:o=d
   ·subst L;rw[be];exact j
   ·exact aq o (by omega)
  have ae:ow c=0:=by
   rw[x,if_neg];rw[OL (λn y=>aq n (by simpa using y))];decide
  clear x;simp only[z8,i,G,A,Q,a,ca,decide_false];refine bq ?_;rw[xD (pP:=m) rfl,Q];obtain⟨p,v,cs⟩:=adr m ah u;have v:qp (Z c.au) p (dK c):=v;refine f cs ?_;rw[Eh (pP:=m) rfl,Q];simp only[yk];rw[xD (pP:=p) rfl,Q,w1,Ef,Q,HN,Q];have d5:xC (Z c.au) ((1#8<<<(Z c.au)) -1#8) λ_=>true:=by
   intro n;by_cases y:n<8
   ·rw[OU _ (by omega) n y];simp
   ·rw[TF _ _ (by omega)]
    have:¬n<Z c.au:=by omega
    simp[this]
  refine f (HO p _ ah v d5) ?_;simp only[A,Q];refine b (λj=>ret p 30 (adu ae (by rw[OV];simpa using j)) (λh=>by cases h)) (λj=>?_);have d1:¬qm (Z c.au) (dK c) (λ_=>aa)<0:=by rw[OV];simpa using j
  refine et (U:=Z c.au) (c:=λd=>I 0::I d::z8) (λd=>∀k,k<d->∀e,e<Z c.au->lK (Z c.au) (dK c) k e=aa) (by simp) rfl (λd q ax K af=>?_) (λax K=>?_)
  ·simp only[z8,i,G,A,Q,a,q,decide_true]
   refine a7 ?_;refine et (U:=Z c.au) (c:=λd=>I 0::I d::z8) (λl=>∀e,e<l->lK (Z c.au) (dK c) d e=aa) (by simp) rfl (λl H aB X d4=>?_) (λaB X=>?_)
   ·have N:d<8:=by omega
    have br:l<8:=by omega
    have F:[Obj.arr 0 8 [da p]][0]?=T (.arr 0 8 [da p]):=rfl;have d9:xC (Z c.au) (p d&&&p l) λe=>dK c d e&&dK c l e:=by
     intro n;rw[Ct,v d q n,v l H n];cases S (n<Z c.au)<;>simp
    have ds:(p d).getLsbD l=dK c d l:=by rw[v d q l];simp[H]
    have d0:(p l).getLsbD d=dK c l d:=by rw[v l H d];simp[q]
    simp only[z8,i,G,A,Q,a,H,decide_true,cd,s9 F N,s9 F br,uI F N,uI F br,xD F,Bs,ze,zf,Bt,ds,d0];have d6:((d:Int) !=(l:Int))=(d !=l):=by
     rw[hY];simp;omega
    rw[d6];have yes:lK (Z c.au) (dK c) d l=ab->bd (T (AV.agg (da p))) λn=>bd (dh 8 n) λe=>zh c (.aE [(AV.agg [g e 0,g e 1,g e 2,g e 3,g e 4,g e 5,g e 6,g e 7]).pl,(I 30).pl]):=λj=>by
     have:=ret p 30 (adv ae q H j) (λh=>by cases h);rw[xD F]at this;exact this
    simp only[Q]at yes;have no:lK (Z c.au) (dK c) d l=aa->bd (aS .s .add (I l) (I 1)) λa0=>X [I 0,a0,.int .u8 0,.int .u8 0,.int .u8 0,.int .u8 0,.int .u8 0,.int .u8 0,.int .u8 0,.int .u8 0] [.arr 0 8 [da p]]:=λj=>by
     rw[ba,Q];refine d4 λe M=>?_;by_cases L:e=l
     ·subst L;exact j
     ·exact aB e (by omega)
    have j1:(d !=l&&dK c d l&&dK c l d)=aa->lK (Z c.au) (dK c) d l=S (nF (Z c.au) (dK c) (λe=>dK c d e&&dK c l e)<0):=λj=>by
     rw[lK,j,adt q H];rfl
    have ad:(d !=l&&dK c d l&&dK c l d)=aa->cp C 253 [.agg (da p),W (p d&&&p l),I (Z c.au)] [.arr 0 8 [da p]] λeq=>bd (aS .s .lss eq (I 0)) λes=>dY es (bd (dh 8 (.agg (da p))) λe=>zh c (.aE [(AV.agg [g e 0,g e 1,g e 2,g e 3,g e 4,g e 5,g e 6,g e 7]).pl,(I 30).pl])) (bd (aS .s .add (I l) (I 1)) λa0=>X [I 0,a0,.int .u8 0,.int .u8 0,.int .u8 0,.int .u8 0,.int .u8 0,.int .u8 0,.int .u8 0,.int .u8 0] [.arr 0 8 [da p]]):=λj=>by
     refine f (HO p _ ah v d9) ?_;simp only[A,Q];exact b (λr=>yes (by rw[j1 j,r])) (λr=>no (by rw[j1 j,r]))
    refine a7 (aZ (λw=>aZ (λr=>dx (λY=>ad (by rw[Y];simp)) (λY=>a7 (yes (by rw[lK,w,r,Y];rfl)))) (λr=>ad (by rw[r];simp))) (λw=>ad (by rw[w];rfl)))
   ·simp only[z8,i,G,A,Q,a,ca,decide_false]
    refine bq ?_;rw[ba,Q];refine af λk z e M=>?_;by_cases L:k=d
    ·subst L;exact aB e M
    ·exact ax k (by omega) e M
  ·simp only[z8,i,G,A,Q,a,ca,decide_false]
   exact bq (ret p 0 (chk_0 ae d1 ax) (λ_=>v))
 obtain⟨O,P,M,z⟩:=key;obtain⟨m,rfl,u⟩:=z;exact⟨_,⟨m,rfl,u⟩,_,P,M,cy⟩
theorem adA(a:bM)(c:j5 a):PR C 217 [.agg (bn V a)] (I (eu a)):=by
 refine Yk.pr ?_;obtain⟨e,⟨d,rfl,_⟩,b⟩:=OW a c;simp only[kT,Q,hF];refine f b ?_;simp only[ef,cv,dk,Q,zg];simp
theorem HS(a:bM)(e:j5 a):∃b,(eu a=0->qp (Z a.au) b (dK a))/\PR C 251 [.agg (bn V a)] (.aE [.agg (da b),.bool (eu a==0)]):=by
 obtain⟨g,⟨b,rfl,d⟩,c⟩:=OW a e;refine⟨b,d,XD.pr ?_⟩;simp only[kT,Q,hF];refine f c ?_;simp only[ef,cv,dk,Q,zg,c9];refine aD (zg b) ?_;simp[Im.snap,da,eu]
theorem HT(d:bM)(c:List Int)(g:Sm c):PR C 252 [.agg (bn V d),eS F cI c] (.bool (c.all (eF d))):=by
 refine ZU.pr ?_;simp only[kT,Q,a8,a6,aH,np,aJ];refine y5 (fN:=λp l=>aI l .res p (.bool (c.all (eF d)))) g (λh q=>⟨λb t n=>?_,λb o=>?_⟩) (λb=>hR b) (λb=>bE b)
 ·simp only[Q,i,G,A,a,b,decide_true,aC b (g4 _),aH,j4,gF,bo]
  have f:∀j k:Int,S (k<=j)= !S (j<k):=by grind
  have m:S (0<=c[h])= !S (c[h]<0):=f _ _;refine a7 (dx (λe=>?_) (λe=>a7 (n (by rw[eF,m,e];rfl))));rw[f];refine c8 (by grind[eF]) (λs=>?_);rw[g.inc b,Q];grind[eF]
 ·simp only[Q,i,G,A,a]
  exact bq o (by simp;omega)
theorem HU:([AV.int .u8 0,.int .u8 0,.int .u8 0,.int .u8 0,.int .u8 0,.int .u8 0,.int .u8 0,.int .u8 0]:List AV)=da λ_=>0#8:=rfl
theorem adB(a:U<=8):xC U ((1#8<<<U) -1#8) λ_=>true:=by
 intro b;grind[OU]
theorem OX(d:bM)(e:List Int)(y:j5 d)(s:Sm e):PR C 198 [.agg (bn V d),eS F cI e] (I (fy d e)):=by
 refine WG.pr ?_;obtain⟨g,k,v⟩:=HS d y;simp only[kT,Q,hF,km,dZ,de,c3,a8,a6,aH,np,aJ];refine f v ?_;simp only[ef,cv,dk,Q,HU];refine aD (Eh rfl) ?_;simp only[yk];refine eh (N:=[.arr 0 8 [da g]]) (!((eu d==0)&&e.all (eF d))) (λL x=>?_) ?_
 ·simp only[bD,Q]
  refine gV (λm=>f (HT d e s) ?_) (λm=>kB x (by rw[m];rfl));simp only[bD,Q];grind
 simp only[G];refine c8 (λc=>ig ?_) (λc=>?_)
 ·grind[fy,eu]
 simp only[bG,beq_iff_eq]at c;obtain⟨n,w⟩:=c;have k:=k n;obtain⟨t,_⟩:=vY (xB n);rw[fy,if_neg (by simp[n]),if_neg (by grind)];simp only[w1,Ef,HN,Q];refine bB (z:=Nat×BitVec 8) (λh=>[W h.2,I h.1]) (λ_=>[.arr 0 8 [da g]]) (λh=>Z e -h.1) (λh=>h.1<=Z e/\xC (Z d.au) h.2 λj=>(e.take h.1).all λl=>dK d l.toNat j) (0,(1#8<<<(Z d.au)) -1#8) ⟨by simp,by simpa using adB t.2⟩ ?_;rintro⟨p,up⟩ ⟨K,o⟩ J E
 simp only[i,G,A,Q,a];refine b (λc=>?_) (λc=>?_)
 ·have c:p<Z e:=by simpa using c
  obtain⟨q,z,B⟩:=qo (fi.1 w _ (bs c));have u:q<8:=by omega
  have r:[Obj.arr 0 8 [da g]][0]?=T (.arr 0 8 [da g]):=rfl;simp only[aC c (g4 _),Q,aH,j4,z,s9 r u,uI r u,ze,ba (s.lt c)];refine E (p+1,up&&&g q) ⟨c,λj=>?_⟩ (by simp;omega);rw[Ct,o j,k q B j];have m:=mD (dG:=λl:Int=>dK d l.toNat j) c;grind
 ·have:p=Z e:=by simp at c;omega
  subst this;rw[dB]at o;rw[xD (pP:=g) rfl,Q];refine f (HO g up t.2 k o) (ig ?_);refine(HQ λj _=>?_).symm;rw[hY,fi,ku,fi];grind[Int.toNat_natCast,qo,List.all_eq_true]
theorem adC(a:bM)(b c:Int)(d:j5 a):PR C 135 [.agg (bn V a),I b,I c] (I (fy a [b,c])):=by
 refine YV.pr ?_;simp only[kT,Q,hF,Ed];exact f (OX a [b,c] d (by simp[Sm])) (by simp)
theorem Ej(a:bM)(b:j5 a):PR C 132 [.agg (bn V a)] (I (fy a [])):=by
 refine aae.pr ?_;simp only[kT,Q,hF];refine⟨.c4,[.agg (bn V a),eS aa cI []],I (fy a []),by decide,?_,OX a [] b (by simp[Sm]),by simp,by simp⟩;exact .ck cy (.ck (.ai _ _) (.nil _))
theorem adD(b:bM)(e g:Int)(q:j5 b):PR C 244 [.agg (bn V b),I e,I g] (.bool (ox b e g)):=by
 refine Ym.pr ?_;obtain⟨l,d,n⟩:=HS b q;simp only[kT,Q,hF,km,dZ,de,c3,Ed];refine f n ?_;simp only[ef,cv,dk,Q,HU];refine aD (Eh rfl) ?_;simp only[yk,bo,G];refine aZ (λc=>f (HT b [e,g] (by simp[Sm])) (aZ (λa=>?_) (λa=>bE ?_))) (λc=>bE (by rw[ox,c];rfl))
 ·have i:eu b=0:=by simpa using c
  have d:=d i;obtain⟨r,_⟩:=vY (xB i);simp only[qJ,zP,ve,bG]at a;rw[ox,c,a.1,a.2];obtain⟨h,rfl,o⟩:=qo a.1;obtain⟨m,rfl,p⟩:=qo a.2;have k:h<8:=by omega
  have j:[Obj.arr 0 8 [da l]][0]?=T (.arr 0 8 [da l]):=rfl;simp only[s9 j k,uI j k,Q,w1,Bs,ze,zf,Bt];exact gU (by rw[d h o m];simp[p])
 grind[ox]
def qq(a:BitVec 8):Nat:=(vH[a.toNat]?.getD 0).toNat
def OY(c:Nat):Bool:=
 let a:=BitVec.ofNat 8 c
 c==0||(S (qq a<8)&&a.getLsbD (qq a)&&S ((a&&&(a -1#8)).toNat<a.toNat)&&(List.range 8).all λb=>(a&&&(a -1#8)).getLsbD b==(a.getLsbD b&& !(b==qq a)))
theorem adE:(List.range 256).all OY=true:=by decide+kernel
theorem adF{a:BitVec 8}(d:(a==0#8)=aa):qq a<8/\a.getLsbD (qq a)=ab/\(a&&&(a -1#8)).toNat<a.toNat/\∀b,(a&&&(a -1#8)).getLsbD b=(a.getLsbD b&& !(b==qq a)):=by
 have c:=a.isLt;have:=fi.1 adE a.toNat (by simpa using c);grind[BitVec.ofNat,OY]
theorem adG:Z vH=256:=by decide+kernel
theorem adH(a:BitVec 8)(g:(a==0#8)=aa):PR C 316 [W a] (I (qq a:Nat)):=by
 refine Zi.pr rfl ?_;simp only[cz,hZ];have b:a.toNat<Z vH:=by rw[adG];exact a.isLt
 have c:gQ (.str vH) (W a)=T (.int .u8 (vH[a.toNat].toNat:Int)):=by
  simp only[gQ,W,AV.pl];rw[if_pos (by omega)];simp[bC b]
 have d:(qq a:Int)=(vH[a.toNat].toNat:Int):=by
  rw[qq,bC b];rfl
 have go:bd (gQ (.str vH) (W a)) λe=>bd (jM (.int .i64) e) λf=>aI [] .res (AV.pl f) (I (qq a:Nat)):=by
  refine aD c ?_;simp only[AW,Q,Mt];rw[d];simp
 exact go
theorem adI(j:bM)(b:List Int)(aQ:j5 j)(O:Sm b):PR C 275 [.agg (bn V j),eS F cI b] (.bool (pb j b)):=by
 refine WW.pr ?_;obtain⟨h,p,X⟩:=HS (V:=V) j aQ;simp only[kT,Q,hF,km,dZ,de,c3,a8,a6,aH,np,aJ];refine f X ?_;simp only[ef,cv,dk,Q,HU];refine aD (Eh (pP:=λ_=>0#8) (a:=h) rfl) ?_;simp only[yk,bD,Q,cd];refine eh (N:=[.arr 0 8 [da h]]) (!(eu j==0&&(Z b:Int)==Z j.au&&b.all (eF j))) (λb4 u=>?_) ?_
 ·refine gV (λm=>dy (λq=>kB u ?_) (λq=>f (HT j b O) ?_)) (λm=>kB u (by rw[m];rfl))
  ·grind
  ·simp only[bD,Q]
   grind
 simp only[G];refine c8 (by grind[bE,pb]) (λr=>?_);rw[pb,r,cu];simp only[bG,beq_iff_eq]at r;obtain⟨⟨K,y⟩,w⟩:=r;have y:Z b=Z j.au:=by omega
 have p:=p K;obtain⟨ax,_⟩:=vY (xB K);have w:=λbe a9=>qo (fi.1 w be a9);rw[<-y];rw[<-y]at p ax;generalize br:dK j=l at*;have E:∀d(o:d<Z b),∃k:Nat,b[d]=k/\k<Z b/\b.getD d 0=k:=by
  intro d o;obtain⟨k,v,P⟩:=w b[d] (bs o);exact⟨k,v,by omega,by rw[oM,bC o];simpa using v⟩
 have fail:∀d c,d<Z b->c<Z b->(!l d c||l (b.getD d 0).toNat (b.getD c 0).toNat)=aa->((List.range (Z b)).all λd=>(List.range (Z b)).all λV=> !l d V||l (b.getD d 0).toNat (b.getD V 0).toNat)=false:=by
  intro d c o ae ah;rw[<-Kr,fi];intro ak;have:=ak d (by simpa using o);rw[fi]at this;have:=this c (by simpa using ae);rw[ah]at this;cases this
 have t:[Obj.arr 0 8 [da h]][0]?=T (.arr 0 8 [da h]):=rfl;refine et (U:=Z b) (c:=λe=>[ff,I e]) (λe=>∀d,d<e->∀c,c<Z b->(!l d c||l (b.getD d 0).toNat (b.getD c 0).toNat)=ab) (by simp) rfl (λe n aB S u=>?_) (λaB S=>?_)
 ·have N:e<8:=by omega
  simp only[i,G,A,Q,a,n,decide_true,s9 t N,uI t N];refine a7 ?_;refine bB (z:=BitVec 8) (λg=>[ff,W g]) (λ_=>[.arr 0 8 [da h]]) (λg=>g.toNat) (λg=>(∀c,g.getLsbD c=ab->(h e).getLsbD c=ab)/\∀c,c<Z b->(h e).getLsbD c=ab->g.getLsbD c=aa->(!l e c||l (b.getD e 0).toNat (b.getD c 0).toNat)=ab) (h e) ⟨λ_ r=>r,λc _ L s=>by rw[L]at s;cases s⟩ ?_;rintro g ⟨a0,bv⟩ bi bb;simp only[i,G,w0,adm,Q]
  refine c8 (λm=>?_) (λm=>?_)
  ·obtain⟨bw,ac,af,ad⟩:=adF m
   have z:=a0 _ ac;rw[p e n]at z;simp only[bG,decide_eq_true_eq]at z;obtain⟨x,aq⟩:=z;obtain⟨k,v,P,H⟩:=E e n;obtain⟨B,a3,a4,J⟩:=E (qq g) x;have R:k<8:=by omega
   refine f (adH g m) ?_;simp only[aC n (g4 _),aC x (g4 _),Q,aH,j4,v,a3,s9 t R,uI t R,Bs,w1,ze,zf,adn,HN];have ar:(h k).getLsbD B=l k B:=by rw[p k P B];simp[a4]
   rw[ar];refine c8 (λq=>bE (fail e (qq g) n x (by rw[H,J,aq];simpa using q))) (λq=>?_);refine bb (g&&&(g -1#8)) ⟨λc M=>?_,λc M L s=>?_⟩ af
   ·grind
   ·rw[ad c]at s
    by_cases ec:c=qq g
    ·rw[ec,H,J]
     simp[q]
    grind
  ·rw[O.inc n,Q]
   refine u λd o c M=>?_;by_cases U:d=e
   ·subst U
    cases Y:(h d).getLsbD c with
    |true=>
     grind
    |false=>
     rw[p d n c]at Y;grind
   grind
 ·simp only[i,G,A,Q,a,ca,decide_false]
  refine bq (hR ?_);grind
def ep(b:aj)(a:Int):Bool:=S (0<=a)&&S (a<Z b.d)
def pc(a:Lit):Bool:=a.ak==2||a.ak==4
def qs(a:aj)(c:aG)(b:Lit):Bool:=ep a c.aq&&ep a b.aq&&b.ak !=5
abbrev Edge:=(Int×Int)×Bool
def jD(d:aj)(c:aG)(b:List Edge)(a:Lit):List Edge:=if qs d c a=ab then b++[((c.aq,a.aq),pc a)]else b
def pd(c:aj)(b:List Edge)(a:aG):List Edge:=a.ae.foldl (jD c a) b
def kv(a:aj):List Edge:=a.ah.foldl (pd a) []
theorem OZ(b:aj)(a:Int):PR C 203 [.agg (cP V F b),I a] (.bool (ep b a)):=by
 refine ZH.pr ?_;simp only[dS,Q,a6,aH,iy,aJ,a8,gF,A,bo,G];exact aZ (by simp_all[ep]) (by grind[bE,ep])
theorem O0(a:Lit):PR C 88 [.agg (a5 V a)] (.bool (pc a)):=by
 refine X0.pr ?_;simp only[nm,Q,a6,aH,oY,aJ,c9,bo,G];exact dx (by simp_all[pc]) (by simp_all[pc])
variable{bp b2:Bool}
theorem O1(a:aj)(d:aG)(e:Lit):PR C 137 [.agg (cP V F a),.agg (aP bp d),.agg (a5 b2 e)] (.bool (qs a d e)):=by
 refine aaf.pr ?_;simp only[dS,l3,nm,Q,a6,aH,fQ,xh,oY,uf,aJ,cd,bo,G];refine f (OZ a _) (aZ (λb=>?_) (λb=>bE (by rw[qs,b];rfl)));exact f (OZ a _) (aZ (λc=>gU (by rw[qs,b,c];rfl)) (λc=>bE (by rw[qs,c];simp)))
def mH(a:Edge):List AV:=bX a.1
def qt(a:Edge):List AV:=cB a.2
def nG(id:Nat)(a:List Edge):AV:=if Z a=0 then .dI else .q id (Z a -1) 0 (Z a)
def vZ(a:List Edge):List Obj:=if Z a=0 then[.arr 0 2 [],.arr 0 1 []]else[.arr 0 2 [],.arr 0 1 [],.arr (Z a -1) 2 (a.map mH),.arr (Z a -1) 1 (a.map qt)]
theorem adJ(a:List Edge)(b:Edge)(f:Z a<1099511627776):∃d,cx 2 16 (nG 2 a) (.sl aa [bX b.1]) (vZ a)=T (nG 2 (a++[b]),d)/\cx 1 1 (nG 3 a) (.sl aa [cB b.2]) d=T (nG 3 (a++[b]),vZ (a++[b])):=by
 by_cases e:Z a=0
 ·have:a=[]:=by grind
  subst this;exact⟨[.arr 0 2 [],.arr 0 1 [],.arr 0 2 [bX b.1]],rfl,rfl⟩
 ·refine⟨[.arr 0 2 [],.arr 0 1 [],.arr (Z a) 2 ((a++[b]).map mH),.arr (Z a -1) 1 (a.map qt)],?_,?_⟩
  ·simp only[nG,vZ,if_neg e,fb,gz]
   rw[if_neg (by omega)];have c:([.arr 0 2 [],.arr 0 1 [],.arr (Z a -1) 2 (a.map mH),.arr (Z a -1) 1 (a.map qt)]:List Obj)[2]?=T (.arr (Z a -1) 2 (a.map mH)):=rfl;simp only[cx,hQ,qJ,zP,r1,beq_self_eq_true,ve,if_true,AV.isNil,cZ,if_false,c,kd,true_and,di,gz];rw[if_pos (by omega),fW (by simp),show Z a -1+1=Z a by omega];simp[mH]
  ·simp only[nG,vZ,if_neg e,fb,gz]
   rw[if_neg (by omega),if_neg (by omega)];have c:([.arr 0 2 [],.arr 0 1 [],.arr (Z a) 2 ((a++[b]).map mH),.arr (Z a -1) 1 (a.map qt)]:List Obj)[3]?=T (.arr (Z a -1) 1 (a.map qt)):=rfl;simp only[cx,hQ,qJ,zP,Vr,beq_self_eq_true,ve,if_true,AV.isNil,cZ,if_false,c,kd,true_and,di,gz];rw[if_pos (by omega),fW (by simp),show Z a -1+1=Z a by omega];simp[qt]
theorem O2(id:Nat)(a:List Edge):(nG id a).pl=nG id a:=by unfold nG;split<;>rfl
theorem adK(a:List Edge):aI (vZ a) .res (.aE [(nG 2 a).pl,(nG 3 a).pl]) (.aE [eS aa bX (a.map (·.1)),eS aa cB (a.map (·.2))]):=by
 rw[O2,O2];by_cases e:Z a=0
 ·have:a=[]:=by grind
  subst this;exact .aE _ _ _ (.ck (.dI _ _) (.ck (.dI _ _) (.nil _)))
 ·simp only[nG,vZ,if_neg e]
  refine .aE _ _ _ (.ck ?_ (.ck ?_ (.nil _)))
  ·have:=fx (N:=[.arr 0 2 [],.arr 0 1 [],.arr (Z a -1) 2 (a.map mH),.arr (Z a -1) 1 (a.map qt)]) (id:=2) (U:=2) (O:=Z a -1) (a2:=bX) (o:=a.map (·.1)) (by simp_all[mH]) (by simp)
   grind
  ·have:=fx (N:=[.arr 0 2 [],.arr 0 1 [],.arr (Z a -1) 2 (a.map mH),.arr (Z a -1) 1 (a.map qt)]) (id:=3) (U:=1) (O:=Z a -1) (a2:=cB) (o:=a.map (·.2)) (by simp_all[qt]) (by simp)
   grind
theorem Ek(c:aj)(d:aG):∀(b:List Lit)(a:List Edge),Z (b.foldl (jD c d) a)<=Z a+Z b
 |[],a=>by simp
 |x::b,a=>by
  have:=Ek c d b (jD c d a x);grind[jD]
theorem Bu(c:aj)(d:Nat):∀(b:List aG)(_:∀r∈b,Z r.ae<=d)(a:List Edge),Z (b.foldl (pd c) a)<=Z a+Z b*d
 |[],_,a=>by simp
 |r::b,e,a=>by
  have f:=e r (by simp);have g:=Ek c r r.ae a;have h:=Bu c d b (by grind) (pd c a r);grind[pd,List.length_cons,Nat.succ_mul]
def ky(a:aj):Prop:=Z a.ah<=100/\(∀b∈a.ah,Z b.ae<=100)/\Z a.d<=1000
theorem adL(c:aj)(n:ky c):PR C 143 [.agg (cP V F c)] (.aE [eS aa bX ((kv c).map (·.1)),eS aa cB ((kv c).map (·.2))]):=by
 refine Xp.pr ?_;simp only[dS,Q,dZ,eA,a6,aH,fQ,mz,aJ,a8,c3,de,fm];refine bB (z:=Nat) (λd=>[nG 2 ((c.ah.take d).foldl (pd c) []),nG 3 ((c.ah.take d).foldl (pd c) []),I d]) (λd=>vZ ((c.ah.take d).foldl (pd c) [])) (λd=>Z c.ah -d) (λd=>d<=Z c.ah) 0 (by simp) ?_;intro d L E w;simp only[i,G,A,Q,a];refine b (λg=>?_) (λg=>?_)
 ·have g:d<Z c.ah:=by simpa using g
  have p:=w (d+1) g (by omega);simp only[jB g]at p;have K:=n.2.1 _ (bs g);have O:=n.1;have s:=Bu c 100 (c.ah.take d) (λy v=>n.2.1 y (qL v)) [];rw[gb,de]at s;have N:min d (Z c.ah)*100<=100*100:=k9 _ (by omega);generalize(c.ah.take d).foldl (pd c) []=j at*;simp only[aC g (kQ _ _),Q,kR,uc,o4,qg,o5,o6,o7,o8,qh,o9,om]
  refine bB (z:=Nat) (λe=>nG 2 ((c.ah[d].ae.take e).foldl (jD c c.ah[d]) j)::nG 3 ((c.ah[d].ae.take e).foldl (jD c c.ah[d]) j)::I e::aP V c.ah[d]) (λe=>vZ ((c.ah[d].ae.take e).foldl (jD c c.ah[d]) j)) (λe=>Z c.ah[d].ae -e) (λe=>e<=Z c.ah[d].ae) 0 (by simp) ?_;intro e M H x;simp only[i,G,o4,qg,o5,o6,o7,o8,qh,o9,om,a8,A,Q,a];refine b (λh=>?_) (λh=>?_)
  ·have h:e<Z c.ah[d].ae:=by simpa using h
   have l:=x (e+1) h (by omega);simp only[jB h]at l;have t:=Ek c c.ah[d] (c.ah[d].ae.take e) j;rw[gb]at t;generalize(c.ah[d].ae.take e).foldl (jD c c.ah[d]) j=k at*;simp only[aC h (h9 _ _),Q,l1,a6,aH,uf,aJ,bo,uE,vW]
   have u:(AV.agg [AV.str c.ah[d].ar,I c.ah[d].aq,eS V cT c.ah[d].ad,I c.ah[d].af.ak,.str c.ah[d].af.ar,.str c.ah[d].af.aB,I c.ah[d].af.aQ,eS V (a5 V) c.ah[d].ae,I c.ah[d].bf])=.agg (aP V c.ah[d]):=rfl;rw[u];refine f (O1 c c.ah[d] c.ah[d].ae[e]) (b (λm=>?_) (λm=>?_))
   ·have o:jD c c.ah[d] k c.ah[d].ae[e]=k++[((c.ah[d].aq,c.ah[d].ae[e].aq),pc c.ah[d].ae[e])]:=by rw[jD,if_pos m]
    rw[o]at l;obtain⟨B,q,r⟩:=adJ k ((c.ah[d].aq,c.ah[d].ae[e].aq),pc c.ah[d].ae[e]) (by omega);refine bj q (f (O0 c.ah[d].ae[e]) ?_);refine aD (dD:=.sl aa [cB (pc c.ah[d].ae[e])]) rfl (bj r ?_);rw[ba,Q];exact l
   ·have o:jD c c.ah[d] k c.ah[d].ae[e]=k:=by rw[jD,if_neg (by rw[m];decide)]
    rw[o]at l;rw[ba,Q];exact l
  ·have:e=Z c.ah[d].ae:=by simp at h;omega
   subst this;rw[ba,Q,dB];exact p
 ·have:d=Z c.ah:=by simp at g;omega
  subst this;rw[dB];exact adK _
theorem HV(c:O<U)(d:y<U):PR C 82 [eM U eT,I O,I y] (.bool (O==y||eT O y&&eT y O)):=by
 refine Xh.pr ?_;have e:((O:Int)==(y:Int))=(O==y):=by rw[hY];simp;omega
 simp only[c9,Q,e,s7 c,s7 d,aH,xy,q9 c,q9 d,vF,bo,G];exact dx (λa=>aZ (λb=>gU (by rw[a,b];rfl)) (λb=>bE (by rw[a,b];rfl))) (λa=>hR (by rw[a];rfl))
def mI(id:Nat)(a:List z):AV:=if Z a=0 then .dI else .q id (Z a -1) 0 (Z a)
def mJ(b:List Obj)(d:Nat)(c:z->List AV)(a:List z):List Obj:=if Z a=0 then b else b++[.arr (Z a -1) d (a.map c)]
variable{dD:z}{fN:AV -> List Obj -> Prop}
theorem O3{bytes:Nat}(d:Z (a2 dD)=U)(c:(Z o+1)*bytes<=2^47)(a:fN (mI (Z N) (o++[dD])) (mJ N U a2 (o++[dD]))):
 cc (cx U bytes (mI (Z N) o) (.sl aa [a2 dD]) (mJ N U a2 o)) fN:=by
 by_cases b:Z o=0
 ·have:o=[]:=by grind
  simp_all[mI,mJ,cx,hQ,AV.isNil]
 ·refine bj ?_ a
  have e:(N++[Obj.arr (Z o -1) U (o.map a2)])[Z N]?=T (.arr (Z o -1) U (o.map a2)):=by simp
  grind[mI,mJ,cx,hQ,AV.isNil]
theorem adM(id:Nat)(a:List z):(mI id a).pl=mI id a:=by unfold mI;split<;>rfl
theorem adN(c:∀a∈o,bO (a2 a)):aI (mJ N U a2 o) .res (mI (Z N) o).pl (eS aa a2 o):=by
 rw[adM];by_cases b:Z o=0
 ·have:o=[]:=by grind
  subst this;exact .dI _ _
 simp_all[mI,mJ,fx]
@[simp] theorem adO(id:Nat)(a:List z)(b:List Obj):fX .sl (mI id a) b=T (I (Z a)):=by
 unfold mI;split
 ·rename_i c;simp[fX,c]
 ·rfl
variable{M:aj}
theorem Bv:∀a∈kv M,(0<=a.1.1/\a.1.1<Z M.d)/\0<=a.1.2/\a.1.2<Z M.d:=by
 have h:∀(e:aG)(b:List Lit)(c:List Edge),(∀a∈c,(0<=a.1.1/\a.1.1<Z M.d)/\0<=a.1.2/\a.1.2<Z M.d)->∀a∈b.foldl (jD M e) c,(0<=a.1.1/\a.1.1<Z M.d)/\0<=a.1.2/\a.1.2<Z M.d:=by
  intro e b;induction b with
  |nil=>grind
  |cons k b f=>
   intro c g;refine f _ λa j=>?_;grind[jD,qs,ep]
 have i:∀(b:List aG)(c:List Edge),(∀a∈c,(0<=a.1.1/\a.1.1<Z M.d)/\0<=a.1.2/\a.1.2<Z M.d)->∀a∈b.foldl (pd M) c,(0<=a.1.1/\a.1.1<Z M.d)/\0<=a.1.2/\a.1.2<Z M.d:=by
  intro b;induction b with
  |nil=>grind
  |cons e b f=>exactλc g=>f _ (h e e.ae c g)
 exact i M.ah [] (by simp)
def sd(a:aj):cO:=qn (λ_ _=>aa) ((kv a).map (·.1))
def iF(a:aj):cO:=jC (sd a) (Z a.d)
theorem adP(a:hB N):D9 Y (I ((0:Nat):Int)) N hB:=by
 unfold D9;refine bB (z:=Unit) (λ_=>[I 0]) (λ_=>N) (λ_=>0) (λ_=>True) () trivial ?_;intro _ _ b _;simp only[G,A,Q];exact bq a
theorem El(g:aj)(p:ky g):PR C 81 [.agg (cP V F g)] (eM (Z g.d) (iF g)):=by
 refine Xg.pr ?_;have S:=Bv (M:=g);simp only[dS,Q,dZ,eA,a6,aH,fQ,iy,aJ,a8,c3];have au:=p.2.2;have U:Z (kv g)<=10000:=by
  have:=Bu g 100 g.ah p.2.1 [];have aq:Z g.ah*100<=100*100:=k9 _ p.1;simp only[de]at this;unfold kv;omega
 have L:=adL (V:=V) (F:=F) g p;rw[iF,sd];generalize Z g.d=l at*;generalize kv g=j at*;refine bB (z:=Nat×List Obj) (λc=>[sb c.1,I c.1]) (λc=>c.2) (λc=>l -c.1) (λc=>c.1<=l/\xA l (λ_ _=>aa) c.1 c.2) (0,[.arr 0 1 []]) ⟨by simp,⟨by simp,λe=>absurd e (by simp),λv O=>absurd O (by simp)⟩⟩ ?_;rintro⟨h,r⟩ ⟨W,s⟩ af t;simp only at W s t⊢;simp only[Q,i,G,A,a];refine b (λe=>?_) (λe=>?_)
 ·have e:h<l:=by simpa using e
  refine bj (qj (by omega) (by omega)) ?_;rw[zd];obtain⟨k,J,K⟩:=s.grow (by omega);refine aD (dD:=.sl aa [[.q (Z r) 0 0 l]]) rfl (bj J ?_);rw[ba,Q];exact t (h+1,k) ⟨e,K⟩ (by simp;omega)
 ·have:h=l:=by simp at e;omega
  subst this;clear t;refine f L ?_;simp only[ef,cv,dk,Q,a8];by_cases y:h=0
  ·subst y
   have N:j=[]:=by
    cases j with
    |nil=>rfl
    |cons w j=>grind
   subst N;refine bB (z:=Unit) (λ_=>[I 0]) (λ_=>r) (λ_=>0) (λ_=>True) () trivial ?_;intro _ _ H _;simp only[G,A,Q,oL,de];refine bq ?_;refine adP (hB:=λk=>aI k .res (sb 0).pl (eM 0 _)) ?_;exact .dI _ _
  ·have Y:=s.ON (by omega)
   have ac:sb h=.q 2 (h -1) 0 h:=by rw[sb,if_neg y]
   rw[ac];have M:∀n∈j.map (λad:Edge=>ad.1),(0<=n.1/\n.1<(h:Int))/\0<=n.2/\n.2<(h:Int):=by
    intro n P;obtain⟨w,R,rfl⟩:=du.1 P;exact S w R
   have ar:Z (j.map (·.1))<=10000:=by simpa using U
   generalize j.map (·.1)=m at*;refine bB (z:=Nat×List Obj) (λc=>[I c.1]) (λc=>c.2) (λc=>Z m -c.1) (λc=>c.1<=Z m/\iQ c.2 2 (h -1) kW h (qn (λ_ _=>aa) (m.take c.1))) (0,r) ⟨by simp,Y.congr λv V _ _=>by simp[qn]⟩ ?_;rintro⟨u,ae⟩ ⟨X,o⟩ H B;simp only at X o B⊢;simp only[Q,G,A,a];refine b (λe=>?_) (λe=>?_)
   ·have e:u<Z m:=by simpa using e
    have z:=M _ (bs e);simp only[aC e (r1 _),Q,iaaO_0,iaaO_1,aH,Dg,Dh,fo,aJ];refine OM o z.1 z.2 λk x=>?_;rw[ba,Q];refine B (u+1,k) ⟨e,?_⟩ (by simp;omega);grind[HK]
   ·have:u=Z m:=by simp at e;omega
    subst this;rw[dB]at o;exact OH (by omega) o λk x=>x.snap
def HW(c:aj)(a b:Nat):Bool:=a==b||iF c a b&&iF c b a
def kX(b:aj)(c:aG)(a:Lit):Bool:=qs b c a&&pc a&&HW b c.aq.toNat a.aq.toNat
def qu(c:aj)(a:List (Int×Int))(b:aG):List (Int×Int):=match b.ae.find? (kX c b)with|some d=>a++[(90,d.bf)]|none=>a
def se(a:aj):List (Int×Int):=a.ah.foldl (qu a) []
theorem HX(c:aj):∀(b:List aG)(a:List (Int×Int)),Z (b.foldl (qu c) a)<=Z a+Z b
 |[],a=>by simp
 |r::b,a=>by
  have:=HX c b (qu c a r);grind[qu]
theorem zi(b:ep M aU=ab):∃a:Nat,aU=a/\a<Z M.d:=by
 simp only[ep,bG,decide_eq_true_eq]at b;exact⟨aU.toNat,by omega,by omega⟩
theorem O4(d:aj)(x:ky d)(ax:Z d.ah<=20):PR C 71 [.agg (cP V F d)] (eS aa bX (se d)):=by
 refine YD.pr ?_;simp only[dS,Q,dZ,eA,a6,aH,fQ,mz,aJ,a8,c3];refine f (El d x) ?_;refine bB (z:=Nat) (λg=>[mI 1 ((d.ah.take g).foldl (qu d) []),I g]) (λg=>mJ [.arr 0 2 []] 2 bX ((d.ah.take g).foldl (qu d) [])) (λg=>Z d.ah -g) (λg=>g<=Z d.ah) 0 (by simp) ?_;intro g ac U O;simp only[i,G,A,Q,a,bo,adO];refine aZ (λh=>?_) (λh=>bq ?_)
 ·have h:g<Z d.ah:=by simpa using h
  have P:=O (g+1) h (by omega);simp only[jB h]at P;have Y:=x.2.1 _ (bs h);have E:=HX d (d.ah.take g) [];rw[gb,de]at E;generalize(d.ah.take g).foldl (qu d) []=l at*;have B:S ((Z l:Int)<20)=true:=by simp;omega
  refine a7 ?_ B;simp only[aC h (kQ _ _),Q,kR,uc,o4,qg,o5,o6,o7,o8,qh,o9,om];generalize d.ah[g]=c at*;refine et (U:=Z c.ae) (c:=λe=>mI 1 l::I e::aP V c) (λe=>∀j(n:j<Z c.ae),j<e->kX d c c.ae[j]=aa) (by simp) rfl (λe v w u L=>?_) (λw u=>?_)
  ·simp only[i,G,o4,qg,o5,o6,o7,o8,qh,o9,om,a8,A,Q,a,v,decide_true,aC v (h9 _ _),l1,vE,uq,ur,vR,uu,uv,uw,vS,ux,uy]
   have H:(AV.agg [AV.str c.ar,I c.aq,eS V cT c.ad,I c.af.ak,.str c.af.ar,.str c.af.aB,I c.af.aQ,eS V (a5 V) c.ae,I c.bf])=.agg (aP V c):=rfl;have J:(AV.agg [I c.ae[e].ak,.str c.ae[e].ar,I c.ae[e].aq,eS V cT c.ae[e].ad,.str c.ae[e].bind,.str c.ae[e].af,I c.ae[e].gN,I c.ae[e].op,I c.ae[e].bf])=.agg (a5 V c.ae[e]):=rfl;rw[H,J]
   have no:kX d c c.ae[e]=aa->bd (aS .s .add (I e) (I 1)) λR=>u (mI 1 l::R::aP V c) (mJ [.arr 0 2 []] 2 bX l):=λp=>by
    rw[ba,Q];refine L λj n au=>?_;grind
   refine a7 (f (O1 d c c.ae[e]) (aZ (λm=>f (O0 c.ae[e]) (aZ (λr=>?_) (λr=>bq (no (by rw[kX,r];simp))))) (λm=>bq (no (by rw[kX,m];rfl)))));have q:=m;simp only[qs,bG]at q;obtain⟨o,k,M⟩:=zi q.1.1;obtain⟨t,y,N⟩:=zi q.1.2;have X:kX d c c.ae[e]=(o==t||iF d o t&&iF d t o):=by
    rw[kX,m,r,k,y,HW];simp
   rw[k,y];refine f (HV (eT:=iF d) M N) ?_;refine b (λp=>?_) (λp=>?_)
   ·rw[uE,Q,vW,Q]
    refine O3 (N:=[.arr 0 2 []]) (a2:=bX) rfl (by omega) ?_;rw[ba,Q];have K:c.ae.find? (kX d c)=T c.ae[e]:=by
     rw[TH];exact(by grind)
    simp_all[qu]
   ·rw[<-k]
    exact no (by grind)
  ·simp only[i,G,o9,a8,A,Q,a,ca,decide_false]
   refine bq ?_;rw[ba,Q];have K:c.ae.find? (kX d c)=none:=by
    rw[FF];intro o k;obtain⟨j,n,rfl⟩:=jS.1 k;rw[w j n n];decide
   grind[qu]
 ·have:g=Z d.ah:=by simp at h;omega
  subst this;rw[dB];exact adN (N:=[.arr 0 2 []]) (by simp)
def db(a b:aw):Int:=if a.aq<b.aq then -1 else if b.aq<a.aq then 1 else jj a.ad b.ad
def qv(op:Int)(a b:aO):Bool:=if op=1 then l5 a b==0 else if op=2 then l5 a b !=0 else if op=3 then S (l5 a b<0)else S (l5 a b<=0)
theorem HY(a c:aw)(e:eO a.ad):PR C 74 [.agg (cF V a),.agg (cF F c)] (I (db a c)):=by
 refine Z8.pr ?_;simp only[sR,Q,a6,aH,p5,ug,aJ,A,er];refine b (by simp_all[db]) (λd=>?_);rw[db,if_neg (by grind)];refine b (by simp_all) (λd=>?_);rw[if_neg (by grind)];exact f (kq _ _ e) (ig rfl)
theorem adQ(op:Int)(a c:aO)(e:Sm a.s):PR C 142 [I op,.agg (cV a),.agg (cV c)] (.bool (qv op a c)):=by
 refine Zy.pr ?_;simp only[xf,Q,oa];refine f (M8 _ _ e) ?_;simp only[c9,cd,A,jN,Q];refine b (by simp_all[qv]) (λd=>?_);rw[qv,if_neg (by grind)];refine b (by simp_all) (λd=>?_);rw[if_neg (by grind)];refine b (by simp_all) (by simp_all)
def uJ(d:List Int)(args:List aO)(a:Nat):Bool:=match args[a]?,d[a]? with|some b,T c=>qX b&&b.ty==c|_,_=>ab
def xE(d:aj)(c:cD)(a:aw):Bool:=if c.of<0 then a.af== -1 else match d.m[c.of.toNat]? with|none=>aa|some b=>S (0<=a.af)&&(S (a.af<Z b.au)&&a.af !=fy b [])
def v5(c:aj)(b:cD)(a:aw):Bool:=(Z a.ad:Int)==Z b.bb&&(List.range (Z a.ad)).all (uJ b.bb a.ad)&&xE c b a
def qw(b:aj)(a:aw):Bool:=S (0<=a.aq)&&match b.d[a.aq.toNat]? with|none=>aa|some c=>v5 b c a
def kz(a:aj):Prop:=∀b∈a.d,b.of<Z a.m
theorem xF(a:O<U)(b:b9 O=aa):(List.range U).all b9=false:=by
 grind
theorem adR(j:aj)(c:aw)(u:dW j)(J:kz j)(E:Sm c.ad):PR C 73 [.agg (cP V F j),.agg (cF bp c)] (.bool (qw j c)):=by
 refine Ws.pr ?_;simp only[dS,sR,Q,a6,aH,oe,iy,p5,ug,uh,aJ,a8,A,gF,bo,G];refine dy (λh=>a7 (bE ?_)) (λh=>?_)
 ·grind[decide,qw]
 have x:S (0<=c.aq)=true:=by simp at h⊢;omega
 rw[qw,x,cu];obtain⟨n,B⟩:∃n:Nat,c.aq=n:=⟨c.aq.toNat,by grind⟩;simp only[B,ej];refine dy (λh=>a7 (bE ?_)) (λh=>?_)
 ·grind
 have p:n<Z j.d:=by simp at h;omega
 rw[bC p];have o:=bs p;have N:=u.q0 _ o;have M:=J _ o;simp only[aC p (hD _ _),Q,a6,aH,ue,aJ,a8,cd,ub,vD,qa,qb,qc,q2,qd,qe,qf];generalize j.d[n]=e at*;refine b (λh=>bE ?_) (λh=>?_)
 ·grind[v5]
 have L:Z c.ad=Z e.bb:=by simp at h;omega
 have z:v5 j e c=((List.range (Z c.ad)).all (uJ e.bb c.ad)&&xE j e c):=by
  rw[v5];have:((Z c.ad:Int)==Z e.bb)=true:=by simpa using h
  rw[this];rfl
 rw[z];refine et (U:=Z c.ad) (c:=λg=>ff::I g::bF V e) (λg=>(List.range g).all (uJ e.bb c.ad)=ab) (by simp) rfl (λg l t v H=>?_) (λt v=>?_)
 ·have s:g<Z e.bb:=by omega
  have y:uJ e.bb c.ad g=(qX c.ad[g]&&c.ad[g].ty==e.bb[g]):=by
   rw[uJ,bC l,bC s]
  simp only[i,G,qa,qb,qc,q2,qd,qe,qf,A,Q,a,l,decide_true,aC l (lZ _),aC s (g4 _),oa,a6,aH,AK,j4,aJ,cd];refine a7 (f (uj _) ?_);simp only[bD,Q];refine gV (λw=>?_) (λk=>a7 (bE (by rw[xF l (by rw[y,k];rfl)];rfl)));refine b (λk=>bE ?_) (λk=>?_)
  ·grind
  ·have:(c.ad[g].ty==e.bb[g])=true:=by simpa using k
   rw[E.inc l,Q];exact H (by grind)
 ·rw[t,cu,xE]
  simp only[i,G,qa,qb,qc,q2,qd,qe,qf,A,Q,a,ca,decide_false];refine bq (b (λk=>?_) (λk=>?_))
  ·rw[if_pos (by grind)]
   simp only[c9,Q];simp
  ·rw[if_neg (by grind)]
   obtain⟨r,o⟩:∃r:Nat,e.of=r:=⟨e.of.toNat,by grind⟩;have q:r<Z j.m:=by omega
   simp only[o,ej,bC q,aC q (jh _ _),Q,a6,aH,np,hF,a8,A,aJ];refine aZ (λw=>aZ (λK=>?_) (by grind[bE])) (by grind[bE]);refine f (zc _ (u.aV _ (bs q))) ?_;simp only[cd,Q];simp_all
def uK(a:List aw):Nat->Bool
 |0=>ab
 |j+1=>match a[j]?,a[j+1]? with|some b,T c=>S (db b c<0)|_,_=>ab
def lL(d:aj)(a:List aw)(b:Nat):Bool:=(match a[b]? with|some c=>qw d c|none=>ab)&&uK a b
def jk(b:aj)(a:List aw):Bool:=(List.range (Z a)).all (lL b a)
theorem adS(d:aj)(b:List aw)(v:dW d)(u:kz d)(o:Sm b)(l:∀r∈b,eO r.ad):PR C 26 [.agg (cP V F d),eS b2 (cF bp) b] (.bool (jk d b)):=by
 refine W4.pr ?_;simp only[dS,Q,a8,fQ];refine et (U:=Z b) (c:=λc=>[ff,I c]) (λc=>(List.range c).all (lL d b)=ab) (by simp) rfl (λc e p k z=>?_) (λp k=>?_)
 ·simp only[i,G,A,Q,a,e,decide_true,aC e (hE _ _),my,er]
  have t:lL d b c=(qw d b[c]&&uK b c):=by rw[lL,bC e]
  have no:lL d b c=aa->aI [] .res (AV.pl ff) (.bool (jk d b)):=λh=>bE (xF e h);have yes:lL d b c=ab->bd (aS .s .add (I c) (I 1)) λx=>k [ff,x] []:=λh=>by
   rw[o.inc e,Q];grind
  refine a7 (eh (N:=[]) (!lL d b c) (λB n=>?_) ?_)
  ·rw[t]at n
   refine f (adR d b[c] v u (l _ (bs e)).1) ?_;simp only[bD,Q];refine gV (λq=>?_) (by grind);cases c with
   |zero=>
    refine aZ (λj=>by simp at j) (λ_=>kB n (by rw[q];rfl))
   |succ g=>
    have m:g<Z b:=by omega
    have w:aS .s .sub (I ((g+1:Nat):Int)) (I 1)=T (I (g:Int)):=by
     rw[og (by omega) (by have:=o.lt e;omega)];simp
    refine aZ (λ_=>?_) (λj=>by simp at j);rw[w,Q];simp only[aC m (hE _ _),Q,my];refine f (HY b[g] b[g+1] (l _ (bs m))) ?_;simp only[gF,Q];grind[uK]
  ·simp only[G]
   exact c8 no yes
 ·simp only[i,G,A,Q,a,ca,decide_false]
  exact bq (hR p)
def zV:aO:=⟨0,0,[]⟩
def bW(b:aX)(a:aM):aO×Bool:=if a.aB=[]then(a.const,ab)else match b.ax.findIdx? (λd=>d==a.aB)with|some c=>(b.bl.getD c zV,ab)|none=>(zV,aa)
theorem HZ(a:aX)(c:aM)(o:Sm a.ax)(q:Z a.bl=Z a.ax):PR C 62 [.agg (cE V a),.agg (cT c)] (.aE [.agg (cV (bW a c).1),.bool (bW a c).2]):=by
 refine MW.pr ?_;simp only[AJ,ud,Q,a6,aH,nn,Mo,Mp,aJ,fF,AG,l2];have j:∀d:aO,(AV.agg [g (cV d) 0,g (cV d) 1,g (cV d) 2])=.agg (cV d):=λ_=>rfl;have m:∀(d:aO)(n:Bool),aI [] .res (.aE [(AV.agg (cV d)).pl,(AV.bool n).pl]) (.aE [.agg (cV d),.bool n]):=by simp[Im.snap]
 refine b (λh=>?_) (λh=>?_)
 ·grind[bW]
 ·have h:¬c.aB=[]:=by simpa using h
  rw[bW,if_neg h];refine f (nw a.ax c.aB o) ?_;simp only[A,Q];cases i:a.ax.findIdx? (λe=>e==c.aB)with
  |none=>
   have:bN (λe=>e==c.aB) a.ax= -1:=by rw[bN,i]
   rw[this];refine a7 (aD (dD:=cV zV) rfl ?_);rw[l2,Q,j];exact m _ _
  |some l=>
   have:bN (λe=>e==c.aB) a.ax=(l:Int):=by rw[bN,i]
   rw[this];have k:l<Z a.bl:=by
    have:=(nW.1 i).1;omega
   refine bq ?_ (by simp);simp only[aC k (lZ _),Q,oa,l2];rw[j,oM,bC k];exact m _ _
def eG(a:aX)(b:List aM):List aO:=b.map λc=>(bW a c).1
theorem O5(c:aX)(b:List aM)(o:Sm c.ax)(q:Z c.bl=Z c.ax)(p:Sm b):PR C 140 [.agg (cE V c),eS F cT b] (eS aa cV (eG c b)):=by
 refine Xo.pr ?_;simp only[AJ,Q,dZ,eA,c3,de,fm,gz,a8,Dc];have m:∀(b:List aM)(d:List aO),b.foldl (λd h=>d++[(bW c h).1]) d=d++eG c b:=by
  intro b;induction b with
  |nil=>grind[eG]
  |cons u b t=>grind[eG]
 refine s4 b (λd h=>d++[(bW c h).1]) [] 1 3 cV (N:=[.arr 0 3 [],.arr 0 3 []]) 0 rfl (by simp[aY]) (λg e d k j l n=>?_) (λk j=>?_)
 ·have s:Z d<=g:=by
   rw[l,m];simp[eG];omega
  simp only[i,G,A,Q,a,e,decide_true,aC e (h8 _),ji];refine a7 (f (HZ c b[g] o q) ?_);simp only[ef,cv,dk,Q,l2];refine aD (vT (bW c b[g]).1) ?_;refine DU (by simp) (by grind[Sm]) ?_;rw[p.inc e,Q];exact n _
 ·simp only[i,G,A,Q,a,ca,decide_false]
  refine bq ?_;simp_all[c3,y7]
structure TO{α:Type}(c:α->α->Int):Prop where
 eq:∀a b,c a b=0<->a=b
 ta:∀a b,c a b<0<->0<c b a
 trans:∀a b d,c a b<0->c b d<0->c a d<0
theorem TO.int:TO fG:=by
 refine⟨λa b=>vI,λa b=>?_,λa b c=>?_⟩
 ·grind[fG]
 grind[fG]
def lM(b:z->z->Int):List z->List z->Int
 |[],[]=>0
 |[],_::_=> -1
 |_::_,[]=>1
 |a::d,c::e=>if b a c=0 then lM b d e else b a c
theorem TO.lex{e:z->z->Int}(f:TO e):TO (lM e):=by
 have heq:∀c a,lM e c a=0<->c=a:=by
  intro c;induction c with
  |nil=>intro a;cases a<;>simp[lM]
  |cons d c l=>
   intro a;cases a with
   |nil=>simp[lM]
   |cons b a=>
    simp only[lM,Cp];split
    ·rename_i g;rw[l,<-f.eq d b];simp[g]
    ·rename_i g;rw[<-f.eq d b];simp[g]
 have p:∀c a,lM e c a<0<->0<lM e a c:=by
  intro c;induction c with
  |nil=>intro a;cases a<;>simp[lM]
  |cons d c l=>
   intro a;cases a with
   |nil=>simp[lM]
   |cons b a=>
    simp only[lM];have q:e d b=0<->e b d=0:=by rw[f.eq,f.eq];exact eq_comm
    by_cases g:e d b=0
    ·grind
    ·rw[if_neg g,if_neg (λo=>g (q.2 o))];exact f.ta d b
 refine⟨heq,p,?_⟩;intro c;induction c with
 |nil=>
  intro a j h i;cases a with
  |nil=>omega
  |cons b a=>
   cases j with
   |nil=>grind
   |cons k j=>simp[lM]
 |cons d c l=>
  intro a j h i;cases a with
  |nil=>simp[lM]at h
  |cons b a=>
   cases j with
   |nil=>simp[lM]at i
   |cons k j=>
    simp only[lM]at h i⊢;by_cases m:e d b=0
    ·have:=(f.eq d b).1 m
     grind
    ·rw[if_neg m]at h
     by_cases n:e b k=0
     ·have:=(f.eq b k).1 n
      grind
     ·rw[if_neg n]at i
      have:=f.trans d b k h i;omega
theorem TO.of{e f:z->z->Int}(d:TO e)(c:∀a b,f a b=e a b):TO f:=
 ⟨λa b=>by rw[c];exact d.eq a b,λa b=>by rw[c,c];exact d.ta a b,λa b g=>by rw[c,c,c];exact d.trans a b g⟩
theorem TO.byte:TO (λa b:UInt8=>fG a.toNat b.toNat):=
 ⟨(by grind[vI,DK]),λa b=>TO.int.ta _ _,λa b c=>TO.int.trans _ _ _⟩
theorem O6:∀b c:k,mA b c=lM (λa d:UInt8=>fG a.toNat d.toNat) b c
 |[],[]=>rfl
 |[],_::_=>rfl
 |_::_,[]=>rfl
 |a::b,d::c=>by
  rw[mA,lM,O6 b c];simp[vI,DK]
theorem TO.str:TO mA:=TO.byte.lex.of O6
theorem TO.val:TO l5:=by
 have r:∀j k:aO,l5 j k=0<->j=k:=by
  rintro⟨b,c,l⟩ ⟨d,e,m⟩;simp only[l5,aO.mk.injEq];split
  ·grind[vI]
  ·rename_i a
   have a:b=d:=by simpa using a
   split
   ·grind[vI]
   ·rename_i i
    have i:c=e:=by simpa using i
    rw[TO.str.eq];simp[a,i]
 have i:∀j k:aO,l5 j k<0<->0<l5 k j:=by
  rintro⟨b,c,l⟩ ⟨d,e,m⟩;simp only[l5];by_cases g:b=d
  ·subst g
   by_cases h:c=e
   ·subst h
    simp only[ne_eq,not_true_eq_false,if_false];exact TO.str.ta l m
   ·have t:¬e=c:=λa=>h a.symm
    simp only[ne_eq,not_true_eq_false,if_false,h,t,not_false_eq_true,if_true];exact TO.int.ta c e
  ·have s:¬d=b:=λa=>g a.symm
   simp only[ne_eq,g,s,not_false_eq_true,if_true];exact TO.int.ta b d
 refine⟨r,i,?_⟩;rintro⟨b,c,l⟩ ⟨d,e,m⟩ ⟨p,q,u⟩;simp only[l5];intro a f;by_cases g:b=d
 ·subst g
  rw[if_neg (by simp)]at a;by_cases n:b=p
  ·subst n
   rw[if_neg (by simp)]at f⊢;by_cases h:c=e
   ·subst h
    rw[if_neg (by simp)]at a;by_cases o:c=q
    ·subst o
     rw[if_neg (by simp)]at f⊢;exact TO.str.trans _ _ _ a f
    omega
   ·rw[if_pos h]at a
    by_cases o:e=q
    ·grind
    ·rw[if_pos o]at f
     have:=TO.int.trans _ _ _ a f;grind[M1]
  omega
 ·rw[if_pos g]at a
  by_cases n:d=p
  ·grind
  ·rw[if_pos n]at f
   have:=TO.int.trans _ _ _ a f;grind[M1]
theorem O7:∀b c:List aO,jj b c=lM l5 b c
 |[],[]=>rfl
 |[],_::_=>rfl
 |_::_,[]=>rfl
 |a::b,d::c=>by rw[jj,lM,O7 b c]
theorem TO.aE:TO jj:=TO.val.lex.of O7
theorem zj(a b:aw):db a b=0<->a.aq=b.aq/\a.ad=b.ad:=by
 unfold db;split
 ·simp;omega
 ·split
  ·simp;omega
  ·rw[TO.aE.eq]
   grind
theorem uL(a b:aw):db a b<0<->0<db b a:=by
 unfold db;by_cases c:a.aq<b.aq
 ·omega
 ·by_cases d:b.aq<a.aq
  ·omega
  ·rw[if_neg c,if_neg d,if_neg d,if_neg c];exact TO.aE.ta _ _
theorem zk(c d e:aw):db c d<0->db d e<0->db c e<0:=by
 unfold db;intro a b;split at a
 ·omega
 ·split at a
  ·omega
  ·split at b
   ·omega
   ·split at b
    ·omega
    ·rw[if_neg (by omega),if_neg (by omega)]
     exact TO.aE.trans _ _ _ a b
def fY(a:List aw):Prop:=∀b c(d:b<Z a)(e:c<Z a),b<c->db a[b] a[c]<0
variable{X:List aw}
theorem adT(f:∀b,b<Z X->uK X b=ab):fY X:=by
 intro b a i c j;induction a with
 |zero=>omega
 |succ a g=>
  have d:a<Z X:=by omega
  have e:=f (a+1) c;simp only[uK,bC d,bC c,decide_eq_true_eq]at e;by_cases h:b=a
  ·grind
  ·exact zk _ _ _ (g d (by omega)) e
def gW(b:Int)(args:List aO)(a:aw):Bool:=a.aq==b&&S (a.ad=args)
def sf(a:List aw)(b:Int)(args:List aO):Int:=bN (gW b args) a
theorem Em(b:Int)(args:List aO)(a:aw)(c:Int):gW b args a=ab<->db a ⟨b,args,c⟩=0:=by
 rw[zj];simp[gW]
variable{c0:aw}
theorem Bw{args:List aO}(a:db c0 ⟨aU,args,c1⟩≠0):gW aU args c0=false:=by
 grind[Em]
theorem adU(c:fY X){args:List aO}(b:U<Z X)(a:gW aU args X[U]=ab):sf X aU args=U:=by
 refine sU b (λf d e=>?_) a;have g:=c f U d b e;rw[Em _ _ _ 0]at a;grind[zj,Bw,db,trans]
theorem adV{bk:BK}(b:U<9223372036854775808):aS bk .quo (I (U:Int)) (I 2)=T (I ((U/2:Nat):Int)):=by
 have a:((U:Int).tdiv 2)=((U/2:Nat):Int):=by
  rw[ak3 (by omega)];omega
 simp only[aS,if_true,jv];grind[wrap64]
theorem En(c:List aw)(e:Int)(args:List aO)(J:Sm c)(E:∀x∈c,eO x.ad)(q:fY c):PR C 87 [eS F (cF V) c,I e,eS bp cV args] (I (sf c e args)):=by
 refine Z9.pr ?_;have H:ko [(I 0),.ai,(I 0)] [(0,1,I e),(1,1,eS bp cV args)]=T (cF bp ⟨e,args,0⟩):=rfl;simp only[H,Q,GG,a8,NP,NQ,NR];refine bB (z:=Nat×Nat) (λh=>[I 0,I h.1,I h.2,I e,eS bp cV args,I 0]) (λ_=>[]) (λh=>h.2 -h.1) (λh=>h.1<=h.2/\h.2<=Z c/\(∀d(l:d<Z c),d<h.1->db c[d] ⟨e,args,0⟩<0)/\∀d(l:d<Z c),h.2<=d->0<db c[d] ⟨e,args,0⟩) (0,Z c) ⟨by simp,by simp,by simp,λd l o=>by simp at o;omega⟩ ?_
 rintro⟨m,n⟩ ⟨y,t,u,v⟩ K r;simp only at y t u v r⊢;simp only[i,G,A,Q,a];unfold Sm at J;refine b (λo=>?_) (λo=>?_)
 ·have o:m<n:=by simpa using o
  have z:aS .s .add (I (m:Int)) (I (n:Int))=T (I ((m+n:Nat):Int)):=by
   rw[Dn (by omega) (by omega)];simp
  have p:(m+n)/2<Z c:=by omega
  rw[z,Q,adV (by omega),Q];generalize L:(m+n)/2=g at*;simp only[aC p (hE _ _),Q,my];have B:(AV.agg [I e,eS bp cV args,I 0])=.agg (cF bp ⟨e,args,0⟩):=rfl;rw[B];refine f (HY c[g] ⟨e,args,0⟩ (E _ (bs p))) ?_;simp only[c9,A,Q];refine b (λj=>?_) (λj=>?_)
  ·have j:db c[g] ⟨e,args,0⟩=0:=by simpa using j
   rw[adU q p ((Em _ _ _ 0).2 j)];simp
  ·have j:db c[g] ⟨e,args,0⟩≠0:=by simpa using j
   refine b (λk=>?_) (λk=>?_)
   ·have k:db c[g] ⟨e,args,0⟩<0:=by simpa using k
    rw[ba,Q];refine r (g+1,n) ⟨by simp;omega,t,λd l N=>?_,v⟩ (by simp;omega);by_cases w:d=g
    ·grind
    ·exact zk _ _ _ (q d g l p (by omega)) k
   ·have k:0<db c[g] ⟨e,args,0⟩:=by simp at k;omega
    refine r (m,g) ⟨by simp;omega,by simp;omega,u,λd l M=>?_⟩ (by simp;omega);by_cases w:d=g
    ·grind
    ·rw[<-uL]
     exact zk _ _ _ ((uL _ _).2 k) (q g d p l (by omega))
 ·have:m=n:=by simp at o;omega
  subst this;refine ig (vJ λd l=>Bw (c1:=0) ?_);grind
theorem nH(c:z->Bool)(a:List z):(∃b,∃d:b<Z a,bN c a=b/\a.find? c=T a[b])\/(bN c a= -1/\a.find? c=D):=by
 cases d:a.findIdx? c with
 |none=>
  grind[bN]
 |some b=>
  obtain⟨e,g,f⟩:=nW.1 d;refine .inl ⟨b,e,by rw[bN,d],?_⟩;grind[List.find?_eq_some_iff_getElem]
def Eo(a:aj)(c:Int):Int:=match a.d[c.toNat]? with|some e=>(match a.m[e.of.toNat]? with|some b=>fy b []|none=> -1)|none=> -1
def tb(d:aj)(c:List aw)(a:Int)(args:List aO):Int:=match c.find? (gW a args)with|some b=>b.af|none=>Eo d a
def v7(b:aj)(e:Int):Prop:=∃a:Nat,∃f:a<Z b.d,e=a/\∃c:Nat,b.d[a].of=c/\c<Z b.m
variable{ed:Bool}
theorem adW(d:aj)(a:List aw)(c:Int)(args:List aO)(p:dW d)(m:Sm a)(k:∀h∈a,eO h.ad)(i:fY a)(o:v7 d c):PR C 141 [.agg (cP V F d),eS bp (cF b2) a,I c,eS ed cV args] (I (tb d a c args)):=by
 refine aah.pr ?_;simp only[dS,Q];refine f (En a c args m k i) ?_;simp only[A,Q];rw[tb];rcases nH (gW c args) a with⟨q,l,b,e⟩|⟨b,e⟩
 ·have b:sf a c args=q:=b
  rw[b,e];refine bq ?_ (by simp);simp only[aC l (hE _ _),Q,a6,aH,uh,aJ];simp
 ·have b:sf a c args= -1:=b
  rw[b,e];refine a7 ?_;obtain⟨r,j,rfl,s,n,g⟩:=o;simp only[a6,aH,oe,iy,aJ,Q,aC j (hD _ _),yO,n,aC g (jh _ _),hF];refine f (zc _ (p.aV _ (bs g))) (ig ?_);grind[Eo]
def sg(a:aj)(f b c:Int):Bool:=match a.d[f.toNat]? with|some g=>(match a.m[g.of.toNat]? with|some e=>ox e b c|none=>aa)|none=>aa
def pe(d:aj)(c:List aw)(b:aX)(a:Lit):Bool:=
 if a.ak=1 then(match c.find? (gW a.aq (eG b a.ad))with
  |none=>aa
  |some e=>a.bind==[]||(match b.m.findIdx? (λg=>g==a.bind)with|some f=>b.au.getD f 0==e.af|none=>aa))
 else if a.ak=2 then(c.find? (gW a.aq (eG b a.ad))).isNone
 else if(a.ak==3||a.ak==4)=ab then sg d a.aq a.gN (tb d c a.aq (eG b a.ad))==(a.ak==3)
 else qv a.op ((eG b a.ad).getD 0 zV) ((eG b a.ad).getD 1 zV)
structure Bx(e:aX):Prop where
 ax:Sm e.ax
 bl:Z e.bl=Z e.ax
 m:Sm e.m
 au:Z e.au=Z e.m
variable{pN:Bool}
theorem adX(h:aj)(d:List aw)(c:aX)(a:Lit)(L:dW h)(t:Sm d)(r:∀o∈d,eO o.ad)(q:fY d)(l:Bx c)(P:p9 a)
 (n:a.ak=3\/a.ak=4->v7 h a.aq)(M:a.ak≠1->a.ak≠2->a.ak≠3->a.ak≠4->2<=Z a.ad/\∀Y∈eG c a.ad,Sm Y.s):
 PR C 79 [.agg (cP V F h),eS bp (cF b2) d,.agg (cE ed c),.agg (a5 pN a)] (.bool (pe h d c a)):=by
 refine Zt.pr ?_;simp only[dS,AJ,nm,Q,a6,aH,Dc,fQ,oY,uf,oc,yP,Dl,xg,GL,GM,oe,iy,aJ];refine f (O5 c a.ad l.ax l.bl P) ?_;simp only[c9,Q];refine b (λe=>?_) (λe=>?_)
 ·rw[pe,if_pos (by grind)]
  refine f (En d a.aq _ t r q) ?_;simp only[A,fF,gF,Q,bo,G];rcases nH (gW a.aq (eG c a.ad)) d with⟨U,N,g,p⟩|⟨g,p⟩
  ·have g:sf d a.aq (eG c a.ad)=U:=g
   rw[g,p];refine dx (λ_=>b (λi=>?_) (λi=>?_)) (λi=>by simp at i;omega)
   ·simp_all
   ·simp only[i,kh]
    refine f (nw c.m a.bind l.m) ?_;simp only[gF,Q];cases j:c.m.findIdx? (λk=>k==a.bind)with
    |none=>
     have:bN (λk=>k==a.bind) c.m= -1:=by rw[bN,j]
     simp_all
    |some v=>
     have:bN (λk=>k==a.bind) c.m=(v:Int):=by rw[bN,j]
     rw[this];have O:v<Z c.au:=by
      have:=(nW.1 j).1;have:=l.au;omega
     simp only[aC O (g4 _),Q,aH,j4,aC N (hE _ _),a6,uh,aJ,c9];simp_all
  ·have g:sf d a.aq (eG c a.ad)= -1:=g
   rw[g,p];exact dx (λi=>by simp at i) (λ_=>a7 (bE rfl))
 ·have H:a.ak≠1:=by simpa using e
  rw[pe,if_neg H];refine b (λe=>?_) (λe=>?_)
  ·rw[if_pos (by grind)]
   refine f (En d a.aq _ t r q) ?_;simp only[A,Q];grind[nH,gW,eG,sf,gU]
  ·have I:a.ak≠2:=by simpa using e
   rw[if_neg I];refine eh (N:=[]) (a.ak==3||a.ak==4) (λv j=>b (λe=>kB j (by rw[e];rfl)) (λe=>kB j (by rw[e];rfl))) ?_;simp only[G];refine b (λe=>?_) (λe=>?_)
   ·rw[if_pos e]
    have n:=n (by grind);obtain⟨ac,E,K,X,J,u⟩:=id n;have R:sg h a.aq a.gN (tb h d a.aq (eG c a.ad))=ox h.m[X] a.gN (tb h d a.aq (eG c a.ad)):=by
     simp only[sg,K,ej,bC E,J,bC u]
    rw[R];have y:=adW (V:=V) (F:=F) (bp:=bp) (b2:=b2) (ed:=false) h d a.aq (eG c a.ad) L t r q n;rw[K]at y⊢;simp only[aC E (hD _ _),Q,a6,aH,yO,aJ,J,aC u (jh _ _),hF];refine f y (f (OO _ _ _ (L.aV _ (bs u))) ?_);simp only[Mr,Q];simp
   ·rw[if_neg (by grind)]
    have B:a.ak≠3/\a.ak≠4:=by simpa using e
    obtain⟨af,S⟩:=M H I B.1 B.2;have ah:Z (eG c a.ad)=Z a.ad:=by simp[eG]
    have z:0<Z (eG c a.ad):=by omega
    have g:1<Z (eG c a.ad):=by omega
    have e0:=aC (V:=false) (a2:=cV) (o:=eG c a.ad) (U:=0) (N:=[]) z (lZ _);have x:=aC (V:=false) (a2:=cV) (o:=eG c a.ad) (U:=1) (N:=[]) g (lZ _);simp only[TB]at e0 x;simp only[e0,x,Q,oa];refine f (adQ a.op _ _ (S _ (bs z))) (gU ?_);grind
def jO(a:aX)(c:k):Int:=match a.m.findIdx? (λd=>d==c)with|some b=>a.au.getD b 0|none=>0
def nI(d:aj)(a:aG)(b:aX):Int:=
 if a.af.ak=1 then a.af.aQ else if a.af.ak=2 then jO b a.af.aB else
 if a.af.ak=3 then(match d.aW[a.af.aQ.toNat]? with|some c=>c.gM.getD (jO b a.af.aB).toNat 0|none=>0)else -1
def iR(c:aj)(a:aG)(b:aX):aw:=⟨a.aq,eG b a.ad,nI c a b⟩
variable{H:aX}{bH:k}
theorem O8(c:Bx H)(g:bH∈H.m):∃a:Nat,∃e:a<Z H.au,bN (λb=>b==bH) H.m=a/\jO H bH=H.au[a]:=by
 cases d:H.m.findIdx? (λb=>b==bH)with
 |none=>
  grind
 |some a=>
  have f:=(nW.1 d).1;have:=c.au;grind[bN,jO]
theorem adY(c:aj)(a:aG)(b:aX)(e:Bx b)(y:Sm a.ad)(s:a.af.ak=2\/a.af.ak=3->a.af.aB∈b.m)
 (w:a.af.ak=3->∃h:Nat,∃E:h<Z c.aW,a.af.aQ=h/\∃d:Nat,jO b a.af.aB=d/\d<Z c.aW[h].gM):
 PR C 113 [.agg (cP V F c),.agg (aP bp a),.agg (cE b2 b)] (.agg (cF aa (iR c a b))):=by
 refine X6.pr ?_;simp only[dS,AJ,l3,Q,a6,aH,Dc,xh,sS,AQ,AR,Vv,GL,GM,sT,aJ,fo,Nat.reduceAdd];refine f (O5 b a.ad e.ax e.bl y) ?_;have x:ko [(I 0),.ai,(I 0)] [(0,1,I a.aq),(1,1,eS aa cV (eG b a.ad)),(2,1,I (-1))]=T (cF aa ⟨a.aq,eG b a.ad,-1⟩):=rfl;have j:∀t:Int,lX (I t)=T (I t):=λ_=>rfl
 have q:∀d:Int,d=nI c a b->bd (dh 3 (.agg [I a.aq,eS aa cV (eG b a.ad),I d])) λk=>aI [] .res (AV.agg [g k 0,g k 1,g k 2]).pl (.agg (cF aa (iR c a b))):=by
  rintro d rfl;have:(AV.agg [I a.aq,eS aa cV (eG b a.ad),I (nI c a b)])=.agg (cF aa (iR c a b)):=rfl;rw[this,GG,Q];exact cy
 simp only[x,Q,GG,NP,NQ,NR,c9,j,bo,G,i];by_cases H:a.af.ak=1
 ·simp_all[Int.reduceBEq,nI]
 ·by_cases r:a.af.ak=2
  ·obtain⟨B,o,l,p⟩:=O8 e (s (.inl r))
   simp only[r,beq_self_eq_true,bZ,if_true,fE,Int.reduceBEq,cZ,ak4,if_false];refine f (nw b.m _ e.m) ?_;rw[l];simp only[aC o (g4 _),Q,aH,j4,j];exact q _ (by grind[nI])
  ·by_cases n:a.af.ak=3
   ·obtain⟨B,o,l,p⟩:=O8 e (s (.inr n))
    obtain⟨h,v,u,d,z,A⟩:=w n;simp only[n,beq_self_eq_true,bZ,if_true,fE,Int.reduceBEq,cZ,if_false];refine f (nw b.m _ e.m) ?_;rw[l];simp only[aC o (g4 _),Q,aH,j4,j,<-p,z,u,aC v (p3 _ _),a6,GH,aJ,aC A (g4 _)];refine q _ ?_;grind[nI]
   simp_all[nI]
variable{c6:Nat -> Int}
def hT(c d:List Obj):Prop:=∀(a:Nat)(b:Obj),c[a]?=T b->d[a]?=T b
variable{ey:List Obj}
theorem hT.trans{a:List Obj}(e:hT N ey)(f:hT ey a):hT N a:=λb c d=>f b c (e b c d)
theorem hT.app(a b:List Obj):hT a (a++b):=λd e c=>by
 grind
variable{iX:Obj}
theorem hT.set(b:hT N ey)(e:Z N<=U):hT N (ey.set U iX):=λc d a=>by
 have:=(e6.1 a).1;rw[nV (by omega)];exact b c d a
def lN(c:List Obj)(d:AV)(b:List aw):Prop:=∃id a,d=.q id a 0 (Z b)/\c[id]?=T (.arr a 3 (b.map (cF aa)))
theorem lN.res(a:lN N Y X):aI N .res Y (eS aa (cF aa) X):=by
 obtain⟨id,b,rfl,c⟩:=a;simp_all[fx]
theorem lN.pl(a:lN N Y X):Y.pl=Y:=by
 obtain⟨id,b,rfl,c⟩:=a;rfl
def kA(b:List aw)(a:aw):Nat->Nat
 |0=>0
 |k+1=>match b[k]? with|some c=>if 0<db c a then kA b a k else k+1|none=>k+1
def j8(a:List aw)(b:aw):List aw:=a.take (kA a b (Z a))++b::a.drop (kA a b (Z a))
def e8(a:aj)(c:Int):Option bM:=match a.d[c.toNat]? with|some b=>if b.of<0 then D else a.m[b.of.toNat]?|none=>D
def dp(f:aj)(b:List aw)(a:aw):List aw:=
 match e8 f a.aq with
 |some e=>if a.af=fy e []then b else(match b.findIdx? (gW a.aq a.ad)with
  |some d=>(match b[d]? with|some c=>b.set d ⟨c.aq,c.ad,fy e [c.af,a.af]⟩|none=>b)
  |none=>j8 b a)
 |none=>if(b.findIdx? (gW a.aq a.ad)).isSome=ab then b else j8 b a
theorem Pb(b:List aw)(a:aw):∀c,kA b a c<=c
 |0=>by simp[kA]
 |k+1=>by
  unfold kA;have:=Pb b a k;grind
variable{bS:List (List AV)}
theorem Pc{id len:Nat}(b:N[id]?=T (.arr U O bS))(f:y<=len):dV (.sl O) (.q id U 0 len) D (T (I y)) N=T (.q id U 0 y):=by
 have c:cQ len len (T (I (y:Int)))=T y:=by
  simp only[cQ];rw[if_pos (by omega)];simp
 have d:∀e a,cQ e a D=T a:=λ_ _=>rfl;simp[dV,c,d,b]
theorem Er{id len:Nat}(b:N[id]?=T (.arr U O bS))(f:y<=len):dV (.sl O) (.q id U 0 len) (T (I y)) D N=T (.q id U y (len -y)):=by
 have c:cQ len 0 (T (I (y:Int)))=T y:=by
  simp only[cQ];rw[if_pos (by omega)];simp
 have d:∀e a,cQ e a D=T a:=λ_ _=>rfl;simp[dV,c,d,b]
theorem H3{id off len:Nat}(a:N[id]?=T (.arr U O bS))(b:off+len<=Z bS):hQ N O (.q id U off len)=T ((bS.drop off).take len):=by
 grind[hQ]
theorem ad2(a:List aw)(b:aw):Z (j8 a b)=Z a+1:=by
 grind[j8]
def xG(b:List Obj)(c:List aw)(d:AV)(a:List Obj):Prop:=hT b a/\lN a d c
theorem ad3{id:Nat}(a:N[id]?=T (.arr U 3 (X.map (cF aa))))(b:O<Z X):aR 3 ab (.ptr id U O 0) N=T (.agg (cF aa X[O])):=
 kV a (by simp[b]) rfl
theorem ad4{id:Nat}(a:List aw)(d:aw)(bb:Z a<4294967296)(Y:∀d∈a,eO d.ad)(i:N[id]?=T (.arr U 3 (a.map (cF aa))))(r:AV->List Obj->Prop)(W:∀O H,xG N (j8 a d) O H->r O H):
 iC (λh k ak=>
 jn (λM=>
 bd (aS .s .gtr (g h 0) (I 0)) λaq=>
 gd aq ab (
 bd (aS .s .sub (g h 0) (I 1)) λar=>
 bd (bY 3 (.q id U 0 (Z a)) ar k) λau=>
 bd (aR 3 ab au k) λax=>
 bd (aR 3 ab (.aK aa (cF aa d) 0) k) λaB=>
 cp C 74 [ax,aB] k λaQ=>
 bd (aS .s .gtr aQ (I 0)) λa0=>
 M [a0] k) (
 M [ff] k)) λR m=>
 dY (g R 0) (
 bd (aS .s .sub (g h 0) (I 1)) λa3=>
 ak [a3] m) (
 bd (dV (.sl 3) (.q id U 0 (Z a)) D (T (g h 0)) m) λx=>
 bd (aR 3 ab (.aK aa (cF aa d) 0) m) λP=>
 bd (fw 3 [(I 0),.ai,(I 0)] 1 [(0,P)]) λy=>
 bd (dV (.sl 3) (.q id U 0 (Z a)) (T (g h 0)) D m) λj=>
 cc (cx 3 40 .dI x m) λz l=>
 (
 bd (dV (.sl 3) (.q id U 0 (Z a)) (T (g h 0)) D l) λA=>
 ob A j)/\(
 (
 bd (aR 3 ab (.aK aa (cF aa d) 0) l) λa4=>
 ob a4 P)/\(
 cc (cx 3 40 z y l) λB n=>
 (
 bd (dV (.sl 3) (.q id U 0 (Z a)) (T (g h 0)) D n) λE=>
 ob E j)/\(
 cc (cx 3 40 B j n) λF u=>
 r (AV.pl F) u))))) [I (Z a)] N:=by
 refine bB (z:=Nat) (λc=>[I c]) (λ_=>N) (λc=>c) (λc=>c<=Z a/\kA a d (Z a)=kA a d c) (Z a) ⟨di _,rfl⟩ ?_;rintro c ⟨o,X⟩ a9 be;have ac:id<Z N:=(e6.1 i).1;simp only[G,er,Q,my,bo];have J:kA a d (Z a)=c->(bd (dV (.sl 3) (.q id U 0 (Z a)) D (T (I c)) N) λx=>
 bd (fw 3 [(I 0),.ai,(I 0)] 1 [(0,.agg (cF aa d))]) λy=>
 bd (dV (.sl 3) (.q id U 0 (Z a)) (T (I c)) D N) λj=>
 cc (cx 3 40 .dI x N) λz l=>
 (
 bd (dV (.sl 3) (.q id U 0 (Z a)) (T (I c)) D l) λA=>
 ob A j)/\(
 (ob (.agg (cF aa d)) (.agg (cF aa d)))/\(
 cc (cx 3 40 z y l) λB n=>
 (
 bd (dV (.sl 3) (.q id U 0 (Z a)) (T (I c)) D n) λE=>
 ob E j)/\(
 cc (cx 3 40 B j n) λF u=>
 r (AV.pl F) u)))):=by
  intro L;rw[Pc i o,Q,acF,Q,Er i o,Q];have af:hQ N 3 (.q id U 0 c)=T ((a.take c).map (cF aa)):=by
   rw[H3 i (by simpa using o),jR,Ks]
  refine bj (nu (a2:=cF aa) (o:=a.take c) rfl af (by simp;omega)) ?_;rw[DV N 3 (cF aa) (a.take c) (.arr 0 3 [])];have v:Z N<Z (N++[Obj.arr 0 3 []]):=by simp
  have get:∀(K:Nat)(w:List aw),(aY (N++[Obj.arr 0 3 []]) (Z N) 3 (cF aa) K w)[id]?=T (.arr U 3 (a.map (cF aa))):=by
   intro K w;simp only[aY];rw[nV (by omega),lU ac];exact i
  refine⟨by rw[Er (get _ _) o,Q];exact rfl,by simp,?_⟩;refine xq (a2:=cF aa) v rfl (by simp;omega) ?_;refine⟨by rw[Er (get _ _) o,Q];exact rfl,?_⟩;have ah:hQ (aY (N++[Obj.arr 0 3 []]) (Z N) 3 (cF aa) (0+1) (a.take c++[d])) 3 (.q id U c (Z a -c))=T ((a.drop c).map (cF aa)):=by
   rw[H3 (get _ _) (by simp;omega),Ku,fW (by simp)]
  refine bj (Ho v ah (by simp;omega)) ?_;have V:a.take c++[d]++a.drop c=j8 a d:=by rw[j8,L];simp
  rw[V];exact W _ _ ⟨(hT.app _ _).set (di _),Z N,_,rfl,oo v⟩
 cases c with
 |zero=>
  exact aZ (λt=>by simp at t) (λ_=>bq (J (by rw[X];rfl)))
 |succ e=>
  have p:e<Z a:=by omega
  have ae:aS .s .sub (I ((e+1:Nat):Int)) (I 1)=T (I (e:Int)):=by
   rw[og (by omega) (by omega)];simp
  have L:kA a d (e+1)=if 0<db a[e] d then kA a d e else e+1:=by
   rw[kA,bC p]
  refine aZ (λ_=>?_) (λt=>by simp at t);simp only[ae,Q,e3 i p,ad3 i p];refine f (HY a[e] d (Y _ (bs p))) ?_;simp only[er,Q];refine b (λS=>?_) (λS=>?_)
  ·grind
  ·exact J (by grind)
theorem Pd{id:Nat}(b:N[id]?=T (.arr U 3 (X.map (cF aa))))(a:O<Z X):
 df 1 (.ptr id U O 2) (I aU) N=T (N.set id (.arr U 3 ((X.set O ⟨X[O].aq,X[O].ad,aU⟩).map (cF aa)))):=by
 have e:(X.map (cF aa))[O]?=T (cF aa X[O]):=by simp[a]
 have d:(X.map (cF aa)).set O (eV (cF aa X[O]) 2 [I aU])=(X.set O ⟨X[O].aq,X[O].ad,aU⟩).map (cF aa):=by
  rw[List.map_set];rfl
 have c:Z (cF aa X[O])=3:=rfl;simp[df,b,c,a,d]
theorem Es(e:aj)(a:List aw)(c:aw)(aB:dW e)(bw:kz e)(b4:ep e c.aq=ab)(br:Z a<4294967296)(ak:∀c∈a,eO c.ad)(bf:fY a)(ce:lN N Y a):
 HR C 89 [.agg (cP V F e),Y,.agg (cF aa c)] N (xG N (dp e a c)):=by
 obtain⟨id,i,rfl,ar⟩:=ce;refine YG.hq ?_;obtain⟨p,H,O⟩:=zi b4;have f7:id<Z N:=(e6.1 ar).1;simp only[dS,sR,Q,eA,dZ,a6,aH,oe,iy,p5,ug,uh,aJ,H,aC O (hD _ _),yO,gF];have J:hT N (N++[.arr 0 3 []]):=hT.app _ _;have y:=J _ _ ar;have bv:aI (N++[Obj.arr 0 3 []]) .cm (.q id i 0 (Z a)) (eS ab (cF aa) a):=l7 y (by simp);generalize f6:N++[Obj.arr 0 3 []]=j at*
 have cs:xG N a (.q id i 0 (Z a)) j:=⟨J,id,i,rfl,y⟩;have f8:=bw _ (bs O);have ax:e8 e c.aq=if e.d[p].of<0 then D else e.m[e.d[p].of.toNat]?:=by
  rw[e8,H,ej,bC O]
 have tail:∀(of:Int),(0<=of->∃h:Nat,of=h/\h<Z e.m)->
  ((of<0->dp e a c=if(a.findIdx? (gW c.aq c.ad)).isSome=ab then a else j8 a c)/\
   (∀(h:Nat)(k:h<Z e.m),of=h->dp e a c=(match a.findIdx? (gW c.aq c.ad)with
    |some o=>(match a[o]? with|some U=>a.set o ⟨U.aq,U.ad,fy e.m[h] [U.af,c.af]⟩|none=>a)
    |none=>j8 a c)))->
  cp C 87 [.q id i 0 (Z a),I (p:Int),eS aa cV c.ad] j λW=>
   bd (aS .s .geq W (I 0)) λdl=>dY dl (dY (.bool (S (0<=of))) (cc (cx 3 40 .dI (.q id i 0 (Z a)) j) λa3 l=>
    bd (bY 4 (eS V (bn V) e.m) (I of) l) λds=>bd (aR 4 ab ds l) λd0=>bd (bY 3 (.q id i 0 (Z a)) W l) λd1=>bd (dw 2 d1 l) λd2=>bd (aR 1 aa d2 l) λd3=>
    cp C 147 [d0,d3,I c.af] l λd4=>bd (bY 3 a3 W l) λd5=>bd (dw 2 d5 l) λd6=>bd (df 1 d6 d4 l) λbb=>xG N (dp e a c) a3.pl bb) (xG N (dp e a c) (AV.q id i 0 (Z a)).pl j))
   (iC (λn r co=>
 jn (λa0=>
 bd (aS .s .gtr (g n 0) (I 0)) λd7=>
 gd d7 ab (
 bd (aS .s .sub (g n 0) (I 1)) λd8=>
 bd (bY 3 (.q id i 0 (Z a)) d8 r) λd9=>
 bd (aR 3 ab d9 r) λel=>
 bd (aR 3 ab (.aK aa (cF aa c) 0) r) λem=>
 cp C 74 [el,em] r λeq=>
 bd (aS .s .gtr eq (I 0)) λes=>
 a0 [es] r) (
 a0 [ff] r)) λa9 x=>
 dY (g a9 0) (
 bd (aS .s .sub (g n 0) (I 1)) λex=>
 co [ex] x) (
 bd (dV (.sl 3) (.q id i 0 (Z a)) D (T (g n 0)) x) λe2=>
 bd (aR 3 ab (.aK aa (cF aa c) 0) x) λa4=>
 bd (fw 3 [(I 0),.ai,(I 0)] 1 [(0,a4)]) λfd=>
 bd (dV (.sl 3) (.q id i 0 (Z a)) (T (g n 0)) D x) λX=>
 cc (cx 3 40 .dI e2 x) λfn M=>
 (
 bd (dV (.sl 3) (.q id i 0 (Z a)) (T (g n 0)) D M) λfs=>
 ob fs X)/\(
 (
 bd (aR 3 ab (.aK aa (cF aa c) 0) M) λfI=>
 ob fI a4)/\(
 cc (cx 3 40 fn fd M) λf0 ae=>
 (
 bd (dV (.sl 3) (.q id i 0 (Z a)) (T (g n 0)) D ae) λf1=>
 ob f1 X)/\(
 cc (cx 3 40 f0 X ae) λf2 be=>
 xG N (dp e a c) (AV.pl f2) be))))) [I (Z a)] j):=by
  intro of A B;have ah:=En (V:=false) (F:=true) (bp:=false) a c.aq c.ad (by grind[Sm]) ak bf;rw[H]at ah;refine ea _ ah (.ck bv (.ck (.int _ _ _) (.ck cy (.nil _)))) (.int _ _) ?_;simp only[gF,Q];rw[<-H];cases u:a.findIdx? (gW c.aq c.ad)with
  |none=>
   have K:sf a c.aq c.ad= -1:=by rw[sf,bN,u]
   rw[K];refine bq ?_;have t:dp e a c=j8 a c:=by
    by_cases v:of<0
    ·rw[B.1 v,u];rfl
    ·obtain⟨h,L,w⟩:=A (by omega)
     rw[B.2 h w L,u]
   exact ad4 a c br ak y _ (λgc f3 k=>by rw[t];exact⟨J.trans k.1,k.2⟩)
  |some o=>
   have z:o<Z a:=(nW.1 u).1;have K:sf a c.aq c.ad=o:=by rw[sf,bN,u]
   rw[K];refine a7 ?_ (by simp);refine b (λac=>?_) (λac=>?_)
   ·obtain⟨h,L,w⟩:=A (by grind)
    subst L;have t:=B.2 h w rfl;rw[u]at t;simp only[bC z]at t;have ci:hQ j 3 (.q id i 0 (Z a))=T (a.map (cF aa)):=by
     rw[H3 y (by simp),jR,fW (by simp)]
    refine bj (nu (a2:=cF aa) (o:=a) rfl ci (by omega)) ?_;have aQ:hT j (j++[.arr 0 3 (a.map (cF aa))]):=hT.app _ _;have P:=aQ _ _ y;have R:(j++[Obj.arr 0 3 (a.map (cF aa))])[Z j]?=T (.arr 0 3 (a.map (cF aa))):=by simp
    have bi:(a.map (cF aa))[o]?=T (cF aa a[o]):=by simp[z]
    simp only[aC w (jh _ _),Q,hF,e3 P z,oq P,cr P bi,aJ,uh];refine f (adj _ _ _ (aB.aV _ (bs w))) ?_;simp only[e3 R z,Q,oq R,aJ,Pd R z];rw[t];refine⟨?_,Z j,0,by simp,?_⟩
    ·exact(J.trans aQ).set (by grind)
    grind
   ·have v:of<0:=by simp at ac;omega
    have t:=B.1 v;simp_all
 by_cases v:e.d[p].of<0
 ·have A:e8 e c.aq=none:=by rw[ax,if_pos v]
  have:=tail e.d[p].of (λk=>by omega) (by grind[dp]);simp only[bo,G];refine aZ (λk=>by simp at k;omega) (λ_=>bq ?_);exact this
 ·obtain⟨h,au⟩:∃h:Nat,e.d[p].of=h:=by grind
  have E:h<Z e.m:=by omega
  have A:e8 e c.aq=T e.m[h]:=by rw[ax,if_neg v,au,ej,bC E]
  rw[au];simp only[bo,G];refine aZ (λ_=>?_) (λk=>by simp at k);simp only[aC E (jh _ _),Q,hF];refine f (zc _ (aB.aV _ (bs E))) ?_;simp only[c9,Q];refine b (λk=>?_) (λk=>?_)
  ·have:dp e a c=a:=by rw[dp,A];simp only;rw[if_pos (by simpa using k)]
   rw[this];exact cs
  ·have:=tail h (by grind) ⟨λn=>by omega,λU l d=>by
    have i:h=U:=by omega
    subst i
    rw[dp,A];simp only;rw[if_neg (by simpa using k)]⟩
   simp only[aC E (jh _ _),Q,hF,bo,G]at this;simp only[nj,Q];exact this
theorem H4:fY X<->X.Pairwise λg h=>db g h<0:=by
 rw[List.pairwise_iff_getElem];exact⟨λa e f b c d=>a e f b c d,λa e f b c d=>a e f b c d⟩
theorem H5(f:fY X)(g:∀i∈X,db i c0≠0):∀c,c<=Z X->(∀a(b:a<Z X),c<=a->0<db X[a] c0)->
 (∀a(b:a<Z X),a<kA X c0 c->db X[a] c0<0)/\∀a(b:a<Z X),kA X c0 c<=a->0<db X[a] c0
 |0,_,e=>by grind[kA]
 |k+1,n,e=>by
  have d:k<Z X:=by omega
  rw[kA,bC d];simp only;split
  ·rename_i h
   refine H5 f g k (by omega) λa b l=>?_;grind
  ·rename_i h
   have o:=g _ (bs d);refine⟨λa b m=>?_,e⟩;by_cases j:a=k
   ·grind
   ·exact zk _ _ _ (f a k b d (by omega)) (by omega)
theorem ad5(d:fY X)(i:∀c∈X,db c c0≠0):fY (j8 X c0):=by
 obtain⟨j,k⟩:=H5 d i (Z X) (di _) (by omega);have l:=H4.1 d;rw[H4,j8];generalize kA X c0 (Z X)=n at*;rw[ak5,zU];refine⟨(by grind),⟨λc a=>?_,by grind⟩,λc a o b=>?_⟩
 ·obtain⟨g,e,rfl⟩:=jS.1 a
  simp_all[Kv,uL]
 ·obtain⟨g,e,rfl⟩:=jS.1 a
  rw[gb]at e;have f:db X[g] c0<0:=by grind
  rw[Cu];rcases cf.1 b with rfl|b
  ·exact f
  ·obtain⟨m,h,rfl⟩:=jS.1 b
   rw[py]at h;rw[Kv];refine zk _ _ _ f ?_;simp_all[uL]
theorem H6{a:aw}:a∈j8 X c0<->a=c0\/a∈X:=by
 rw[j8,c5,cf];grind[List.mem_of_mem_take,List.mem_of_mem_drop,List.take_append_drop,kA]
theorem ad6{b a c:aw}(d:c0.aq=a.aq)(e:c0.ad=a.ad)(f:b.aq=c.aq)(g:b.ad=c.ad):db c0 b=db a c:=by
 grind[db]
theorem ad7(c:fY X)(h:U<Z X)(g:Int):fY (X.set U ⟨X[U].aq,X[U].ad,g⟩):=by
 intro e f a b d;rw[Kc]at a b;have:=c e f a b d;grind[ad6]
theorem ad8(b:X.findIdx? (gW c0.aq c0.ad)=D):∀a∈X,db a c0≠0:=by
 grind[List.findIdx?_eq_none_iff,zj,gW]
theorem Pe(a:fY X):fY (dp M X c0):=by
 unfold dp;grind[e8,ad5,ad8,gW,List.findIdx?_eq_some_iff_getElem,List.getElem?_eq_getElem,ad7]
theorem Pf{b:Int->List aO->Prop}(d:∀a∈X,b a.aq a.ad)(e:b c0.aq c0.ad):∀a∈dp M X c0,b a.aq a.ad:=by
 have f:∀a∈j8 X c0,b a.aq a.ad:=λa c=>by
  rcases H6.1 c with rfl|c
  ·exact e
  ·exact d a c
 unfold dp;grind
theorem H7:Z (dp M X c0)<=Z X+1:=by
 unfold dp;grind[e8,ad2,gW,List.findIdx?_eq_some_iff_getElem,List.getElem?_eq_getElem,List.length_set]
def jm(c:aj)(a b:List aw):List aw:=b.foldl (dp c) a
theorem By{c:aj}:∀(b a:List aw),Z (jm c a b)<=Z a+Z b
 |[],a=>by simp[jm]
 |f::b,a=>by
  have d:=By (c:=c) b (dp c a f);grind[H7,jm,List.length_cons]
theorem ad9(b:bM)(a:Nat):dK b a a=true:=by
 rw[dK,D7];exact .gP a a (by simp[qn,s8])
theorem aea(c:O<Z dF.au)(a:dK dF U O=ab)(b:dK dF O y=ab):dK dF U y=true:=by
 rw[dK,D7]at*;exact .via U O y a c b
theorem Ph(a:eu dF=0)(b:U<Z dF.au)(c:O<Z dF.au):lK (Z dF.au) (dK dF) U O=false:=by
 grind[eu,lK,dK,List.range]
theorem Pj(a:eu dF=0)(b:U<Z dF.au)(c:O<Z dF.au)(d:dK dF U O=ab)(e:dK dF O U=ab):U=O:=by
 have:=Ph a b c;grind[lK]
theorem aeb(c:0<=nF U eT b9):∃a:Nat,nF U eT b9=a/\a<U/\b9 a=ab/\∀b,b<U->b9 b=ab->eT a b=true:=by
 unfold nF at c⊢;cases d:(List.range U).find? (kt U eT b9)with
 |none=>grind
 |some a=>
  rw[FD]at d;grind[kt]
theorem Pk(d:0<=qm U eT b9):∃b:Nat,qm U eT b9=b/\b<U/\(∀a,a<U->b9 a=ab->eT a b=ab)/\∀c,c<U->(∀a,a<U->b9 a=ab->eT a c=ab)->eT b c=true:=by
 obtain⟨b,e,f,g,h⟩:=aeb d;have up:∀c,ku U eT b9 c=ab<->∀a,a<U->b9 a=ab->eT a c=true:=by
  intro c;simp only[ku,fi,la,kg,jt];constructor
  ·grind
  ·grind
 exact⟨b,e,f,(up b).1 g,by grind⟩
theorem Et(a:U<Z dF.au):eF dF (U:Int)=true:=by
 grind[eF]
theorem aec(f:eu dF=0)(d:U<Z dF.au)(e:O<Z dF.au):
 ∃a:Nat,fy dF [(U:Int),(O:Int)]=a/\a<Z dF.au/\dK dF U a=ab/\dK dF O a=true:=by
 have b:=Ph f d e;unfold lK at b;simp only[Kw,decide_eq_false_iff_not,Int.not_lt]at b;obtain⟨a,h,g,c,-⟩:=Pk b.2;refine⟨a,?_,g,c U d (by simp),c O e (by simp)⟩;simp_all[fy,Et]
theorem aed(a:eu dF=0):∃b:Nat,fy dF []=b/\b<Z dF.au/\∀c,c<Z dF.au->dK dF b c=true:=by
 have g:=a;unfold eu at a;rw[if_neg (by omega)]at a;split at a
 ·cases a
 ·split at a
  ·cases a
  ·rename_i h
   obtain⟨b,e,d,-,f⟩:=Pk (by omega:0<=qm (Z dF.au) (dK dF) λ_=>aa);refine⟨b,?_,d,by grind⟩;grind[fy,decide]
def xI(a:bM)(b:Nat):Nat:=Z ((List.range (Z a.au)).filter λc=>dK a c b)
theorem H8{b:z->Bool}:∀{a:List z}(_:∀x∈a,dG x=ab->b x=ab),Z (a.filter dG)<=Z (a.filter b)
 |[],_=>di _
 |x::a,c=>by
  have f:=H8 (a:=a) λg e=>c g (by simp[e]);simp only[Co];cases d:dG x with
  |true=>simp[c x (by simp) d,f]
  |false=>cases b x<;>simp<;>omega
theorem Pl{d:z->Bool}:∀{a:List z}{b:z}(_:∀x∈a,dG x=ab->d x=ab),b∈a->d b=ab->dG b=aa->Z (a.filter dG)<Z (a.filter d)
 |x::a,b,e,c,g,f=>by
  simp only[Co];rcases cf.1 c with rfl|c
  ·have:=H8 (a:=a) λi h=>e i (by simp[h])
   grind
  ·have j:=Pl (by grind) c g f
   grind
theorem aef(a:eu dF=0)(b:U<Z dF.au)(c:O<Z dF.au)(d:dK dF U O=ab)(e:U≠O):xI dF U<xI dF O:=by
 refine Pl (b:=O) (by grind[aea]) (by grind) (ad9 dF O) ?_;grind[dK,absurd,Pj]
def uM(b:aj):Prop:=∀a∈b.m,eu a=0
theorem Bz(a:e8 M aU=T dF):dF∈M.m:=by
 grind[e8]
def qx(c:aj)(a:aw):Prop:=∀b,e8 c a.aq=T b->eF b a.af=ab
def tc(c:aj)(a:aw):Nat:=1+match e8 c a.aq with|some b=>xI b a.af.toNat|none=>0
def ma(b:aj)(a:List aw):Nat:=(a.map (tc b)).sum
theorem aeg:ma M (j8 X c0)=ma M X+tc M c0:=by
 grind[tc,kA,List.take_append_drop,ma,j8]
theorem Pm{g:aw->Nat}:∀{a:List aw}{b:Nat}(d:b<Z a)(c:aw),((a.set b c).map g).sum+g a[b]=(a.map g).sum+g c
 |y::a,0,_,c=>by simp;omega
 |y::a,b+1,d,c=>by
  have e:b<Z a:=by simpa using d
  have:=Pm (g:=g) e c;grind
theorem Eu(x:uM M)(o:∀b∈X,qx M b)(n:qx M c0):
 (dp M X c0=X\/ma M X<ma M (dp M X c0))/\∀b∈dp M X c0,qx M b:=by
 have A:ma M X<ma M (j8 X c0):=by rw[aeg];unfold tc;omega
 have B:∀b∈j8 X c0,qx M b:=λb c=>by
  rcases H6.1 c with rfl|c
  ·exact n
  ·exact o b c
 unfold dp;cases h:e8 M c0.aq with
 |none=>
  grind
 |some d=>
  simp only;split
  ·grind
  ·cases t:X.findIdx? (gW c0.aq c0.ad)with
   |none=>grind
   |some a=>
    obtain⟨g,p,-⟩:=nW.1 t;simp only[bC g];have w:X[a].aq=c0.aq:=by
     simp only[gW,bG,beq_iff_eq]at p;exact p.1
    have i:e8 M X[a].aq=T d:=by rw[w];exact h
    obtain⟨j,f,l⟩:=qo (o _ (bs g) d i);obtain⟨y,r,s⟩:=qo (n d h);have m:=x d (Bz h);obtain⟨e,u,v,q,z⟩:=aec m l s;rw[f,r,u];refine⟨?_,λb c=>?_⟩
    ·by_cases k:j=e
     ·refine .inl ?_
      have:(⟨X[a].aq,X[a].ad,(e:Int)⟩:aw)=X[a]:=by
       rw[<-k,<-f]
      simp_all
     ·refine .inr ?_
      have F:=Pm (g:=tc M) g ⟨X[a].aq,X[a].ad,(e:Int)⟩;have E:=aef m l v q k;have w1:tc M X[a]=1+xI d j:=by unfold tc;rw[i,f];rfl
      have H:tc M ⟨X[a].aq,X[a].ad,(e:Int)⟩=1+xI d e:=by unfold tc;rw[i];rfl
      unfold ma;omega
    ·rcases ak6 c with c|rfl
     ·grind
     ·intro G C
      grind[e8,Option.some.inj,Et]
def fT(a:aX)(b:aM)(c:aO):aX:=⟨a.ax++[b.aB],a.bl++[c],a.m,a.au⟩
def hU:aX->List aM->List aO->Option aX
 |e,[],_=>T e
 |_,_::_,[]=>D
 |e,a::b,c::vs=>if(bW e a).2=ab then(if(bW e a).1=c then hU e b vs else D)else hU (fT e a c) b vs
def jq(a:aX)(b:Lit)(c:Int):aX:=if b.bind=[]then a else⟨a.ax,a.bl,a.m++[b.bind],a.au++[c]⟩
def j9(c:aj)(a:Lit)(b:aw):Bool:=b.aq==a.aq&&(a.ak !=3||sg c a.aq a.gN b.af)
def g7(a:aX)(d:Lit):aX:=
 match d.ad with
 |[b,c]=>if(d.ak==5&&d.op==1)=ab then
  (if((bW a b).2&& !(bW a c).2)=ab then fT a c (bW a b).1 else if((bW a c).2&& !(bW a b).2)=ab then fT a b (bW a c).1 else a)else a
 |_=>a
def nJ(c:aX)(b:Lit)(a:aw):Option aX:=(hU c b.ad a.ad).map λd=>jq d b a.af
def e5(d:aj)(c:List aw)(b:aX)(a:Lit):List aX:=
 if(a.ak==1||a.ak==3)=ab then(c.filter (j9 d a)).filterMap (nJ b a)
 else if pe d c (g7 b a) a=ab then[g7 b a]else[]
def kC(f:aj)(d:List aw)(b:List Lit)(a:List aX)(e:Nat):List aX:=match b[e]? with|some g=>a.flatMap λc=>e5 f d c g|none=>a
def e0:aX:=⟨[],[],[],[]⟩
def fA(d:aj)(b:List aw)(a:aG):List aX:=match ord a.ae []with|none=>[]|some c=>c.foldl (kC d b a.ae) [e0]
def kY(d:aj)(c:List aw)(b:List Lit):List Nat->aX->List aX
 |[],a=>[a]
 |i::e,a=>match b[i]? with|some f=>(e5 d c a f).flatMap (kY d c b e)|none=>kY d c b e a
variable{jb:List Lit}
theorem Po:∀(b:List Nat)(a:List aX),b.foldl (kC M X jb) a=a.flatMap (kY M X jb b)
 |[],a=>by
  simp_all[kY]
 |i::b,a=>by
  rw[oJ,Po b];unfold kC;cases c:jb[i]? with
  |none=>
   simp_all[kY]
  |some d=>
   simp_all[kY,e5,List.flatMap_assoc]
variable{b3:aM}
theorem qy:(bW H b3).2=known H.ax b3:=by
 grind[bW,known]
variable{x fL:List k}
theorem aem(b:bH∈x):(x++fL).findIdx? (λa=>a==bH)=x.findIdx? (λa=>a==bH):=by
 rw[TI];cases c:x.findIdx? (λa=>a==bH)with
 |some d=>rfl
 |none=>
  grind
variable{mT:aX}{bz:List aO}
theorem Ia(e:Z H.bl=Z H.ax)(c:mT.ax=H.ax++x)(d:mT.bl=H.bl++bz)(b:known H.ax b3=ab):bW mT b3=bW H b3:=by
 unfold bW;by_cases a:b3.aB=[]
 ·simp[a]
 ·rw[if_neg a,if_neg a]
  have f:b3.aB∈H.ax:=by
   simp only[known,kg,beq_iff_eq,decide_eq_true_eq]at b;exact b.resolve_left a
  grind[aem,List.findIdx?_eq_some_iff_getElem,List.getElem?_append_left]
variable{iZ:aO}
theorem Ib(b:Z H.bl=Z H.ax)(a:known H.ax b3=aa):bW (fT H b3 iZ) b3=(iZ,ab):=by
 unfold known at a;simp only[Kw,beq_eq_false_iff_ne,ne_eq,decide_eq_false_iff_not]at a;unfold bW;grind[fT]
structure td(e x:aX):Prop where
 ax:∃a,x.ax=e.ax++a
 bl:∃a,x.bl=e.bl++a
 len:Z x.bl=Z x.ax
theorem td.get(a:td H mT)(g:Z H.bl=Z H.ax)(f:known H.ax b3=ab):bW mT b3=bW H b3:=by
 obtain⟨b,d⟩:=a.ax;obtain⟨c,e⟩:=a.bl;grind[Ia]
theorem td.known(h:td H mT)(a:known H.ax b3=ab):known mT.ax b3=true:=by
 obtain⟨c,b⟩:=h.ax;simp only[AM.known,kg,beq_iff_eq,decide_eq_true_eq]at a⊢;rcases a with h|h
 ·exact .inl h
 ·exact .inr (by rw[b];simp[h])
theorem td.trans{c:aX}(b:td H mT)(a:td mT c):td H c:=by
 obtain⟨d,h⟩:=b.ax;obtain⟨e,i⟩:=b.bl;obtain⟨f,j⟩:=a.ax;obtain⟨g,k⟩:=a.bl;exact⟨(by grind),by grind,a.len⟩
theorem Ew(a:known x b3=aa):dR x b3.aB=x++[b3.aB]:=by
 grind[known,dR]
theorem Ex(a:known x b3=ab):dR x b3.aB=x:=by
 grind[known,dR]
theorem uN:∀(c:List aM)(vs:List aO){a b:aX},Z a.bl=Z a.ax->hU a c vs=T b->
 td a b/\b.ax=cH a.ax c/\b.m=a.m/\b.au=a.au/\Z c<=Z vs/\(∀d∈b.bl,d∈a.bl\/d∈vs)/\(∀t∈c,known b.ax t=ab)/\vs.take (Z c)=c.map λt=>(bW b t).1
 |[],vs,a,b,g,h=>by
  simp only[hU,eK]at h;subst h;exact⟨⟨⟨[],by simp⟩,⟨[],by simp⟩,g⟩,rfl,rfl,rfl,by simp,λd o=>.inl o,by simp,by simp⟩
 |t::c,[],a,b,g,h=>by simp[hU]at h
 |t::c,d::vs,a,b,g,h=>by
  rw[hU]at h;split at h
  ·rename_i f
   split at h
   ·rename_i o
    obtain⟨e,p,j,k,v,q,w,l⟩:=uN c vs g h;rw[qy]at f;refine⟨e,?_,j,k,by grind,λu s=>?_,λy i=>?_,?_⟩
    ·grind[cH,Ex]
    ·grind
    ·rcases cf.1 i with rfl|i
     ·exact e.known f
     grind
    ·simp only[iJ,Kg,eJ,l,e.get g f,o]
   ·cases h
  ·rename_i f
   rw[qy,Kr]at f;have n:Z (fT a t d).bl=Z (fT a t d).ax:=by simp[fT,g]
   obtain⟨e,p,j,k,v,q,w,l⟩:=uN c vs n h;have x:td a (fT a t d):=⟨⟨_,rfl⟩,⟨_,rfl⟩,n⟩;have r:known (fT a t d).ax t=true:=by simp[known,fT]
   refine⟨x.trans e,?_,j,k,by grind,λu s=>?_,λy i=>?_,?_⟩
   ·rw[p];simp only[cH,oJ,Ew f];rfl
   ·rcases q u s with h|h
    ·rcases c5.1 h with h|h
     ·exact .inl h
     grind
    grind
   ·rcases cf.1 i with rfl|i
    ·exact e.known r
    grind
   ·simp only[iJ,Kg,eJ,l,e.get n r,Ib g f]
structure sj(V:List k)(fB:List aO)(l:List aX):Prop where
 ax:∀e∈l,e.ax=V
 bl:∀e∈l,Z e.bl=Z V
 nd:(l.map aX.bl).Nodup
 fB:∀e∈l,∀v∈e.bl,v∈fB
def uO(a:List k)(d:Lit):List k:=
 match d.ad with
 |[b,c]=>if(d.ak==5&&d.op==1)=ab then(if(known a b&& !known a c)=ab then a++[c.aB]else if(known a c&& !known a b)=ab then a++[b.aB]else a)else a
 |_=>a
def te(b:List k)(a:Lit):List k:=if(a.ak==1||a.ak==3)=ab then cH b a.ad else uO b a
structure wa(fs:List aw)(l:Lit)(fB:List aO):Prop where
 fz:fY fs
 len:∀f∈fs,f.aq=l.aq->Z f.ad=Z l.ad
 bl:∀f∈fs,∀v∈f.ad,v∈fB
 uP:∀t∈l.ad,t.aB=[]->t.const∈fB
theorem Ic(e:Z H.bl=Z H.ax)(d:∀b∈H.bl,b∈bz)(c:b3.aB=[]->b3.const∈bz)(a:known H.ax b3=ab):(bW H b3).1∈bz:=by
 rw[<-qy]at a;unfold bW at a⊢;grind[List.findIdx?_eq_some_iff_getElem]
variable{cn:Type}{pI:z -> List cn}
theorem Pp:∀{a:List z},a.Nodup->(∀x∈a,(pI x).Nodup)->(∀x∈a,∀c∈a,x≠c->∀e∈pI x,e∉pI c)->(a.flatMap pI).Nodup
 |[],_,_,_=>by simp
 |x::a,b,d,f=>by
  rw[kf]at b;rw[Kx,tE];refine⟨d x (by simp),Pp b.2 (by grind) (by grind),?_⟩;grind
theorem Ie(a:aX)(b:Lit)(c:Int):(jq a b c).bl=a.bl:=by grind[jq]
theorem Pq(a:aX)(b:Lit)(c:Int):(jq a b c).ax=a.ax:=by grind[jq]
theorem Pr(d:fY X):∀a∈X,∀g∈X,a.aq=g.aq->a.ad=g.ad->a=g:=by
 intro a k g l i j;obtain⟨b,e,rfl⟩:=jS.1 k;obtain⟨c,f,rfl⟩:=jS.1 l;have n:db X[b] X[c]=0:=by rw[zj];exact⟨i,j⟩
 rcases Cj b c with h|h|h
 ·have:=d b c e f h;omega
 ·subst h;rfl
 ·have m:=d c b f e h
  grind[uL]
theorem aen(a:fY X):X.Nodup:=by
 have:=H4.1 a;rw[List.nodup_iff_pairwise_ne];refine this.imp ?_;grind[zj]
variable{P:Lit}
theorem Ps(g:H.ax=x)(l:Z H.bl=Z x)(j:∀b∈H.bl,b∈bz)(o:∀a∈P.ad,a.aB=[]->a.const∈bz):
 (g7 H P).ax=uO x P/\Z (g7 H P).bl=Z (uO x P)/\(∃d,(g7 H P).bl=H.bl++d)/\∀b∈(g7 H P).bl,b∈bz:=by
 have s:H.ax=x/\Z H.bl=Z x/\(∃d,H.bl=H.bl++d)/\∀b∈H.bl,b∈bz:=by simp_all
 unfold g7 uO;split
 ·rename_i e f i
  have m:e∈P.ad:=by rw[i];simp
  have n:f∈P.ad:=by rw[i];simp
  simp only[qy,g];have put:∀(a c:aM),a∈P.ad->known x a=ab->(fT H c (bW H a).1).ax=x++[c.aB]/\Z (fT H c (bW H a).1).bl=Z (x++[c.aB])/\(∃d,(fT H c (bW H a).1).bl=H.bl++d)/\∀b∈(fT H c (bW H a).1).bl,b∈bz:=by
   intro a c p r;refine⟨by rw[fT,g],by simp[fT,l],⟨_,rfl⟩,λb q=>?_⟩;rcases c5.1 q with h|h
   ·exact j b h
   ·simp only[lV]at h
    subst h;exact Ic (by rw[l,g]) j (o a p) (by grind)
  split
  ·split
   ·rename_i h
    simp only[bG]at h;exact put e f m h.1
   ·split
    ·rename_i h
     simp only[bG]at h;exact put f e n h.1
    omega
  omega
 omega
theorem Ig(c:wa X P bz)(d:H.ax=x)(i:Z H.bl=Z x)(y:∀b∈H.bl,b∈bz):
 (∀e∈e5 M X H P,e.ax=te x P/\Z e.bl=Z (te x P)/\(∃B,e.bl=H.bl++B)/\∀b∈e.bl,b∈bz)/\((e5 M X H P).map aX.bl).Nodup:=by
 unfold e5 te;split
 ·refine⟨λe f=>?_,?_⟩
  ·obtain⟨a,p,f⟩:=yj.1 f
   obtain⟨U,u,rfl⟩:=dg.1 f;obtain⟨n,o,-,-,-,F,-,-⟩:=uN P.ad a.ad (by rw[i,d]) u;rw[Ie,Pq];refine⟨by rw[o,d],by rw[n.len,o,d],n.bl,λb N=>?_⟩;rcases F b N with h|h
   ·exact y b h
   ·exact c.bl a (by grind) b h
  ·rw[List.map_filterMap]
   have t:(X.filter (j9 M P)).Nodup:=(aen c.fz).sublist FA;have j:∀a∈X.filter (j9 M P),a∈X/\a.aq=P.aq:=by grind[j9]
   generalize X.filter (j9 M P)=gs at t j;induction gs with
   |nil=>simp
   |cons a gs l=>
    rw[kf]at t;have l:=l t.2 λg r=>j g (by simp[r]);rw[Kn];cases p:(nJ H P a).map aX.bl with
    |none=>simpa[p]using l
    |some B=>
     simp only[];rw[kf];refine⟨λO=>?_,l⟩;obtain⟨g,r,L⟩:=yj.1 O;obtain⟨e,f,z⟩:=dg.1 p;obtain⟨U,u,A⟩:=dg.1 L;obtain⟨S,Q,rfl⟩:=dg.1 f;obtain⟨V,R,rfl⟩:=dg.1 u;rw[Ie]at z A;obtain⟨-,C,-,-,-,-,-,v⟩:=uN P.ad a.ad (by rw[i,d]) Q;obtain⟨-,E,-,-,-,-,-,w⟩:=uN P.ad g.ad (by rw[i,d]) R;have q:=j a (by simp);have s:=j g (by simp[r]);have I:=c.len a q.1 q.2;have K:=c.len g s.1 s.2
     have J:∀m,bW S m=bW V m:=by
      intro m;unfold bW;rw[C,E,z,A]
     rw[<-I,dB]at v;rw[<-K,dB]at w;have G:a.ad=g.ad:=by
      rw[v,w];exact rO λm _=>by rw[J]
     have:=Pr c.fz a q.1 g s.1 (by omega) G;grind
 ·obtain⟨n,o,W,Y⟩:=Ps (P:=P) d i y c.uP
  grind
theorem sj.next{d:List aX}(b:sj x bz d)(n:wa X P bz):sj (te x P) bz (d.flatMap λa=>e5 M X a P):=by
 have i:∀a∈d,_:=λa c=>Ig (M:=M) n (b.ax a c) (b.bl a c) (b.fB a c);refine⟨λg f=>?_,λg f=>?_,?_,λg f=>?_⟩
 ·grind
 ·grind
 ·rw[List.map_flatMap]
  have o:d.Nodup:=by
   have:=b.nd;clear i b;induction d with
   |nil=>simp
   |cons a d t=>
    grind
  refine Pp o (by grind) λa c e h p y q r=>?_;obtain⟨g,f,rfl⟩:=du.1 q;obtain⟨u,s,j⟩:=du.1 r;obtain⟨v,l⟩:=((i a c).1 g f).2.2.1;obtain⟨w,m⟩:=((i e h).1 u s).2.2.1;rw[l,m]at j;have:=List.append_inj j (by rw[b.bl a c,b.bl e h]);have heq:a.bl=e.bl:=this.1.symm;have key:∀{P:List aX},(P.map aX.bl).Nodup->a∈P->e∈P->a=e:=by
   intro P;induction P with
   |nil=>grind
   |cons z P t=>
    grind
  exact p (key b.nd c h)
 grind
def wb(a:List aO):Nat->List (List aO)
 |0=>[[]]
 |k+1=>a.flatMap λb=>(wb a k).map (b::·)
theorem Pt(a:List aO):∀k,Z (wb a k)=Z a^k
 |0=>rfl
 |k+1=>by
  have:∀b:List aO,Z (b.flatMap λd=>(wb a k).map (d::·))=Z b*Z a^k:=by
   intro b;induction b with
   |nil=>simp
   |cons e b c=>rw[Kx,fb,kd,Pt a k,c,iJ,qK];omega
  grind[wb]
theorem Pu:∀{a:List aO},(∀v∈a,v∈bz)->a∈wb bz (Z a)
 |[],_=>by simp[wb]
 |v::a,b=>by
  simp only[iJ,wb,TJ,du];exact⟨v,b v (by simp),a,Pu (by grind),rfl⟩
theorem BA[DecidableEq z]:∀{b a:List z},b.Nodup->(∀x∈b,x∈a)->Z b<=Z a
 |[],_,_,_=>by simp
 |x::b,a,c,d=>by
  rw[kf]at c;have g:=d x (by simp);have e:Z (a.erase x)=Z a -1:=by grind
  have f:0<Z a:=by grind
  have:=BA (a:=a.erase x) c.2 (by grind);grind
theorem sj.len{c:List aX}(a:sj x bz c):Z c<=Z bz^Z x:=by
 have:=BA (a:=wb bz (Z x)) a.nd λg e=>by
  obtain⟨b,d,rfl⟩:=du.1 e;have:=Pu (a.fB b d);rwa[a.bl b d]at this
 rw[kd,Pt]at this;exact this
theorem sj.start(a:List aO):sj [] a [e0]:=by
 refine⟨?_,?_,by simp,?_⟩<;>simp[e0]
theorem Pv(a:x.Nodup):(dR x bH).Nodup:=by
 grind[dR]
variable{lg:k}
theorem Pw:lg∈dR x bH<->lg∈x\/(lg=bH/\bH≠[]):=by
 grind[dR]
theorem Px:∀(c:List aM){a:List k},a.Nodup->(cH a c).Nodup
 |[],_,b=>b
 |t::c,a,b=>Px c (Pv b)
theorem Ey:∀{c:List aM}{a:List k}{b:k},b∈cH a c<->b∈a\/(b≠[]/\∃t∈c,t.aB=b)
 |[],a,b=>by simp[cH]
 |t::c,a,b=>by
  have:cH a (t::c)=cH (dR a t.aB) c:=rfl;rw[this,Ey,Pw];grind
theorem Ih:∀{c:List (List aM)}{b:List k}{a:k},a∈c.foldl cH b<->a∈b\/(a≠[]/\∃l∈c,∃d∈l,d.aB=a)
 |[],b,a=>by simp
 |l::c,b,a=>by
  rw[oJ,Ih,Ey];grind
theorem aeo(e:x.Nodup):(uO x P).Nodup/\∀a∈uO x P,a∈x\/(a≠[]/\∃b∈P.ad,b.aB=a):=by
 have h:x.Nodup/\∀a∈x,a∈x\/(a≠[]/\∃b∈P.ad,b.aB=a):=by grind
 have put:∀b∈P.ad,known x b=aa->(x++[b.aB]).Nodup/\∀a∈x++[b.aB],a∈x\/(a≠[]/\∃b∈P.ad,b.aB=a):=by
  intro b g d;rw[<-Ew d];refine⟨Pv e,λa f=>?_⟩;rcases Pw.1 f with c|⟨rfl,c⟩
  ·exact .inl c
  ·grind
 unfold uO;split
 ·grind
 omega
theorem aep(c:x.Nodup):(te x P).Nodup/\∀a∈te x P,a∈x\/(a≠[]/\∃b∈P.ad,b.aB=a):=by
 grind[te,Px,Ey,aeo]
variable{u:aG}
theorem Py(q:∀b∈u.ae,wa X b bz):∀(c:List Nat),∃a,a.Nodup/\(∀d∈a,d∈e7 u)/\sj a bz (c.foldl (kC M X u.ae) [e0]):=by
 have key:∀(c:List Nat)(a:List k)(e:List aX),a.Nodup->(∀d∈a,d∈e7 u)->sj a bz e->∃f,f.Nodup/\(∀d∈f,d∈e7 u)/\sj f bz (c.foldl (kC M X u.ae) e):=by
  intro c;induction c with
  |nil=>grind
  |cons j c s=>
   intro a e m n o;rw[oJ];cases h:u.ae[j]? with
   |none=>
    grind[kC]
   |some b=>
    have p:b∈u.ae:=sG h;have:kC M X u.ae e j=e.flatMap λl=>e5 M X l b:=by rw[kC,h]
    rw[this];have i:=aep (P:=b) m;refine s (te a b) _ i.1 (λd r=>?_) (o.next (q b p));rcases i.2 d r with g|⟨g,v,t,rfl⟩
    ·exact n d g
    ·rw[e7,Ih]
     grind
 exactλc=>key c [] [e0] vi (by simp) (sj.start bz)
theorem Pz(c:1<=aU):∀(k:Nat){a:Int},0<=a->ny aU c1 k a<=c1->a*aU^k<=c1
 |0,a,_,b=>by grind[ny]
 |k+1,a,d,b=>by
  rw[ny]at b;split at b
  ·rename_i e
   have:=Pz c k (akU d (by omega)) b;grind[Int.pow_succ,Int.mul_comm,Int.mul_assoc]
  ·omega
variable{c2:Nat}
theorem aeq(g:1<=O)(c:y<=c2)(b:ny U O c2 1<=O):U^y<=O:=by
 by_cases f:U=0
 ·grind[Nat.zero_pow]
 ·have a:=Pz (aU:=(U:Int)) (by omega) c2 (by omega:(0:Int)<=1) b
  rw[Int.one_mul]at a;have d:((U^c2:Nat):Int)<=O:=by rw[Int.natCast_pow];exact a
  have e:U^y<=U^c2:=akY (by omega) c;omega
theorem PA(g:∀h∈u.ae,wa X h bz)(f:1<=U)(b:ny (Z bz) U (Z (e7 u)) 1<=U)(a:List Nat):Z (a.foldl (kC M X u.ae) [e0])<=U:=by
 obtain⟨i,c,d,e⟩:=Py (M:=M) g a;exact iU e.len (aeq f (BA c d) b)
inductive Seq(body:List Lit):List Nat->List k->List Nat->Prop
 |nil (out:List Nat) (V:List k):Seq body out V []
 |cons (out:List Nat) (V:List k) (i:Nat) (t:List Nat) (l:Lit) (hl:body[i]?=T l) (hn:i∉out) (hr:iP V l=ab) (h:Seq body (out++[i]) (cH V l.ad) t):Seq body out V (i::t)
theorem PC:∀(n:Nat){out:List Nat}{b:List k}{h:List Nat},mG jb n out b=T h->∃d,h=out++d/\Z d=n/\Seq jb out b d
 |0,out,b,h,a=>by
  simp only[mG,eK]at a;exact⟨[],by simp[a],rfl,.nil _ _⟩
 |n+1,out,b,h,a=>by
  rw[mG]at a;cases f:vV jb out b with
  |none=>grind
  |some g=>
   rw[f]at a;obtain⟨d,j,l,i⟩:=PC n a;unfold vV at f;rw[FD]at f;obtain⟨e,c,-⟩:=f;have c:g<Z jb:=by simpa using c
   rw[lJ,bC c]at e;simp only[bG,jt,decide_eq_false_iff_not]at e;have m:xx jb g=jb[g].ad:=by rw[xx,bC c];rfl
   rw[m]at i;exact⟨g::d,by simp[j],by simp[l],.cons _ _ _ _ _ (bC c) e.1 e.2 i⟩
variable{bu:List Nat}
theorem BB(a:ord jb []=T bu):Seq jb [] [] bu/\Z bu=Z jb:=by
 obtain⟨e,b,c,d⟩:=PC _ a;grind
theorem Seq.spec{out:List Nat}(a:Seq jb out x bu):(out.Nodup->(out++bu).Nodup)/\∀b∈bu,b<Z jb:=by
 induction a with
 |nil out x=>grind
 |cons out x b h g c d e a f=>
  grind
theorem PE(b:ord jb []=T bu):bu.Nodup/\∀a,a<Z jb<->a∈bu:=by
 obtain⟨c,g⟩:=BB b;obtain⟨d,e⟩:=c.spec;have f:bu.Nodup:=by simpa using d vi
 refine⟨f,λa=>⟨λi=>?_,e a⟩⟩;refine yl λh=>?_;have:=BA (b:=a::bu) (a:=List.range (Z jb)) (by grind) (by grind);grind
theorem PG:∀{b:List aM}{a:List k},(∀t∈b,known a t=ab)->cH a b=a
 |[],_,_=>rfl
 |t::b,a,c=>by
  have d:cH a (t::b)=cH (dR a t.aB) b:=rfl;rw[d,Ex (c t (by simp))];exact PG (by grind)
theorem PH(h:iP x P=ab):te x P=cH x P.ad:=by
 unfold iP at h;unfold te;split
 ·rfl
 ·rename_i f
  rw[if_neg f]at h;split at h
  ·rename_i c
   simp only[bG,beq_iff_eq]at c;obtain⟨a,b,e⟩:∃a b,P.ad=[a,b]:=by
    match j:P.ad with
    |[a,b]=>grind
    |[]=>grind
    |[_]=>grind
    |_::_::_::_=>grind
   have i:cH x [a,b]=dR (dR x a.aB) b.aB:=rfl;simp only[uO,e];rw[if_pos (by grind),i];rw[e]at h;simp only[TD,Kq,FB,kg]at h;cases d:known x a with
   |true=>
    grind[Ex,known,Ew]
   |false=>
    have g:known x b=true:=by rcases h with h|h;· rw[d]at h;cases h
                              ·exact h
    rw[Ew d,Ex]
    ·simp[g]
    grind[known]
  ·rename_i c
   rw[PG (by grind)];grind[uO]
theorem aer(z:∀d∈jb,wa X d bz)(j:List Nat->aX->Prop)
 (step:∀(done:List Nat)(b:List k)(a c:aX)(g:Nat)(d:Lit),jb[g]?=T d->g∉done->iP b d=ab->a.ax=b->Z a.bl=Z b->(∀i∈a.bl,i∈bz)->j done a->c∈e5 M X a d->j (done++[g]) c):
 ∀{done:List Nat}{b:List k}{h:List Nat},Seq jb done b h->∀a,a.ax=b->Z a.bl=Z b->(∀i∈a.bl,i∈bz)->j done a->∀c∈kY M X jb h a,j (done++h) c/\Z c.bl=Z c.ax/\(∀i∈c.bl,i∈bz)/\∀e,e∈c.ax<->e∈b\/(e≠[]/\∃g∈h,∃d,jb[g]?=T d/\∃n∈d.ad,n.aB=e):=by
 intro done b h f;induction f with
 |nil out b=>
  grind[kY]
 |cons out b g n d r B s f v=>
  intro a o p q x c m;rw[kY,r]at m;obtain⟨e,u,m⟩:=TJ.1 m;have l:=(Ig (M:=M) (by grind) o p q).1 e u;rw[PH s]at l;have:=v e l.1 l.2.1 l.2.2.2 (by grind) c m;rw[fH]at this;refine⟨this.1,this.2.1,this.2.2.1,λF=>?_⟩;rw[this.2.2.2,Ey];constructor
  ·rintro((f|⟨f,w,t,a⟩)|⟨f,C,y,E,A,w,t,a⟩)
   ·exact .inl f
   ·grind
   grind
  grind
theorem PI(a:ord u.ae []=T bu):fA M X u=kY M X u.ae bu e0:=by
 grind[fA,Po]
structure PJ(p:aj)(r:aG)(l:Lit):Prop where
 ak:1<=l.ak/\l.ak<=5
 cmp:l.ak=5->Z l.ad=2/\l.aq= -1
 aq:l.ak≠5->∃a:Nat,∃h:a<Z p.d,l.aq=a/\Z l.ad=Z p.d[a].bb
 gN:l.ak=3\/l.ak=4->∃q,e8 p l.aq=T q/\eF q l.gN=ab
 bind:l.bind≠[]->l.ak=1/\l.bind=r.af.aB/\∃q,e8 p l.aq=T q/\e8 p r.aq=T q
structure zl(p:aj)(r:aG):Prop where
 lits:∀l∈r.ae,PJ p r l
 one:∀(i j:Nat)(l m:Lit),r.ae[i]?=T l->r.ae[j]?=T m->l.bind≠[]->m.bind≠[]->i=j
 head:0<=r.aq->∃a:Nat,∃h:a<Z p.d,r.aq=a/\Z r.ad=Z p.d[a].bb
 none:0<=r.aq->(r.af.ak=0<->e8 p r.aq=Option.none)
 const:0<=r.aq->r.af.ak=1->∃q,e8 p r.aq=T q/\eF q r.af.aQ=ab
 aB:r.af.ak=2\/r.af.ak=3->r.af.aB≠[]/\∃l∈r.ae,l.bind=r.af.aB
 fn:0<=r.aq->r.af.ak=3->∃a:Nat,∃h:a<Z p.aW,r.af.aQ=a/\∃q,e8 p r.aq=T q/\Z p.aW[a].gM=Z q.au/\p.aW[a].gM.all (eF q)=ab
 kinds:0<=r.af.ak/\r.af.ak<=3
structure tf(p:aj)(r:aG)(done:List Nat)(e:aX):Prop where
 len:Z e.au=Z e.m
 m:e.m=done.filterMap λi=>match r.ae[i]? with|some l=>if l.bind=[]then D else T l.bind|none=>D
 au:∀x∈e.au,∃q,e8 p r.aq=T q/\eF q x=ab
theorem PK(a:aX)(b:Lit):(g7 a b).m=a.m/\(g7 a b).au=a.au:=by
 unfold g7;split
 ·split
  ·split
   ·exact⟨rfl,rfl⟩
   ·split
    ·exact⟨rfl,rfl⟩
    grind
  grind
 grind
theorem tf.step(n:zl M u)(p:∀c∈X,qx M c){done:List Nat}(s:u.ae[U]?=T P)(v:Z H.bl=Z H.ax)(a:tf M u done H)(b:mT∈e5 M X H P):tf M u (done++[U]) mT:=by
 have k:P∈u.ae:=sG s;unfold e5 at b;split at b
 ·obtain⟨c,q,b⟩:=yj.1 b
  obtain⟨d,w,rfl⟩:=dg.1 b;obtain⟨-,-,g,h,-,-,-,-⟩:=uN P.ad c.ad v w;have l:=tF.1 q;by_cases f:P.bind=[]
  ·have e:jq d P c.af=d:=by unfold jq;rw[if_pos f]
   rw[e];refine⟨by rw[h,g,a.len],?_,by rw[h];exact a.au⟩;rw[g,a.m,TK];grind
  ·have e:jq d P c.af=⟨d.ax,d.bl,d.m++[P.bind],d.au++[c.af]⟩:=by unfold jq;rw[if_neg f]
   rw[e];refine⟨by simp[h,g,a.len],?_,λx i=>?_⟩
   ·simp only
    rw[g,a.m,TK];grind
   ·simp only[h,c5,lV]at i
    rcases i with i|rfl
    ·exact a.au x i
    ·obtain⟨-,-,o,z,t⟩:=(n.lits P k).bind f
     have y:c.aq=P.aq:=by
      have:=l.2;simp only[j9,bG,beq_iff_eq]at this;exact this.1
     exact⟨o,t,p c l.1 o (by grind)⟩
 ·rename_i r
  split at b
  ·simp only[lV]at b
   subst b;obtain⟨e,j⟩:=PK H P;have f:P.bind=[]:=by
    refine yl λf=>?_;have:=((n.lits P k).bind f).1;simp[this]at r
   refine⟨by rw[e,j,a.len],?_,by rw[j];exact a.au⟩;rw[e,a.m,TK];grind
  ·cases b
structure uQ(p:aj)(fB:List aO)(f:aw):Prop where
 fJ:∃a:Nat,∃h:a<Z p.d,f.aq=a/\Z f.ad=Z p.d[a].bb
 fB:∀v∈f.ad,v∈fB
 af:qx p f
 none:e8 p f.aq=Option.none->f.af= -1
structure PM(p:aj)(r:aG)(fB:List aO)(e:aX):Prop where
 len:Z e.bl=Z e.ax
 fB:∀v∈e.bl,v∈fB
 ax:∀t∈r.ad,known e.ax t=ab
 zm:Z e.au=Z e.m
 m:r.af.ak=2\/r.af.ak=3->r.af.aB∈e.m
 au:∀x∈e.au,∃q,e8 p r.aq=T q/\eF q x=ab
theorem aes:bH∈fK u<->bH≠[]/\∃a∈u.ae,∃b∈a.ad,b.aB=bH:=by
 have:fK u=(u.ae.map Lit.ad).foldl cH []:=by
  unfold fK;rw[Ky]
 grind[Ih]
theorem Ii(t:zl M u)(g:uD u=ab)(s:∀i∈u.ae,wa X i bz)(A:∀l∈X,qx M l):∀a∈fA M X u,PM M u bz a:=by
 intro a k;simp only[uD,bG]at g;obtain⟨B,f⟩:=rM.1 g.1.1;obtain⟨v,-⟩:=BB f;obtain⟨-,q⟩:=PE f;rw[PI f]at k;have key:=aer (M:=M) s (λdone a=>tf M u done a) (by grind[tf.step]) v e0 rfl rfl (by simp[e0]) ⟨rfl,rfl,by simp[e0]⟩ a k;rw[c3]at key;obtain⟨c,n,o,p⟩:=key;refine⟨n,o,λy w=>?_,c.len,λr=>?_,c.au⟩
 ·have:=g.1.2
  rw[fi]at this;have:=this y w;simp only[known,kg,beq_iff_eq,decide_eq_true_eq]at this⊢;rcases this with h|h
  ·exact .inl h
  ·refine .inr ((p _).2 (.inr ?_))
   obtain⟨j,i,e,z,x,a⟩:=aes.1 h;obtain⟨b,d,rfl⟩:=jS.1 e;exact⟨j,b,(q b).1 d,u.ae[b],bC d,z,x,a⟩
 ·obtain⟨j,i,e,a⟩:=t.aB r
  obtain⟨b,d,rfl⟩:=jS.1 e;rw[c.m,yj];grind
theorem Ez(a:Z H.au=Z H.m)(b:bH∈H.m):jO H bH∈H.au:=by
 grind[jO,List.findIdx?_eq_none_iff,List.findIdx?_eq_some_iff_getElem,List.getElem?_eq_getElem,List.getElem_mem]
theorem PN(c:zl M u)(e:0<=u.aq)(o:∀g∈u.ad,g.aB=[]->g.const∈bz)(a:PM M u bz H):uQ M bz (iR M u H):=by
 obtain⟨q,z,x,y⟩:=c.head e;refine⟨(by grind[iR,eG]),λE l=>?_,λn f=>?_,λh=>?_⟩
 ·simp only[iR,eG,du]at l
  obtain⟨g,k,rfl⟩:=l;exact Ic a.len a.fB (o g k) (a.ax g k)
 ·have f:e8 M u.aq=T n:=f
  show eF n (nI M u H)=ab;have p:u.af.ak≠0:=λH=>by rw[(c.none e).1 H]at f;cases f
  obtain⟨B,C⟩:=c.kinds;unfold nI;split
  ·rename_i b
   obtain⟨i,j,d⟩:=c.const e b;grind
  ·split
   ·rename_i b
    obtain⟨i,j,d⟩:=a.au _ (Ez a.zm (a.m (.inl b)));grind
   ·split
    ·rename_i b
     obtain⟨r,A,j,i,d,s,t⟩:=c.fn e b;rw[f]at d;simp only[eK]at d;subst d;obtain⟨i,v,w⟩:=a.au _ (Ez a.zm (a.m (.inr b)));grind[Option.some.injEq,qo,Int.toNat_natCast,List.getElem?_eq_getElem,List.all_eq_true,List.getElem_mem]
    ·omega
 ·have h:e8 M u.aq=none:=h
  have p:=(c.none e).2 h;show nI M u H= -1;grind[nI]
def tg(a:aj)(c:List aw)(b:aG):List aw:=(fA a c b).map (iR a b)
def th(b:List Int)(a:aG):Bool:=S (0<=a.aq)&&b.contains a.aq
def mb(a:aj)(c:List Int)(d out:List aw)(b:aG):List aw:=if th c b=ab then jm a out (tg a d b)else out
def nK(a:aj)(b:List Int)(c:List aw):List aw:=a.ah.foldl (mb a b c) []
structure dq(p:aj)(fB:List aO)(fs:List aw):Prop where
 fz:fY fs
 ok:∀f∈fs,uQ p fB f
structure ti(p:aj)(fB:List aO):Prop where
 aV:uM p
 aet:∀l∈p.m,Z l.au<=8
 hG:∀r∈p.ah,zl p r
 safe:∀r∈p.ah,uD r=ab
 uP:∀r∈p.ah,(∀t∈r.ad,t.aB=[]->t.const∈fB)/\∀l∈r.ae,∀t∈l.ad,t.aB=[]->t.const∈fB
 ah:Z p.ah<=20
 d:Z p.d<=24
 q3:∀r∈p.ah,ny (Z fB) (3000:Nat) (Z (e7 r)) 1<=(3000:Nat)
theorem uQ.zn(a:uQ M bz c0):ep M c0.aq=true:=by
 obtain⟨b,d,c,-⟩:=a.fJ;grind[ep]
theorem dq.meet(g:ti M bz)(c:dq M bz X)(h:u∈M.ah):∀a∈u.ae,wa X a bz:=by
 intro a f;have i:=(g.hG u h).lits a f;refine⟨c.fz,λb d l=>?_,λb d=>(c.ok b d).fB,(g.uP u h).2 a f⟩;obtain⟨j,q,m,n⟩:=(c.ok b d).fJ;by_cases e:a.ak=5
 ·have:=(i.cmp e).2
  omega
 ·obtain⟨k,r,o,p⟩:=i.aq e
  grind
theorem Ij(p:uM M)(c:dq M bz X)(e:uQ M bz c0):dq M bz (dp M X c0):=by
 have n:=Eu p (λb a=>(c.ok b a).af) e.af;have i:=Pf (M:=M) (X:=X) (c0:=c0) (b:=λm h=>(∃f:Nat,∃c:f<Z M.d,m=f/\Z h=Z M.d[f].bb)/\∀t∈h,t∈bz) (λb a=>⟨(c.ok b a).fJ,(c.ok b a).fB⟩) ⟨e.fJ,e.fB⟩;have o:∀b∈dp M X c0,e8 M b.aq=D->b.af= -1:=by
  intro b a l;have r:b∈X\/b=c0\/∃g,e8 M b.aq=T g:=by
   have v:∀{y},y∈j8 X c0->y∈X\/y=c0:=by grind[H6]
   unfold dp at a;cases s:e8 M c0.aq with
   |none=>
    grind
   |some g=>
    rw[s]at a;simp only at a;split at a
    ·grind
    ·cases j:X.findIdx? (gW c0.aq c0.ad)with
     |none=>
      grind
     |some f=>
      rw[j]at a;obtain⟨q,w,-⟩:=nW.1 j;simp only[bC q]at a;rcases ak6 a with a|rfl
      ·grind
      grind[gW,e8]
  rcases r with k|rfl|⟨g,k⟩
  ·exact(c.ok b k).none l
  ·exact e.none l
  ·grind
 exact⟨Pe c.fz,λb a=>⟨(i b a).1,(i b a).2,n.2 b a,o b a⟩⟩
theorem EA(f:uM M):∀(a:List aw){c:List aw},dq M bz c->(∀e∈a,uQ M bz e)->dq M bz (jm M c a)
 |[],_,d,_=>d
 |b::a,c,d,g=>EA f a (by grind[Ij]) (by grind)
theorem PQ(a:ti M bz)(e:dq M bz X)(b:u∈M.ah)(g:0<=u.aq):∀c∈tg M X u,uQ M bz c:=by
 intro c d;obtain⟨f,h,rfl⟩:=du.1 d;exact PN (a.hG u b) g (a.uP u b).1 (Ii (a.hG u b) (a.safe u b) (e.meet a b) (λc d=>(e.ok c d).af) f h)
theorem Ik(a:ti M bz)(c:dq M bz X)(b:u∈M.ah):Z (tg M X u)<=3000:=by
 rw[tg,kd,fA];split
 ·simp
 ·exact PA (c.meet a b) (by omega) (a.q3 u b) _
theorem EB(c:ti M bz)(d:dq M bz X)(b:List Int):∀(a:List aG)(_:∀r∈a,r∈M.ah){out:List aw},dq M bz out->
 dq M bz (a.foldl (mb M b X) out)/\Z (a.foldl (mb M b X) out)<=Z out+Z a*3000
 |[],_,out,e=>⟨e,by simp⟩
 |r::a,g,out,e=>by
  have h:=g r (by simp);have i:dq M bz (mb M b X out r)/\Z (mb M b X out r)<=Z out+3000:=by
   unfold mb;split
   ·rename_i f
    simp only[th,bG,decide_eq_true_eq]at f;have j:=Ik c d h;have m:=By (c:=M) (tg M X r) out;exact⟨EA c.aV _ e (PQ c d h f.1),by omega⟩
   ·grind
  have j:=EB c d b a (λl k=>g l (by simp[k])) i.1;grind
theorem dq.nil(c:aj)(a:List aO):dq c a []:=⟨λd e b=>by simp at b,by simp⟩
theorem EC(d:ti M bz)(b:dq M bz X)(a:List Int):dq M bz (nK M a X)/\Z (nK M a X)<=60000:=by
 have c:=EB d b a M.ah (λ_ b=>b) (dq.nil M bz);refine⟨c.1,?_⟩;have e:=c.2;have f:=k9 3000 d.ah;grind[nK]
def uR(b c:Bool)(a:aX):List AV:=[eS b cS a.ax,eS b cV a.bl,eS c cS a.m,eS c cI a.au]
@[simp] theorem aev(a b:Bool)(c:aX):iD 4 (.agg (uR a b c))=T (.aK aa (uR a b c) 0):=p4 rfl rfl
@[simp] theorem aew(a c:Bool)(b:aX):(uR a c b)[0]?=T (eS a cS b.ax):=rfl
@[simp] theorem aex(a c:Bool)(b:aX):(uR a c b)[1]?=T (eS a cV b.bl):=rfl
theorem aey(a:aX)(c:aM)(o:Sm a.ax)(q:Z a.bl=Z a.ax):PR C 62 [.agg (uR V F a),.agg (cT c)] (.aE [.agg (cV (bW a c).1),.bool (bW a c).2]):=by
 refine MW.pr ?_;simp only[aev,ud,Q,a6,aH,nn,aew,aex,aJ,fF,AG,l2];have j:∀d:aO,(AV.agg [g (cV d) 0,g (cV d) 1,g (cV d) 2])=.agg (cV d):=λ_=>rfl;have m:∀(d:aO)(n:Bool),aI [] .res (.aE [(AV.agg (cV d)).pl,(AV.bool n).pl]) (.aE [.agg (cV d),.bool n]):=by simp[Im.snap]
 refine b (λh=>?_) (λh=>?_)
 ·grind[bW]
 ·have h:¬c.aB=[]:=by simpa using h
  rw[bW,if_neg h];refine f (nw a.ax c.aB o) ?_;simp only[A,Q];cases i:a.ax.findIdx? (λe=>e==c.aB)with
  |none=>
   have:bN (λe=>e==c.aB) a.ax= -1:=by rw[bN,i]
   rw[this];refine a7 (aD (dD:=cV zV) rfl ?_);rw[l2,Q,j];exact m _ _
  |some l=>
   have:bN (λe=>e==c.aB) a.ax=(l:Int):=by rw[bN,i]
   rw[this];have k:l<Z a.bl:=by
    have:=(nW.1 i).1;omega
   refine bq ?_ (by simp);simp only[aC k (lZ _),Q,oa,l2];rw[j,oM,bC k];exact m _ _
variable{mW:List aM}
theorem aez{vs:List aO}(b:Z mW<=Z vs)(a:U<Z mW):
 hU H (mW.drop U) (vs.drop U)=if(bW H mW[U]).2=ab then(if(bW H mW[U]).1=vs[U]'(by omega)then hU H (mW.drop (U+1)) (vs.drop (U+1))else D)else hU (fT H mW[U] (vs[U]'(by omega))) (mW.drop (U+1)) (vs.drop (U+1)):=by
 grind[List.drop_eq_getElem_cons,hU]
def Ip(b:Option aX)(c:AV):Prop:=∃a ok,c=.aE [.agg (cE aa a),.bool ok]/\b=if ok=ab then T a else D
theorem Iq(f:aX)(h:List aM)(vs:List aO)(a9:Z h<=Z vs)(ci:Z f.ax+Z h<1099511627776)(be:Z f.bl=Z f.ax):
 ∃t,PR C 195 [.agg (cE aa f),eS V cT h,eS F cV vs] t/\Ip (hU f h vs) t:=by
 have key:∃ac N,C 195 [.agg (cE aa f),eS V cT h,eS F cV vs] [] ac N/\∃t,aI N .res ac t/\Ip (hU f h vs) t:=by
  refine ZF.hq ?_;simp only[AJ,Q,a6,aH,Mo,Mp,GL,GM,aJ];refine bj (nu (a2:=cS) (o:=f.ax) rfl (r8 g5 _ _ _) (by omega)) ?_;simp only[j3,true_and];refine bj (nu (a2:=cV) (o:=f.bl) rfl (r8 lZ _ _ _) (by omega)) ?_;simp only[de,c3,gz,fm]
  have a0:∀(l V n o O F R S:Nat)(B:List k)(E:List Int),ko [.ai,.ai,.ai,.ai] [(0,1,.q l V n o),(1,1,.q O F R S),(2,1,eS aa cS B),(3,1,eS aa cI E)]=T [.q l V n o,.q O F R S,eS aa cS B,eS aa cI E]:=λ_ _ _ _ _ _ _ _ _ _=>rfl;have L:∀(l V n o:AV),l.bP=ab->V.bP=ab->n.bP=ab->o.bP=ab->dh 4 (.agg [l,V,n,o])=T [l,V,n,o]:=λl V n o r s w K=>gS rfl (by simp[r,s,w,K])
  simp only[a0,Q,L _ _ _ _ (yK _ _ _ _) (yK _ _ _ _) (yJ _ _ _) (yJ _ _ _),G,i];let v:Nat×Nat×aX×List AV->List Obj:=λe=>[.arr e.2.1 1 (e.2.2.1.ax.map cS),.arr e.2.1 3 (e.2.2.1.bl.map cV)]
  refine bB (z:=Nat×Nat×aX×List AV) (λe=>[ff,I e.1]++e.2.2.2++[.q 0 e.2.1 0 (Z e.2.2.1.ax),.q 1 e.2.1 0 (Z e.2.2.1.bl),eS aa cS f.m,eS aa cI f.au]) v (λe=>Z h -e.1) (λe=>e.1<=Z h/\e.2.2.1.m=f.m/\e.2.2.1.au=f.au/\Z e.2.2.1.bl=Z e.2.2.1.ax/\Z e.2.2.1.ax<=Z f.ax+e.1/\hU f h vs=hU e.2.2.1 (h.drop e.1) (vs.drop e.1)/\Z e.2.2.2=4) (0,0,f,[.ai,.ai,.ai,.ai]) ⟨by simp,rfl,rfl,be,by simp,by simp,rfl⟩ ?_
  rintro⟨j,d,c,ad⟩ ⟨a3,r,s,w,K,u,U⟩ bw Y;simp only at a3 r s w K u U Y⊢;obtain⟨w1,x,y,z,rfl⟩:∃l V n o,ad=[l,V,n,o]:=by
   match ad,U with
   |[l,V,n,o],_=>grind
  simp only[fm,c3,i,G,a8,Q,A,a];have X:(⟨c.ax,c.bl,f.m,f.au⟩:aX)=c:=by rw[<-r,<-s]
  have g3:bR (v (j,d,c,[w1,x,y,z])) .cm [.q 0 d 0 (Z c.ax),.q 1 d 0 (Z c.bl),eS aa cS f.m,eS aa cI f.au] (uR ab aa c):=by
   rw[uR,r,s];exact .ck (l7 (N:=v (j,d,c,[w1,x,y,z])) rfl (by simp)) (.ck (l7 (N:=v (j,d,c,[w1,x,y,z])) rfl (by simp)) (.ck cy (.ck cy (.nil _))))
  have bf:∀ok:Bool,(hU f h vs=if ok=ab then T c else D)->∃t,aI (v (j,d,c,[w1,x,y,z])) .res (.aE [(AV.agg [.q 0 d 0 (Z c.ax),.q 1 d 0 (Z c.bl),eS aa cS f.m,eS aa cI f.au]).pl,.bool ok]) t/\Ip (hU f h vs) t:=by
   intro ok bb;refine⟨.aE [.agg (cE aa c),.bool ok],.aE _ _ _ (.ck (.agg _ _ _ ?_) (.ck (.bool _ _) (.nil _))),c,ok,rfl,bb⟩;rw[cE,r,s];exact .ck (fx (N:=v (j,d,c,[w1,x,y,z])) rfl (by simp)) (.ck (fx (N:=v (j,d,c,[w1,x,y,z])) rfl (by simp)) (.ck cy (.ck cy (.nil _))))
  refine b (λp=>?_) (λp=>?_)
  ·have p:j<Z h:=by simpa using p
   have a4:j<Z vs:=by omega
   have M:=λak bv br X=>Y (j+1,ak,bv,br) X (by simp;omega);simp only at M;rw[aez a9 p]at u;simp only[bo,aC p (h8 _),aC a4 (lZ _),Q,ji,oa];refine ea _ (aey c h[j] (by grind[Sm]) w) (.ck (.agg _ _ _ g3) (.ck cy (.nil _))) (.aE _ (.cons _ _ (.agg _ (.cons _ _ (.int _ _) (.cons _ _ (.int _ _) (.cons _ _ (.str _) .nil)))) (.cons _ _ (.bool _) .nil))) ?_;simp only[ef,cv,dk,Q,l2]
   have aQ:(AV.agg [g (cV (bW c h[j]).1) 0,g (cV (bW c h[j]).1) 1,g (cV (bW c h[j]).1) 2])=.agg (cV (bW c h[j]).1):=rfl;rw[aQ];simp only[GO,Q,i,G];cases W:(bW c h[j]).2 with
   |true=>
    rw[W]at u;simp only[fE,if_true]at u⊢;refine c8 (λce=>?_) (λb4=>?_)
    ·simp only[L _ _ _ _ (yK _ _ _ _) (yK _ _ _ _) (yJ _ _ _) (yJ _ _ _),Q,G,i]
     refine bf aa ?_;grind
    ·simp only[bD,Q,bZ,kI,cZ,if_false]
     rw[ba,Q];refine M d c [_,_,_,_] ⟨p,r,s,w,by omega,?_,rfl⟩;grind
   |false=>
    rw[W]at u;simp only[fE,cZ,if_false]at u⊢;simp only[bD,Q,bZ,mR,cZ,if_false,if_true];have aq:(Z c.ax+1)*16<=2^47:=by omega
    have ar:(Z c.bl+1)*32<=2^47:=by omega
    have P:=mE (N:=[.arr d 1 (c.ax.map cS),.arr d 3 (c.bl.map cV)]) (id:=0) (U:=1) (bytes:=16) (O:=d) (a2:=cS) (o:=c.ax) h[j].aB (by simp) rfl aq;have ah:aY [.arr d 1 (c.ax.map cS),.arr d 3 (c.bl.map cV)] 0 1 cS d c.ax=[.arr d 1 (c.ax.map cS),.arr d 3 (c.bl.map cV)]:=rfl;rw[ah]at P;simp only[a6,Q,aH,nn,aJ,xt];refine bj P ?_;refine aD (dD:=.q 0 (d+1) 0 (Z (c.ax++[h[j].aB]))) rfl ?_
    simp only[Q,vT];have af:=mE (N:=aY [.arr d 1 (c.ax.map cS),.arr d 3 (c.bl.map cV)] 0 1 cS (d+1) (c.ax++[h[j].aB])) (id:=1) (U:=3) (bytes:=32) (O:=d) (a2:=cV) (o:=c.bl) vs[j] (by simp[aY]) rfl ar;refine bj af ?_;refine aD (dD:=.q 1 (d+1) 0 (Z (c.bl++[vs[j]]))) rfl ?_;rw[ba,Q];exact M (d+1) (fT c h[j] vs[j]) [_,_,_,_] ⟨p,r,s,by simp[fT,w],by simp[fT];omega,u,rfl⟩
  ·have:j=Z h:=by simp at p;omega
   subst this;simp only[L _ _ _ _ (yK _ _ _ _) (yK _ _ _ _) (yJ _ _ _) (yJ _ _ _),Q,G,i];simp_all[hU]
 grind[Dp]
@[simp] theorem tj(a:Bool)(b:aX):g (cE a b) 0=eS a cS b.ax:=rfl
@[simp] theorem tm(a:Bool)(b:aX):g (cE a b) 1=eS a cV b.bl:=rfl
@[simp] theorem tn(a:Bool)(b:aX):g (cE a b) 2=eS a cS b.m:=rfl
@[simp] theorem tp(a:Bool)(b:aX):g (cE a b) 3=eS a cI b.au:=rfl
theorem so(a:Bool)(b:aX):[eS a cS b.ax,eS a cV b.bl,eS a cS b.m,eS a cI b.au]=cE a b:=rfl
variable{pB:List AV -> List Obj -> Prop}
theorem pg{a:(List AV->List Obj->Prop)->Prop}(d:Bool)(c:List AV)(e:∀b:List AV->List Obj->Prop,b (.bool d::c) N->a b)(f:pB (.bool d::c) N):jn a pB:=e pB f
theorem xJ(b:pB (.bool V::bg) N)(a:V=F):pB (.bool F::bg) N:=a▸b
inductive rb(H:List Obj):List AV->aX->Prop
 |c4 (x:aX):rb H (cE aa x) x
 |mem (x:aX) (i j gi gj:Nat) (hi:H[i]?=T (.arr gi 1 (x.m.map cS))) (hj:H[j]?=T (.arr gj 1 (x.au.map cI))) (h2:2<=i/\2<=j):rb H [eS aa cS x.ax,eS aa cV x.bl,.q i gi 0 (Z x.m),.q j gj 0 (Z x.au)] x
inductive mc(H:List Obj):List (List AV)->List aX->Prop
 |nil:mc H [] []
 |cons (r:List AV) (x:aX) (rs:List (List AV)) (xs:List aX) (h:rb H r x) (t:mc H rs xs):mc H (r::rs) (x::xs)
theorem rb.len(a:rb N bg H):bg.length=4/\bg.all AV.bP=true:=by cases a<;>exact⟨rfl,rfl⟩
theorem rb.mono{H':List Obj}(i:rb N bg H)(c:∀b f,2<=b->N[b]?=T f->H'[b]?=T f):rb H' bg H:=by
 cases i with
 |c4=>exact .c4 _
 |mem H d e g h j k a=>exact .mem _ d e g h (c d _ a.1 j) (c e _ a.2 k) a
theorem mc.mono{H':List Obj}(d:∀c e,2<=c->N[c]?=T e->H'[c]?=T e):∀{a:List (List AV)}{b:List aX},mc N a b->mc H' a b
 |_,_,.nil=>.nil
 |_,_,.cons g i a b f h=>.cons g i a b (f.mono d) (h.mono d)
theorem mc.app(c:rb N bg H):∀{a:List (List AV)}{b:List aX},mc N a b->mc N (a++[bg]) (b++[H])
 |_,_,.nil=>.cons _ _ _ _ c .nil
 |_,_,.cons bg H a b d e=>.cons bg H _ _ d (e.app c)
theorem mc.length:∀{a:List (List AV)}{b:List aX},mc N a b->Z a=Z b
 |_,_,.nil=>rfl
 |_,_,.cons e f a b d c=>by simp[c.length]
theorem rb.snap(a:rb N bg H):bR N .res bg (cE aa H):=by
 cases a with
 |c4=>exact bO.snap (by simp)
 |mem H g h d e b c f=>exact .ck cy (.ck cy (.ck (fx b (by simp)) (.ck (fx c (by simp)) (.nil _))))
theorem mc.snap:∀{a:List (List AV)}{b:List aX},mc N a b->eX N .res a (b.map (cE aa))
 |_,_,.nil=>.nil _
 |_,_,.cons e f a b c d=>.ck c.snap d.snap
theorem mc.res{a:List aX}{id:Nat}(b:mc N bS a)(c:N[id]?=T (.arr U 4 bS)):aI N .res (.q id U 0 (Z bS)) (eS aa (cE aa) a):=by
 refine .na id U 0 (Z bS) 4 bS _ c (by simp) ?_;rw[jR,fW (by simp)];exact b.snap
theorem Ir(b:bg.length=4)(a:bg.all AV.bP=ab):fw 4 [.ai,.ai,.ai,.ai] 1 [(0,.agg bg)]=T (.sl aa [bg]):=by
 simp_all[fw,kj]
theorem PU(a:N[1]?=T (.arr U 4 bS))(g:bg.length=4)(f:Z bS<1099511627776)
 (h:fN (.q 1 (U+1) 0 (Z (bS++[bg]))) (N.set 1 (.arr (U+1) 4 (bS++[bg])))):cc (cx 4 96 (.q 1 U 0 (Z bS)) (.sl aa [bg]) N) fN:=by
 have e:1<Z N:=(e6.1 a).1;have d:aY N 1 4 id U bS=N:=by
  simp only[aY,List.map_id];obtain⟨b,c⟩:=e6.1 a;rw[<-c];exact zY b
 grind[mE,id,bytes,bj,aY]
def qz(e:aj)(d:aX)(c:Lit)(a:List aX)(b:aw):List aX:=if j9 e c b=ab then(match nJ d c b with|some f=>a++[f]|none=>a)else a
theorem Is:∀(b:List aw)(a:List aX),b.foldl (qz M H P) a=a++(b.filter (j9 M P)).filterMap (nJ H P)
 |[],a=>by simp
 |f::b,a=>by
  rw[oJ,Is b,qz];grind
theorem aeA(b:List aw)(a:List aX):Z (b.foldl (qz M H P) a)<=Z a+Z b:=by
 grind[Is,List.length_append,List.length_filterMap_le,nJ,j9,List.length_filter_le]
theorem aeB(l:aj)(e:List aw)(j:aX)(d:Lit)(d3:dW l)(eq:Z e<4294967296)(S:Bx j)(es:Z d.ad<=1000)(el:Z j.ax<=1000000)(ah:Z j.m<=1000000)
 (d0:d.ak=3->v7 l d.aq)(ce:∀B∈e,B.aq=d.aq->Z B.ad=Z d.ad)(r:(d.ak==1||d.ak==3)=ab):
 PR C 124 [.agg (cP V F l),eS bp (cF b2) e,.agg (cE aa j),.agg (a5 ed d)] (eS aa (cE aa) (e5 l e j d)):=by
 refine M0.pr ?_;simp only[dS,AI,nm,Q,dZ,eA,a6,aH,oY,uf,oc,yP,Dl,oe,iy,aJ,c9,tj,tm,tn,tp,c3,de,fm,gz,so];refine pg (N:=[.arr 0 4 [],.arr 0 4 []]) ab (cE aa j) (λd4 K=>dx (λp=>?_) (λ_=>K)) ?_
 ·grind
 simp only[G,i,bZ,if_true,tj,tm,tn,tp,so];have d2:e5 l e j d=e.foldl (qz l j d) []:=by rw[Is,e5,if_pos r];rfl
 rw[d2];refine bB (z:=Nat×Nat×List (List AV)×List Obj) (λo=>.q 1 o.2.1 0 (Z o.2.2.1)::I o.1::cE aa j) (λo=>o.2.2.2) (λo=>Z e -o.1) (λo=>o.1<=Z e/\o.2.2.2[1]?=T (.arr o.2.1 4 o.2.2.1)/\mc o.2.2.2 o.2.2.1 ((e.take o.1).foldl (qz l j d) [])) (0,0,[],[.arr 0 4 [],.arr 0 4 []]) ⟨by simp,rfl,.nil⟩ ?_;rintro⟨h,J,Y,g⟩ ⟨ci,x,y⟩ a4 a0;simp only at ci x y a0⊢;simp only[i,G,a8,A,Q,a,tj,tm,tn,tp,so]
 refine b (λp=>?_) (λp=>?_)
 ·have p:h<Z e:=by simpa using p
  have dl:=aeA (M:=l) (H:=j) (P:=d) (e.take h) [];rw[gb,de]at dl;have e2:=y.length;have M:=λbf d7 v N br=>a0 (h+1,bf,d7,v) ⟨p,N,br⟩ (by simp;omega);simp only[jB p]at M;generalize(e.take h).foldl (qz l j d) []=z at*;have N:1<Z g:=(e6.1 x).1;simp only[aC p (hE _ _),Q,a6,aH,p5,ug,uh,aJ,cd];rw[bo]
  have a3:∀(v:List Obj),v[1]?=g[1]?->(∀k n,2<=k->g[k]?=T n->v[k]?=T n)->qz l j d z e[h]=z->bd (aS .s .add (I h) (I 1)) λd8=>a4 (.q 1 J 0 (Z Y)::d8::cE aa j) v:=by
   intro v a9 bb be;rw[ba,Q];refine M J Y v (a9.trans x) ?_;rw[be];exact y.mono bb
  refine pg (N:=g) (!j9 l d e[h]) (cE aa j) (λd4 K=>?_) ?_
  ·refine dx (λt=>?_) (λt=>xJ K (by simp at t;simp[j9,t]))
   have t:e[h].aq=d.aq:=by simpa using t
   refine aZ (λE=>?_) (λE=>xJ K (by simp at E;simp[j9,t,E]));have E:d.ak=3:=by simpa using E
   obtain⟨ac,ae,aB,n,ar,U⟩:=d0 E;have ex:sg l d.aq d.gN e[h].af=ox l.m[n] d.gN e[h].af:=by
    simp only[sg,aB,ej,bC ae,ar,bC U]
   simp only[aB,aC ae (hD _ _),Q,a6,aH,yO,aJ,ar,aC U (jh _ _),hF];refine f (OO _ _ _ (d3.aV _ (bs U))) ?_;simp only[bD,Q];grind[j9]
  ·simp only[G,i,tj,tm,tn,tp,so]
   refine c8 (λH=>a3 g rfl (λ_ _ _ p=>p) (by simp[qz,H])) (λH=>?_);have t:e[h].aq=d.aq:=by
    simp only[j9,bG,beq_iff_eq]at H;exact H.1
   have em:=ce _ (bs p) t;obtain⟨fI,d1,c,ok,rfl,L⟩:=Iq (V:=ed) (F:=b2) j d.ad e[h].ad (by omega) (by omega) S.bl;refine f d1 ?_;simp only[ef,cv,dk,Q,AI,tj,tm,tn,tp,bo];cases ok with
   |false=>
    simp only[fE,cZ,if_false,bZ,G,i,so];refine a3 g rfl (λ_ _ _ p=>p) ?_;grind[qz,nJ]
   |true=>
    simp only[if_true]at L;obtain⟨-,fd,cs,b4,-⟩:=uN _ _ S.bl L;simp only[fE,if_true,ib,Q,G,i];refine c8 (λw=>?_) (λw=>?_)
    ·have w:d.bind≠[]:=by simpa using w
     have R:jq c d e[h].af=⟨c.ax,c.bl,c.m++[d.bind],c.au++[e[h].af]⟩:=by unfold jq;rw[if_neg w]
     have X:qz l j d z e[h]=z++[⟨c.ax,c.bl,c.m++[d.bind],c.au++[e[h].af]⟩]:=by
      simp[qz,H,nJ,L,R]
     have fs:Z c.m<=1000000:=by rw[cs];exact ah
     have fn:Z c.au<=1000000:=by rw[b4,S.au];exact ah
     simp only[xt,Q];refine bj (nu (a2:=cS) (o:=c.m) rfl (r8 g5 _ _ _) (by omega)) ?_;simp only[j3,true_and];rw[DV g 1 cS c.m (.arr 0 1 [])];refine xq (a2:=cS) (by simp) rfl (by omega) ?_;refine aD (dD:=.q (Z g) 1 0 (Z (c.m++[d.bind]))) rfl ?_;simp only[Q,aJ,Bi];refine bj (nu (a2:=cI) (o:=c.au) rfl (r8 g4 _ _ _) (by omega)) ?_;rw[DV _ 1 cI c.au (.arr 0 1 [])]
     refine xq (a2:=cI) (by simp) rfl (by omega) ?_;refine aD (dD:=.q (Z (aY (g++[Obj.arr 0 1 []]) (Z g) 1 cS (0+1) (c.m++[d.bind]))) 1 0 (Z (c.au++[e[h].af]))) rfl ?_;have P:Z (aY (g++[Obj.arr 0 1 []]) (Z g) 1 cS (0+1) (c.m++[d.bind]))=Z g+1:=by simp[aY]
     generalize O:aY (aY (g++[Obj.arr 0 1 []]) (Z g) 1 cS (0+1) (c.m++[d.bind])++[Obj.arr 0 1 []]) (Z (aY (g++[Obj.arr 0 1 []]) (Z g) 1 cS (0+1) (c.m++[d.bind]))) 1 cI (0+1) (c.au++[e[h].af])=u;have W:∀(k:Nat)(n:Obj),g[k]?=T n->u[k]?=T n:=by
      intro k n r;have ds:k<Z g:=(e6.1 r).1;rw[<-O];simp only[aY,Kc,fb,gz];rw[nV (by omega),lU (by simp;omega),nV (by omega),lU ds];exact r
     have bv:u[Z g]?=T (.arr 1 1 ((c.m++[d.bind]).map cS)):=by
      rw[<-O,P];simp only[aY];rw[nV (by omega),lU (by simp),wL (by simp)]
     have bw:u[Z g+1]?=T (.arr 1 1 ((c.au++[e[h].af]).map cI)):=by
      rw[<-O,P];simp only[aY];rw[wL (by simp)]
     rw[P];have aQ:rb u [eS aa cS c.ax,eS aa cV c.bl,.q (Z g) 1 0 (Z (c.m++[d.bind])),.q (Z g+1) 1 0 (Z (c.au++[e[h].af]))] ⟨c.ax,c.bl,c.m++[d.bind],c.au++[e[h].af]⟩:=
      .mem ⟨c.ax,c.bl,c.m++[d.bind],c.au++[e[h].af]⟩ _ _ _ _ bv bw (by omega)
     refine a7 ?_;rw[Ir rfl aQ.len.2,Q];refine PU (W _ _ x) rfl (by omega) ?_;rw[ba,Q];have bi:1<Z u:=by
      have:=(e6.1 (W _ _ x)).1;exact this
     refine M (J+1) _ _ (wL bi) ?_;rw[X];have d5:∀(k:Nat)(n:Obj),2<=k->u[k]?=T n->(u.set 1 (.arr (J+1) 4 (Y++[[eS aa cS c.ax,eS aa cV c.bl,.q (Z g) 1 0 (Z (c.m++[d.bind])),.q (Z g+1) 1 0 (Z (c.au++[e[h].af]))]])))[k]?=T n:=by
      intro k n co r;rw[nV (by omega)];exact r
     exact((y.mono λk n _ r=>W k n r).app aQ).mono d5
    ·have w:d.bind=[]:=by simpa using w
     have R:jq c d e[h].af=c:=by unfold jq;rw[if_pos w]
     have X:qz l j d z e[h]=z++[c]:=by simp[qz,H,nJ,L,R]
     simp only[so];refine a7 ?_;rw[Ir rfl rfl,Q];refine PU x rfl (by omega) ?_;rw[ba,Q];refine M (J+1) _ _ (wL N) ?_;rw[X];exact(y.app (.c4 c)).mono λk n co r=>by grind
 ·have:h=Z e:=by simp at p;omega
  subst this;rw[dB]at y;exact y.res x
theorem PV(e:∀a,Z (a2 a)=U)(f:O<=Z o):dV (.sl U) (eS V a2 o) (T (I O)) D N=T (eS V a2 (o.drop O)):=by
 have c:cQ (Z o) 0 (T (I (O:Int)))=T O:=by
  simp only[cQ];rw[if_pos (by omega)];simp
 have d:∀a b,cQ a b D=T b:=λ_ _=>rfl;simp only[dV,eS,kd,c,d,NT e o,if_true,Ku];rw[fW (by simp)]
structure uS(e:aX):Prop where
 ax:Z e.ax<=1000000
 bl:Z e.bl=Z e.ax
 m:Z e.m<=1000000
 au:Z e.au=Z e.m
 sm:∀v∈e.bl,Sm v.s
theorem uS.ok(a:uS H):Bx H:=⟨by have:=a.ax;grind[Sm],a.bl,by have:=a.m;grind[Sm],a.au⟩
theorem It(a:uS H)(c:Sm b3.const.s):Sm (bW H b3).1.s:=by
 unfold bW;split
 ·exact c
 ·split
  ·rename_i e b
   have d:=(nW.1 b).1;have:=a.bl;simp only[oM];rw[bC (by omega)];exact a.sm _ (bs _)
  ·simp[zV,Sm]
theorem PW(a:(bW H b3).2=aa):hU H [b3] [iZ]=T (fT H b3 iZ):=by simp[hU,a]
theorem aeC(r:aj)(p:List aw)(c:aX)(a:Lit)(ar:dW r)(J:Sm p)(W:∀P∈p,eO P.ad)(U:fY p)(j:uS c)(d0:Z c.ax<1000000)(ae:p9 a)
 (af:a.ak=4->v7 r a.aq)(A:a.ak=5->Z a.ad=2)(d2:∀d∈a.ad,Sm d.const.s)(E:(a.ak==1||a.ak==3)=aa)(d1:1<=a.ak/\a.ak<=5):
 PR C 124 [.agg (cP V F r),eS bp (cF b2) p,.agg (cE aa c),.agg (a5 ed a)] (eS aa (cE aa) (e5 r p c a)):=by
 refine M0.pr ?_;have v:a.ak≠1/\a.ak≠3:=by simpa using E
 have X:(a.ak==1)=false:=by simpa using v.1
 have Y:(a.ak==3)=false:=by simpa using v.2
 simp only[dS,AI,nm,Q,dZ,eA,a6,aH,oY,oc,xg,aJ,c9,tj,tm,tn,tp,c3,de,fm,gz,so,X,Y];refine pg (N:=[.arr 0 4 [],.arr 0 4 []]) aa (cE aa c) (by simp) ?_;simp only[G,i,bZ,cZ,if_false,tj,tm,tn,tp,so];have ah:e5 r p c a=if pe r p (g7 c a) a=ab then[g7 c a]else[]:=by rw[e5,if_neg (by rw[E];decide)]
 rw[ah];have t:∀(k:aX),k=g7 c a->uS k->jn (λxu=>
 bd (aR 4 ab (.aK aa (cP V F r) 0) [.arr 0 4 [],.arr 0 4 []]) λbw=>
 bd (aR 9 ab (.aK aa (a5 ed a) 0) [.arr 0 4 [],.arr 0 4 []]) λb4=>
 cp C 79 [bw,eS bp (cF b2) p,(.agg (cE aa k)),b4] [.arr 0 4 [],.arr 0 4 []] λce=>
 dY ce (
 bd (fw 4 [.ai,.ai,.ai,.ai] 1 [(0,(.agg (cE aa k)))]) λci=>
 cc (cx 4 96 (.q 1 0 0 0) ci [.arr 0 4 [],.arr 0 4 []]) λco S=>
 xu [co,eS aa cS k.ax,eS aa cV k.bl,eS aa cS k.m,eS aa cI k.au] S) (
 xu [.q 1 0 0 0,eS aa cS k.ax,eS aa cV k.bl,eS aa cS k.m,eS aa cI k.au] [.arr 0 4 [],.arr 0 4 []])) λO R=>
 aI R .res (AV.pl (g O 0)) (eS aa (cE aa) (if pe r p (g7 c a) a=ab then[g7 c a]else[])):=by
  rintro k rfl a0;have d3:Z (eG (g7 c a) a.ad)=Z a.ad:=by simp[eG]
  simp only[fQ,l1,Q,bo,G];refine f (adX r p (g7 c a) a ar J W U a0.ok ae (λh=>af (h.resolve_left v.2)) (λ_ z _ ds=>⟨by rw[A (by have:=v;omega)];omega,λl L=>?_⟩)) ?_
  ·simp only[eG,du]at L
   grind[It]
  ·refine b (λh=>?_) (λh=>?_)
   ·rw[if_pos h,Ir rfl rfl,Q]
    refine bj (dD:=.q 1 1 0 1) (b:=[.arr 0 4 [],.arr 1 4 [cE aa (g7 c a)]]) rfl ?_;exact(mc.cons _ _ _ _ (.c4 (g7 c a)) .nil).res rfl
   ·rw[if_neg (by grind)]
    exact mc.nil.res rfl
 by_cases u:(a.ak==5&&a.op==1)=ab
 ·have w:a.ak=5/\a.op=1:=by simpa using u
  obtain⟨d,e,K⟩:∃d e,a.ad=[d,e]:=by
   have:=A w.1
   match J:a.ad,this with
   |[d,e],_=>grind
  have aB:Sm d.const.s:=by grind
  have aQ:Sm e.const.s:=by grind
  have heq:g7 c a=if((bW c d).2&& !(bW c e).2)=ab then fT c e (bW c d).1 else if((bW c e).2&& !(bW c d).2)=ab then fT c d (bW c e).1 else c:=by
   unfold g7;rw[K];simp only[u,if_true]
  have put:∀(d:aM)(l:aO),Sm l.s->uS (fT c d l):=by
   intro d l L;refine⟨by grind[fT],by simp[fT,j.bl],j.m,j.au,λbv n=>?_⟩;rcases c5.1 n with h|h
   ·exact j.sm bv h
   ·grind
  have a3:∀o:List Obj,bY 4 (eS ed cT [d,e]) (I 0) o=T (.aK ed (cT d) 0):=λo=>aC (o:=[d,e]) (U:=0) (by simp) rfl;have a4:∀o:List Obj,bY 4 (eS ed cT [d,e]) (I 1) o=T (.aK ed (cT e) 0):=λo=>aC (o:=[d,e]) (U:=1) (by simp) rfl;have br:∀o:List Obj,dV (.sl 4) (eS ed cT [d,e]) (T (I 1)) D o=T (eS ed cT [e]):=by grind[PV,h8]
  have bi:∀o:List Obj,dV (.sl 4) (eS ed cT [d,e]) D (T (I 1)) o=T (eS ed cT [d]):=by grind[Eg,h8]
  have a9:=HZ (V:=false) c d j.ok.ax j.bl;have bb:=HZ (V:=false) c e j.ok.ax j.bl;have M:∀l:aO,(AV.sl aa [cV l])=eS aa cV [l]:=λ_=>rfl;simp only[w.1,w.2,beq_self_eq_true,fE,if_true,bo,G,i,bZ,tj,tm,tn,tp,so,K,a3,Q,ji];refine f a9 ?_;simp only[ef,cv,dk,Q,l2,a4,ji];refine f bb ?_;simp only[cv,dk,Q,l2,bD];have B:∀l:aO,(AV.agg [g (cV l) 0,g (cV l) 1,g (cV l) 2])=.agg (cV l):=λ_=>rfl;simp only[bo]at t
  cases ac:(bW c d).2 with
  |true=>
   cases H:(bW c e).2 with
   |true=>
    simp only[fE,if_true,kI,bZ,cZ,if_false];simp_all
   |false=>
    simp only[fE,if_true,mR,kI,bZ,cZ,if_false,br,Q,B,vT,M];obtain⟨bf,x,cs,ok,rfl,n⟩:=Iq (V:=ed) (F:=false) c [e] [(bW c d).1] (by simp) (by simp;omega) j.bl;rw[PW H]at n;refine f x ?_;cases ok with
    |false=>simp at n
    |true=>
     simp only[if_true,eK]at n;subst n;simp only[cv,dk,Q,AI,tj,tm,tn,tp,so];exact t _ (by grind) (put e _ (It j aB))
  |false=>
   cases H:(bW c e).2 with
   |true=>
    simp only[fE,if_true,mR,kI,bZ,cZ,if_false,bi,Q,B,vT,M];obtain⟨bf,x,cs,ok,rfl,n⟩:=Iq (V:=ed) (F:=false) c [d] [(bW c e).1] (by simp) (by simp;omega) j.bl;rw[PW ac]at n;refine f x ?_;cases ok with
    |false=>simp at n
    |true=>
     simp only[if_true,eK]at n;subst n;simp only[cv,dk,Q,AI,tj,tm,tn,tp,so];exact t _ (by grind) (put d _ (It j aQ))
   |false=>
    simp only[fE,if_true,mR,bZ,cZ,if_false];simp_all
 ·have heq:g7 c a=c:=by
   unfold g7;split
   ·rw[if_neg u]
   ·rfl
  have skip:∀(y:List AV->List Obj->Prop),y (cE aa c) [.arr 0 4 [],.arr 0 4 []]->y (cE aa c) [.arr 0 4 [],.arr 0 4 []]:=λ_ h=>h;rw[bo,bo];refine aZ (λh=>?_) (λh=>?_)
  ·have z:(a.op==1)=false:=by
    rw[h,cu]at u;simpa using u
   simp only[G,i,bZ,cZ,if_false,z];exact t c heq.symm j
  ·simp only[G,i,bZ,cZ,if_false]
   exact t c heq.symm j
theorem PX(d:aj)(b:List aw)(c:aX)(a:Lit)(j:dW d)(q:Z b<4294967296)(o:∀e∈b,eO e.ad)(k:fY b)(f:uS c)(n:Z c.ax<1000000)(r:Z a.ad<=1000)
 (i:a.ak=3\/a.ak=4->v7 d a.aq)(l:a.ak=5->Z a.ad=2)(u:∀v∈a.ad,Sm v.const.s)(t:1<=a.ak/\a.ak<=5)(p:∀e∈b,e.aq=a.aq->Z e.ad=Z a.ad):
 PR C 124 [.agg (cP V F d),eS bp (cF b2) b,.agg (cE aa c),.agg (a5 ed a)] (eS aa (cE aa) (e5 d b c a)):=by
 cases h:(a.ak==1||a.ak==3)with
 |true=>exact aeB d b c a j q f.ok r f.ax f.m (λg=>i (.inl g)) p h
 |false=>exact aeC d b c a j (by grind[Sm]) o k f n (by unfold p9 Sm;omega) (λg=>i (.inr g)) l u h t
structure PY(p:aj)(fs:List aw)(r:aG):Prop where
 uT:dW p
 tq:j6 r
 lits:∀l∈r.ae,Z l.ad<=1000/\(l.ak=3\/l.ak=4->v7 p l.aq)/\(l.ak=5->Z l.ad=2)/\(∀t∈l.ad,Sm t.const.s)/\(1<=l.ak/\l.ak<=5)/\∀f∈fs,f.aq=l.aq->Z f.ad=Z l.ad
 PZ:∀o:List Nat,Z (o.foldl (kC p fs r.ae) [e0])<=1000000
 env:∀o:List Nat,Z o<=Z r.ae->∀e∈o.foldl (kC p fs r.ae) [e0],uS e/\Z e.ax<1000000
 len:Z fs<4294967296
 sm:∀f∈fs,eO f.ad
 fz:fY fs
def ED:List AV:=[.ai,.ai,.ai,.ai]
def uU(a:Nat)(b:aX):List AV:=if a=0 then ED else cE aa b
theorem aeD(a:Nat)(b:aX):Z (uU a b)=4:=by unfold uU;split<;>rfl
theorem P0(a:U=0->H=e0):bR N cA (uU U H) (cE aa H):=by
 unfold uU;split
 ·rename_i b
  rw[a b];exact .ck (.ai _ _) (.ck (.ai _ _) (.ck (.ai _ _) (.ck (.ai _ _) (.nil _))))
 simp[bO.snap]
theorem P1:∀{a:List aX},(∀x∈a,U=0->x=e0)->eX N cA (a.map (uU U)) (a.map (cE aa))
 |[],_=>.nil _
 |x::a,b=>.ck (P0 (b x (by simp))) (P1 (by grind))
theorem P2(a:U<Z o):(o.take (U+1)).flatMap pI=(o.take U).flatMap pI++pI o[U]:=by
 grind[List.take_succ_eq_append_getElem]
theorem aeE(a:List z)(b:Nat):Z ((a.take b).flatMap pI)<=Z (a.flatMap pI):=by
 grind[List.take_append_drop,List.length_append]
theorem aeF(h:aj)(g:List aw)(d:aG)(m:PY h g d):PR C 61 [.agg (cP V F h),eS bp (cF b2) g,.agg (aP ed d)] (eS aa (cE aa) (fA h g d)):=by
 refine W9.pr ?_;simp only[dS,l3,Q,dZ,eA,kR,c3,de];refine⟨.c4,[.agg (aP ed d),eS aa cS []],l9 (ord d.ae []),by decide,?_,Oo d [] m.tq (by simp),(λk=>by cases k),?_⟩
 ·exact .ck cy (.ck (.ai _ _) (.nil _))
 cases u:ord d.ae []with
 |none=>
  simp only[l9,ef,cv,dk,Q,cd];refine a7 ?_;rw[fA,u];exact fx (o:=([]:List aX)) (a2:=cE aa) (U:=4) (O:=0) (N:=[.arr 0 4 [],.arr 0 4 []]) (id:=1) rfl (by simp)
 |some f=>
  obtain⟨bv,br⟩:=BB u;have af:∀e∈f,e<Z d.ae:=by simp_all[PE]
  have W:fA h g d=f.foldl (kC h g d.ae) [e0]:=by rw[fA,u]
  have bi:=m.tq.1;simp only[l9,ef,cv,dk,Q,cd];refine bq (aD (dD:=ED) rfl (bj (dD:=.q 1 0 0 1) (b:=[.arr 0 4 [],.arr 0 4 [ED]]) rfl ?_))
  refine bB (z:=Nat×Nat×Nat×List Obj) (λc=>[.q c.2.1 c.2.2.1 0 (Z ((f.take c.1).foldl (kC h g d.ae) [e0])),I c.1]) (λc=>c.2.2.2) (λc=>Z f -c.1) (λc=>c.1<=Z f/\c.2.2.2[c.2.1]?=T (.arr c.2.2.1 4 (((f.take c.1).foldl (kC h g d.ae) [e0]).map (uU c.1)))) (0,1,0,[.arr 0 4 [],.arr 0 4 [ED]]) ⟨by simp,rfl⟩ ?_;rintro⟨e,id,s,n⟩ ⟨X,r⟩ a9 J;simp only at X r J⊢;simp only[i,G,a8,A,Q,a]
  have w:∀M∈(f.take e).foldl (kC h g d.ae) [e0],e=0->M=e0:=by
   intro M aq R;subst R;simpa using aq
  refine b (λo=>?_) (λo=>?_)
  ·have o:e<Z f:=by simpa using o
   have v:=af _ (bs o);have ad:d.ae[f[e]]∈d.ae:=bs v;obtain⟨au,ax,aB,aQ,a0,a3⟩:=m.lits _ ad;have U:=m.env (f.take e) (by grind);have H:=m.PZ (f.take (e+1));rw[jB o]at H;have x:=λar t O S=>J (e+1,ar,t,O) ⟨o,S⟩ (by simp;omega);simp only[jB o]at x;generalize bf:(f.take e).foldl (kC h g d.ae) [e0]=j at*;have ah:kC h g d.ae j f[e]=j.flatMap λk=>e5 h g k d.ae[f[e]]:=by rw[kC,bC v]
   rw[ah]at x H;have Y:id<Z n:=(e6.1 r).1;rw[acD n 4 (cE aa)];refine bB (z:=Nat×Nat) (λc=>[.q (Z n) c.2 0 (Z ((j.take c.1).flatMap λk=>e5 h g k d.ae[f[e]])),I c.1]) (λc=>aY (n++[.arr 0 4 []]) (Z n) 4 (cE aa) c.2 ((j.take c.1).flatMap λk=>e5 h g k d.ae[f[e]])) (λc=>Z j -c.1) (λc=>c.1<=Z j) (0,0) (by simp) ?_;rintro⟨p,z⟩ ac bb K;simp only at ac K⊢;simp only[i,G,nj,A,Q,a]
   refine b (λl=>?_) (λl=>?_)
   ·have l:p<Z j:=by simpa using l
    have L:=λt=>K (p+1,t) l (by simp;omega);simp only[P2 l]at L;have ak:=aeE (pI:=λk=>e5 h g k d.ae[f[e]]) j (p+1);rw[P2 l,fb]at ak;generalize(j.take p).flatMap (λk=>e5 h g k d.ae[f[e]])=N at*;have E:(aY (n++[Obj.arr 0 4 []]) (Z n) 4 (cE aa) z N)[id]?=T (.arr s 4 (j.map (uU e))):=by
     simp only[aY];rw[nV (by omega),lU Y];exact r
    have B:=U _ (bs l);simp only[fQ,Q,e3 E l];refine aD (kV E (bg:=uU e j[p]) (by simp[l]) (aeD _ _)) ?_;simp only[a6,Q,aH,od,aJ,aC o (Og _),Oh,aC v (h9 _ _),l1];refine⟨.c4,[.agg (cP V F h),eS bp (cF b2) g,.agg (cE aa j[p]),.agg (a5 ed d.ae[f[e]])],_,by decide,?_,PX h g j[p] d.ae[f[e]] m.uT m.len m.sm m.fz B.1 B.2 au ax aB aQ a0 a3,(λk=>by cases k),?_⟩
    ·exact .ck cy (.ck cy (.ck (.agg _ _ _ (P0 (w _ (bs l)))) (.ck cy (.nil _))))
    ·refine NW (a2:=cE aa) (by simp) (Ma aa) (by omega) ?_
     rw[ba (by have:=m.PZ (f.take e);grind),Q];exact L _
   ·have:p=Z j:=by simp at l;omega
    subst this;rw[ba,Q,dB];refine x (Z n) z _ ?_;simp[oo,uU,cE]
  ·have:e=Z f:=by simp at o;omega
   subst this;rw[dB]at r w⊢;rw[<-W]at r w⊢;refine .na id s 0 _ 4 _ _ r (by simp) ?_;grind[List.take_of_length_le,P1]
end AM
end Go
