/- The law SnapshotOrderUptoCardSaid: part 8 of 9 of the proof. No condition. -/
import Derived.Test.YtmkbfepnleajhaaGreatDoorXg
set_option maxRecDepth 100000
open List renaming length->Z,mem_or_eq_of_mem_set->ak6,set_eq_take_append_cons_drop->alc
open Option renaming some->T,none->D
open Bool renaming true->ab,false->aa,not_eq_true->Kr
open Decidable renaming decide->S
open Array renaming toList->bU
open Go.Proofs.Tryz renaming prog->a1
open Go.Proofs.YtmkbfepnleajhaaGreatDoor.Rows renaming snapshotModelMatchesReferenceUptoRow->g2
open Nat renaming le_antisymm->akE,mul_one->Fx,not_lt_zero->J8
open Ne renaming symm->Kb
namespace Go
namespace AM
def amx(c:aj)(b d e:Int):Prop:=∀a,e8 c b=T a->dK a d.toNat e.toNat=ab
variable{apO:aj}{art arS:Int}
theorem amx.refl:amx apO art arS arS:=λa _=>ad9 a _
def AtF(b:aj)(gs:List aw)(a:aw):Prop:=∃g∈gs,g.aq=a.aq/\g.ad=a.ad/\amx b a.aq a.af g.af
def amH(c:aj)(a:aw):Prop:=∃b,e8 c a.aq=T b/\a.af=fy b []
def ali(b:aj)(gs:List aw)(a:aw):Prop:=amH b a\/AtF b gs a
def LeI(c:aj)(b gs:List aw):Prop:=∀a∈b,AtF c gs a
variable{ark:List aw}
theorem LeI.refl:LeI apO ark ark:=λa b=>⟨a,b,rfl,rfl,.refl⟩
theorem amx.trans{c d:Int}(h:∀a,e8 apO art=T a->eF a c=ab)(e:amx apO art arS c)(f:amx apO art c d):amx apO art arS d:=λa b=>by
 obtain⟨i,rfl,g⟩:=qo (h a b);exact aea g (e a b) (f a b)
variable{arP:aw}
theorem AtF.trans{gs:List aw}(h:∀g∈gs,qx apO g)(b:AtF apO gs arP)(c:LeI apO gs ark):AtF apO ark arP:=by
 obtain⟨g,a,d,e,f⟩:=b;obtain⟨i,w1,k,l,n⟩:=c g a;refine⟨i,w1,k.trans d,l.trans e,f.trans (λj m=>h g a j (by grind)) ?_⟩;grind
variable{asB:List aw}
theorem LeI.trans{gs:List aw}(e:∀g∈gs,qx apO g)(b:LeI apO ark gs)(c:LeI apO gs asB):LeI apO ark asB:=λa d=>(b a d).trans e c
theorem ali.trans{gs:List aw}(c:∀g∈gs,qx apO g)(a:ali apO gs arP)(b:LeI apO gs ark):ali apO ark arP:=
 a.imp id λa=>a.trans c b
variable{ar4:bM}
theorem an9(f:eu ar4=0)(t:eF ar4 art=ab)(a:eF ar4 arS=ab):
 eF ar4 (fy ar4 [art,arS])=ab/\dK ar4 art.toNat (fy ar4 [art,arS]).toNat=ab/\dK ar4 arS.toNat (fy ar4 [art,arS]).toNat=ab/\
 ∀b,eF ar4 b=ab->dK ar4 art.toNat b.toNat=ab->dK ar4 arS.toNat b.toNat=ab->dK ar4 (fy ar4 [art,arS]).toNat b.toNat=true:=by
 obtain⟨k,rfl,h⟩:=qo t;obtain⟨l,rfl,i⟩:=qo a;obtain⟨j,g,o,p,q⟩:=aec f h i;rw[g];refine⟨Et o,p,q,λb u r s=>?_⟩;obtain⟨w,rfl,v⟩:=qo u;have a:0<=qm (Z ar4.au) (dK ar4) λc=>S ((c:Int)∈[(k:Int),(l:Int)]):=by
  have d:=Ph f h i;unfold lK at d;simp only[Kw,decide_eq_false_iff_not,Int.not_lt]at d;exact d.2
 obtain⟨c,m,-,-,n⟩:=Pk a;have e:(j:Int)=c:=by
  rw[<-g,<-m];simp_all[fy,Et]
 have e:j=c:=by omega
 subst e;refine n w v λarS _ a=>?_;have a:arS=k\/arS=l:=by simp at a;omega
 rcases a with rfl|rfl
 ·exact r
 ·exact s
theorem ano(f:aj)(b:List aw)(a:aw):
 (amH f a/\dp f b a=b)\/(¬amH f a/\(
  (∃c,∃d:c<Z b,b[c].aq=a.aq/\b[c].ad=a.ad/\(e8 f a.aq=D/\dp f b a=b\/∃g,e8 f a.aq=T g/\dp f b a=b.set c ⟨b[c].aq,b[c].ad,fy g [b[c].af,a.af]⟩))\/
  ((∀e∈b,¬(e.aq=a.aq/\e.ad=a.ad))/\dp f b a=j8 b a))):=by
 have n:∀e:aw,gW a.aq a.ad e=ab<->e.aq=a.aq/\e.ad=a.ad:=by simp[gW]
 have o:b.findIdx? (gW a.aq a.ad)=D->∀e∈b,¬(e.aq=a.aq/\e.ad=a.ad):=λd e t s=>by
  rw[wK]at d;have:=d e t;rw[(n e).2 s]at this;cases this
 have p:∀c,b.findIdx? (gW a.aq a.ad)=T c->∃d:c<Z b,b[c].aq=a.aq/\b[c].ad=a.ad:=λc d=>by
  obtain⟨h,j,-⟩:=nW.1 d;exact⟨h,(n _).1 j⟩
 unfold dp;cases m:e8 f a.aq with
 |none=>
  have i:¬amH f a:=by rintro⟨g,d,-⟩;rw[m]at d;cases d
  refine .inr ⟨i,?_⟩;cases k:b.findIdx? (gW a.aq a.ad)with
  |none=>exact .inr ⟨o k,by simp⟩
  |some c=>
   obtain⟨h,j,l⟩:=p c k;exact .inl ⟨c,h,j,l,.inl ⟨rfl,by simp⟩⟩
 |some g=>
  by_cases i:a.af=fy g []
  ·exact .inl ⟨⟨g,m,i⟩,by simp[i]⟩
  ·have r:¬amH f a:=by
    rintro⟨u,d,q⟩;rw[m]at d;cases d;exact i q
   refine .inr ⟨r,?_⟩;simp only[i,if_false];cases k:b.findIdx? (gW a.aq a.ad)with
   |none=>exact .inr ⟨o k,rfl⟩
   |some c=>
    obtain⟨h,j,l⟩:=p c k;exact .inl ⟨c,h,j,l,.inr ⟨g,rfl,by simp only[bC h]⟩⟩
theorem ao6(m:uM apO)(s:∀g∈ark,qx apO g)(r:qx apO arP):LeI apO ark (dp apO ark arP)/\ali apO (dp apO ark arP) arP:=by
 rcases ano apO ark arP with⟨l,a⟩|⟨l,⟨n,e,a,d,⟨b,h⟩|⟨f,b,h⟩⟩|⟨a,d⟩⟩
 ·rw[a];exact⟨.refl,.inl l⟩
 ·rw[h]
  refine⟨.refl,.inr ⟨ark[n],bs e,a,d,λf m=>?_⟩⟩;simp_all
 ·rw[h]
  have q:=s _ (bs e) f (by rw[a];exact b);obtain⟨v,o,p,-⟩:=an9 (m f (Bz b)) q (r f b);refine⟨λg i=>?_,.inr ⟨_,List.mem_set e _,a,d,λu c=>?_⟩⟩
  ·obtain⟨j,t,rfl⟩:=jS.1 i
   by_cases k:n=j
   ·subst k
    refine⟨_,List.mem_set e _,rfl,rfl,λu c=>?_⟩;rw[a,b]at c;cases c;exact o
   ·refine⟨ark[j],?_,rfl,rfl,.refl⟩
    refine jS.2 ⟨j,by simpa using t,?_⟩;rw[List.getElem_set_ne k]
  ·rw[b]at c;cases c
   exact p
 ·rw[d]
  exact⟨λg i=>⟨g,H6.2 (.inr i),rfl,rfl,.refl⟩,.inr ⟨arP,H6.2 (.inl rfl),rfl,rfl,.refl⟩⟩
theorem ao4(B:uM apO){j:Int->Prop}{gs:List aw}(x:fY gs)(z:∀a∈ark,qx apO a)(A:∀a∈gs,qx apO a)(y:qx apO arP)(f:∀a∈ark,j a.aq->AtF apO gs a)(o:j arP.aq->ali apO gs arP):∀a∈dp apO ark arP,j a.aq->AtF apO gs a:=by
 rcases ano apO ark arP with⟨k,h⟩|⟨k,⟨C,p,h,l,⟨d,m⟩|⟨e,d,m⟩⟩|⟨h,l⟩⟩
 ·rw[h];exact f
 ·rw[m];exact f
 ·rw[m]
  intro a c b;rcases ak6 c with c|rfl
  ·exact f a c b
  ·have b:=b
   obtain⟨g,t,u,v,w⟩:=(o (h▸b)).resolve_left k;obtain⟨n,w1,E,q,F⟩:=f ark[C] (bs p) b;have r:=Pr x n w1 g t (by omega) (by rw[q,v,l]);subst r;refine⟨n,w1,E,q,λG i=>?_⟩;have i:=i;rw[h,d]at i;cases i;have s:=z _ (bs p) e (by omega);exact(an9 (B e (Bz d)) s (y e d)).2.2.2 _ (A n w1 e (by rw[u];exact d)) (F e (by omega)) (w e d)
 ·rw[l]
  intro a c b;rcases H6.1 c with rfl|c
  ·exact(o b).resolve_left k
  ·exact f a c b
theorem anm(h:uM apO):∀(a:List aw){c:List aw},(∀d∈c,qx apO d)->(∀d∈a,qx apO d)->LeI apO c (jm apO c a)/\∀e∈a,ali apO (jm apO c a) e
 |[],c,_,_=>⟨.refl,by simp⟩
 |b::a,c,i,g=>by
  have f:=(Eu h i (g b (by simp))).2;obtain⟨l,m⟩:=ao6 h i (g b (by simp));obtain⟨j,n⟩:=anm h a f λd o=>g d (by simp[o]);have k:jm apO c (b::a)=jm apO (dp apO c b) a:=rfl;rw[k];refine⟨l.trans f j,λe hf=>?_⟩;rcases cf.1 hf with rfl|hf
  ·exact m.trans f j
  ·exact n e hf
theorem aom(i:uM apO){g:Int->Prop}{gs:List aw}(k:fY gs)(l:∀a∈gs,qx apO a):∀(c:List aw){d:List aw},(∀a∈d,qx apO a)->(∀a∈c,qx apO a)->(∀a∈d,g a.aq->AtF apO gs a)->(∀e∈c,g e.aq->ali apO gs e)->∀a∈jm apO d c,g a.aq->AtF apO gs a
 |[],d,_,_,f,_=>f
 |b::c,d,f,h,m,j=>aom i k l c (Eu i f (h b (by simp))).2 (λa o=>h a (by simp[o]))
  (ao4 i k f l (h b (by simp)) m (j b (by simp))) λe n=>j e (by simp[n])
theorem ao2(l:uM apO){gs:List aw}(h:fY gs)(k:∀a∈gs,qx apO a)(b:List aw)(e:∀a∈ark,qx apO a)(i:∀a∈b,qx apO a)(f:LeI apO ark gs)(g:∀c∈b,ali apO gs c):LeI apO (jm apO ark b) gs:=
 λa d=>aom (g:=λ_=>True) l h k b e i (λa d _=>f a d) (λc j _=>g c j) a d trivial
def Agr(b:Int)(c gs:List aw):Prop:=c.filter (λa=>a.aq==b)=gs.filter (λa=>a.aq==b)
variable{arV:List Int}{ary:aG}
theorem am2(a:th arV ary=ab):0<=ary.aq:=by
 simp only[th,bG,decide_eq_true_eq]at a;exact a.1
theorem anQ{b:List aw->Prop}(g:b [])(d:∀a∈apO.ah,th arV a=ab->∀out,b out->b (jm apO out (tg apO ark a))):b (nK apO arV ark):=by
 have key:∀(c:List aG)(_:∀a∈c,a∈apO.ah){out:List aw},b out->b (c.foldl (mb apO arV ark) out):=by
  intro c;induction c with
  |nil=>exactλ_ _ d=>d
  |cons a c j=>
   intro e out f;refine j (λk i=>e k (by simp[i])) ?_;unfold mb;split
   ·rename_i h;exact d a (e a (by simp)) h out f
   ·exact f
 exact key apO.ah (λ_ d=>d) g
theorem aol{e:Int->List aO->Prop}:∀(d:List aw){c:List aw},(∀a∈c,e a.aq a.ad)->(∀a∈d,e a.aq a.ad)->∀a∈jm apO c d,e a.aq a.ad
 |[],_,f,_=>f
 |b::d,c,f,g=>aol d (c:=dp apO c b) (Pf f (g b (by simp))) λa h=>g a (by simp[h])
theorem anR{c:Int->List aO->Prop}(d:∀b∈apO.ah,th arV b=ab->∀a∈tg apO ark b,c a.aq a.ad):∀a∈nK apO arV ark,c a.aq a.ad:=
 anQ (b:=λout=>∀a∈out,c a.aq a.ad) (by simp) λb g e _ f=>aol _ f (d b g e)
variable{arq:List aO}
theorem aoX(f:ti apO arq)(g:dq apO arq ark):∀(e:List aG)(_:∀r∈e,r∈apO.ah){out:List aw},dq apO arq out->
 LeI apO out (e.foldl (mb apO arV ark) out)/\∀r∈e,th arV r=ab->∀d∈tg apO ark r,ali apO (e.foldl (mb apO arV ark) out) d
 |[],_,out,_=>⟨.refl,by simp⟩
 |r::e,s,out,l=>by
  have n:=s r (by simp);have m:=(EB f g arV [r] (by simpa using n) l).1;obtain⟨h,q⟩:=aoX f g e (by grind) m;rw[oJ];have j:∀b∈mb apO arV ark out r,qx apO b:=λb a=>(m.ok b a).af;have i:LeI apO out (mb apO arV ark out r)/\(th arV r=ab->∀d∈tg apO ark r,ali apO (mb apO arV ark out r) d):=by
   unfold mb;split
   ·rename_i c
    have p:0<=r.aq:=by
     simp only[th,bG,decide_eq_true_eq]at c;exact c.1
    have:=anm f.aV (tg apO ark r) (λb a=>(l.ok b a).af) (λb a=>(PQ f g n p b a).af);exact⟨this.1,λ_=>this.2⟩
   ·rename_i c
    exact⟨.refl,λo=>absurd o c⟩
  refine⟨i.1.trans j h,λb a c d k=>?_⟩;rcases cf.1 a with rfl|a
  ·exact(i.2 c d k).trans j h
  ·exact q b a c d k
theorem anS(f:ti apO arq){gs:List aw}(d:dq apO arq ark)(h:dq apO arq gs)(l:∀c∈apO.ah,th arV c=ab->∀g∈tg apO ark c,ali apO gs g):LeI apO (nK apO arV ark) gs:=
 (anQ (b:=λout=>dq apO arq out/\LeI apO out gs) ⟨.nil apO arq,by intro g d;cases d⟩ λc k j out e=>by
  have i:=PQ f d k (am2 j);exact⟨EA f.aV _ e.1 i,ao2 f.aV h.fz (λb a=>(h.ok b a).af) _ (λb a=>(e.1.ok b a).af) (λb a=>(i b a).af) e.2 (l c k j)⟩).2
theorem anl(e:ti apO arq)(d:dq apO arq ark):∀a∈apO.ah,th arV a=ab->∀b∈tg apO ark a,ali apO (nK apO arV ark) b:=
 (aoX e d apO.ah (λ_ c=>c) (.nil apO arq)).2
theorem aok{d:aj}:∀(f:List aw){a:List aw},(∀c∈f,c.aq≠art)->Agr art (jm d a f) a
 |[],_,_=>rfl
 |b::f,a,k=>by
  have o:=aok (d:=d) f (a:=dp d a b) λc q=>k c (by simp[q]);have m:=k b (by simp);refine o.trans ?_;rcases ano d a b with⟨-,i⟩|⟨-,⟨e,n,i,l,⟨p,j⟩|⟨r,p,j⟩⟩|⟨-,l⟩⟩
  ·rw[i]
  ·rw[j]
  ·rw[j]
   have g:¬(a[e].aq==art)=true:=by rw[i];simpa using m
   have h:a.filter (λc=>c.aq==art)=(a.take e).filter (λc=>c.aq==art)++(a.drop (e+1)).filter (λc=>c.aq==art):=by
    conv=>lhs;rw[<-vg e a,mQ n,Ty,List.filter_cons_of_neg (p:=λc:aw=>c.aq==art) g]
   rw[h,alc,if_pos n,Ty,List.filter_cons_of_neg (p:=λc:aw=>c.aq==art) (a:=⟨a[e].aq,a[e].ad,fy r [a[e].af,b.af]⟩) g]
  ·rw[l]
   have g:¬(b.aq==art)=true:=by simpa using m
   have h:a.filter (λc=>c.aq==art)=(a.take (kA a b (Z a))).filter (λc=>c.aq==art)++(a.drop (kA a b (Z a))).filter (λc=>c.aq==art):=by
    conv=>lhs;rw[<-vg (kA a b (Z a)) a,Ty]
   unfold j8;rw[h,Ty,List.filter_cons_of_neg (p:=λc:aw=>c.aq==art) g]
theorem aog:∀a∈nK apO arV ark,a.aq∈arV:=
 anR (c:=λc _=>c∈arV) λg _ b a d=>by
  obtain⟨f,-,rfl⟩:=du.1 d;simp only[th,bG,List.contains_iff_mem]at b;exact b.2
def amN(e:aj)(b:List Int)(d gs:List aw):Prop:=∀c∈e.ah,th b c=ab->∀a∈c.ae,pc a=ab->a.aq∉b/\Agr a.aq d gs
theorem aoc(c:art∉arV):Agr art (iG apO arV ark) ark:=
 aok _ λb d a=>c (a▸aog b d)
theorem amN.next{gs:List aw}(a:amN apO arV ark gs):amN apO arV (iG apO arV ark) gs:=λg e c f d b=>
 ⟨(a g e c f d b).1,(aoc (a g e c f d b).1).trans (a g e c f d b).2⟩
variable{aoO:Nat}{asP:Option (List aw)}
theorem am4(f:ti apO arq)(c:sn apO arV aoO ark asP)(d:dq apO arq ark):∀gs,asP=T gs->dq apO arq gs/\LeI apO ark gs/\jP gs=aa/\iG apO arV gs=gs:=by
 induction c with
 |over aoO ark c=>grind
 |stop aoO ark c g=>
  intro gs e;cases e
  exact⟨d,.refl,by grind,g⟩
 |next aoO ark asP c g o n=>
  intro gs e;have h:=(Il f d arV).1;obtain⟨i,j,k⟩:=n h gs e;have m:=(EC f d arV).1;have l:=(anm f.aV (nK apO arV ark) (λb a=>(d.ok b a).af) λb a=>(m.ok b a).af).1;exact⟨i,l.trans (λb a=>(h.ok b a).af) j,k⟩
theorem LeI.fB{gs:List aw}(e:LeI apO ark gs):∀a∈ark,∀b∈a.ad,b∈pa apO gs:=λa f b h=>by
 obtain⟨g,c,-,d,-⟩:=e a f;exact aiV c (d▸h)
open Go.Law
theorem ana:∀{d e:List aw},d.Pairwise (λi j=>db i j<0)->e.Pairwise (λi j=>db i j<0)->(∀x,x∈d<->x∈e)->d=e
 |[],[],_,_,_=>rfl
 |[],f::e,_,_,b=>by have:=(b f).2 (by simp);cases this
 |x::d,[],_,_,b=>by have:=(b x).1 (by simp);cases this
 |x::d,f::e,g,h,b=>by
  rw[zU]at g h;have k:∀a:aw,¬db a a<0:=λa c=>by
   have:=(zj a a).2 ⟨rfl,rfl⟩;omega
  have l:x=f:=by
   rcases cf.1 ((b x).1 (by simp))with h1|h1
   ·exact h1
   ·rcases cf.1 ((b f).2 (by simp))with h2|h2
    ·exact h2.symm
    ·exact absurd (zk _ _ _ (g.1 f h2) (h.1 x h1)) (k x)
  subst l
  congr 1
  refine ana g.2 h.2 λa=>⟨λc=>?_,λc=>?_⟩
  ·rcases cf.1 ((b a).1 (by simp[c]))with rfl|h1
   ·exact absurd (g.1 a c) (k a)
   ·exact h1
  ·rcases cf.1 ((b a).2 (by simp[c]))with rfl|h1
   ·exact absurd (h.1 a c) (k a)
   ·exact h1
theorem aoD(v:uM apO){gs:List aw}(i:dq apO arq ark)(m:dq apO arq gs)(t:LeI apO ark gs)(u:LeI apO gs ark):∀d∈ark,d∈gs:=by
 intro d e;obtain⟨g,f,h,r,s⟩:=t d e;obtain⟨a,w1,w,x,y⟩:=u g f;have j:=Pr i.fz a w1 d e (w.trans h) (x.trans r);subst j;have j:g.af=a.af:=by
  cases b:e8 apO a.aq with
  |none=>rw[(i.ok a e).none b,(m.ok g f).none (by grind)]
  |some c=>
   obtain⟨z,n,o⟩:=qo ((i.ok a e).af c b);obtain⟨A,p,q⟩:=qo ((m.ok g f).af c (by rw[h];exact b));have k:=s c b;have l:=y c (by rw[h];exact b);rw[n,p]at k l⊢;rw[Pj (v c (Bz b)) q o l k]
 have:g=a:=by
  cases g;cases a
  simp_all
 grind
theorem an7(e:uM apO){gs:List aw}(a:dq apO arq ark)(b:dq apO arq gs)(c:LeI apO ark gs)(d:LeI apO gs ark):ark=gs:=
 ana (H4.1 a.fz) (H4.1 b.fz) λf=>⟨aoD e a b c d f,aoD e b a d c f⟩
theorem Agr.symm{gs:List aw}(a:Agr art ark gs):Agr art gs ark:=Eq.symm a
inductive amC(n:Nat)(D:cO):(Nat->Bool)->List (List Nat)->Prop
 |nil (done:Nat->Bool):amC n D done []
 |cons (done:Nat->Bool) (g:List Nat) (L:List (List Nat)) (h1:∀x∈g,x<n/\done x=aa) (h2:∀x∈g,∀b,b<n->D x b=ab->done b=ab\/b∈g) (h3:∀x∈g,∀y∈g,eY D x y=ab)
  (done':Nat->Bool) (h4:∀b,b<n->(done' b=ab<->done b=ab\/b∈g)) (t:amC n D done' L):amC n D done (g::L)
variable{arf arU:Type}
theorem aoa{f:List arf->arU->List arf}{d:arU->arf->Prop}(g:∀e x a,a∈f e x<->a∈e\/d x a):∀(c:List arU)(b:List arf)(a:arf),a∈c.foldl f b<->a∈b\/∃x∈c,d x a
 |[],b,a=>by simp
 |x::c,b,a=>by
  rw[oJ,aoa g c,g];grind
theorem am3{b:Edge}:b∈kv apO<->∃a∈apO.ah,∃d∈a.ae,qs apO a d=ab/\b=((a.aq,d.aq),pc d):=by
 have f:∀a c e(b:Edge),b∈jD apO a c e<->b∈c\/(qs apO a e=ab/\b=((a.aq,e.aq),pc e)):=λa c e b=>by
  unfold jD;split<;>simp[*]
 have g:∀c a(b:Edge),b∈pd apO c a<->b∈c\/∃d∈a.ae,qs apO a d=ab/\b=((a.aq,d.aq),pc d):=λc a b=>aoa (f a) _ c b;have:=aoa g apO.ah [] b;simpa[kv]using this
variable{arh:Nat}
theorem amW:sd apO aoO arh=ab<->∃a∈kv apO,a.1.1=aoO/\a.1.2=arh:=by
 simp[sd,qn]
variable{arY:cO}{asl:List (List Nat)}
theorem amC.later{done:Nat->Bool}(b:amC aoO arY done asl):∀g∈asl,∀a∈g,a<aoO/\done a=false:=by
 induction b with
 |nil=>simp
 |cons done g asl h m n l i o j=>
  intro k c a f;rcases cf.1 c with rfl|c
  ·exact h a f
  ·obtain⟨d,e⟩:=j k c a f
   refine⟨d,?_⟩;rw[<-Kr]at e⊢;exactλb=>e ((i a d).2 (.inl b))
theorem aoh(d:se apO=[]):∀b∈apO.ah,∀a∈b.ae,kX apO b a=false:=by
 have key:∀(c:List aG){f:List (Int×Int)},c.foldl (qu apO) f=[]->f=[]/\∀b∈c,∀a∈b.ae,kX apO b a=false:=by
  intro c;induction c with
  |nil=>simp
  |cons b c k=>
   intro f d;rw[oJ]at d;obtain⟨e,j⟩:=k d;unfold qu at e;split at e
   ·simp at e
   ·rename_i i
    rw[FF]at i;refine⟨e,λl g a h=>?_⟩;rcases cf.1 g with rfl|g
    ·simpa using i a h
    ·exact j l g a h
 exact(key apO.ah d).2
def TyA(h:aj)(f:Int)(g:List aO):Prop:=∀c,h.d[f.toNat]?=T c->∀(a:Nat)(e:aO)(b:Int),g[a]?=T e->c.bb[a]?=T b->e.ty=b
def amy(e:k->Int)(a:aX):Prop:=∀(b:Nat)(d:k)(c:aO),a.ax[b]?=T d->a.bl[b]?=T c->c.ty=e d
variable{ar6:k -> Int}{arz:aX}{arL:aM}
theorem amy.get(f:amy ar6 arz)(j:Z arz.bl=Z arz.ax)(d:known arz.ax arL=ab):(bW arz arL).1.ty=eZ ar6 arL:=by
 unfold eZ bW;by_cases a:arL.aB=[]
 ·simp[a]
 ·rw[if_neg a,if_neg a]
  have h:arL.aB∈arz.ax:=by
   simp only[known,kg,beq_iff_eq,decide_eq_true_eq]at d;exact d.resolve_left a
  cases c:arz.ax.findIdx? (λi=>i==arL.aB)with
  |none=>
   rw[wK]at c;have:=c _ h;simp at this
  |some e=>
   obtain⟨g,b,-⟩:=nW.1 c;have b:arz.ax[e]=arL.aB:=by simpa using b
   simp only;rw[oM,bC (by omega)];exact f e arL.aB _ (by rw[bC g,b]) (bC (by omega))
variable{asu:aO}
theorem amy.put(e:amy ar6 arz)(g:Z arz.bl=Z arz.ax)(l:arL.aB≠[])(j:asu.ty=eZ ar6 arL):amy ar6 (fT arz arL asu):=by
 intro d i h b a;simp only[fT]at b a;by_cases c:d<Z arz.ax
 ·rw[lU c]at b
  rw[lU (by omega)]at a;exact e d i h b a
 ·rw[FH (by omega)]at b
  rw[FH (by omega)]at a;have c:d=Z arz.ax:=by
   obtain⟨f,-⟩:=e6.1 b;simp at f;omega
  subst c;simp only[Ke,cv,eK]at b;rw[g,Ke]at a;simp only[cv,eK]at a;simp_all[eZ]
variable{arx:List k}
theorem aon(a:known arx arL=aa):arL.aB≠[]:=by
 simp_all[known]
theorem amy.hU:∀(d:List aM)(vs:List aO){b g:aX},Z b.bl=Z b.ax->amy ar6 b->(∀(c:Nat)(t:aM)(e:aO),d[c]?=T t->vs[c]?=T e->e.ty=eZ ar6 t)->AM.hU b d vs=T g->amy ar6 g
 |[],vs,b,g,_,f,_,a=>by
  simp only[AM.hU,eK]at a;exact a▸f
 |t::d,[],b,g,_,f,_,a=>by simp[AM.hU]at a
 |t::d,e::vs,b,g,h,f,j,a=>by
  rw[AM.hU]at a;have l:∀(c:Nat)(t:aM)(e:aO),d[c]?=T t->vs[c]?=T e->e.ty=eZ ar6 t:=λc o p m n=>j (c+1) o p (by simpa using m) (by simpa using n);split at a
  ·split at a
   ·exact amy.hU d vs h f l a
   ·cases a
  ·rename_i i
   rw[qy,Kr]at i;refine amy.hU d vs (by simp[fT,h]) (f.put h (aon i) ?_) l a;exact j 0 t e (by simp) (by simp)
structure aoq(p:aj)(r:aG)(τ:k->Int):Prop where
 head:0<=r.aq->∀x∈mL p r.aq r.ad,eZ τ x.1=x.2
 lit:∀l∈r.ae,0<=l.aq->∀x∈mL p l.aq l.ad,eZ τ x.1=x.2
 eq:∀l∈r.ae,l.ak=5->∀a b,l.ad=[a,b]->eZ τ a=eZ τ b
variable{asH:List aM}{as8:cD}
theorem aos(b:∀a∈mL apO art asH,eZ ar6 a.1=a.2)(e:apO.d[art.toNat]?=T as8)(f:asH[aoO]?=T arL)(c:as8.bb[aoO]?=T arS):eZ ar6 arL=arS:=by
 refine b (arL,arS) ?_;unfold mL;rw[e];refine sG (i:=aoO) ?_;rw[List.getElem?_zip_eq_some];exact⟨f,c⟩
variable{arN:Lit}{asa:aX}
theorem amy.ext(s:aoq apO ary ar6)(F:dq apO arq ark)(y:∀f∈ark,TyA apO f.aq f.ad)(p:arN∈ary.ae)(z:PJ apO ary arN)(g:Z arz.bl=Z arz.ax)(c:amy ar6 arz)(b:asa∈e5 apO ark arz arN):amy ar6 asa:=by
 unfold e5 at b;split at b
 ·rename_i h
  obtain⟨f,j,b⟩:=yj.1 b;obtain⟨I,A,rfl⟩:=dg.1 b;obtain⟨j,r⟩:=tF.1 j;have x:f.aq=arN.aq:=by
   simp only[j9,bG,beq_iff_eq]at r;exact r.1
  have m:=c.hU _ _ g (λl H B a v=>by
   have i:arN.ak≠5:=by
    intro i;simp[i]at h
   obtain⟨e,E,u,C⟩:=z.aq i;have q:apO.d[arN.aq.toNat]?=T apO.d[e]:=by rw[u];simp
   obtain⟨G,-⟩:=e6.1 a;have o:apO.d[e].bb[l]?=T (apO.d[e].bb[l]'(by omega)):=bC _;rw[aos (s.lit arN p (by omega)) q a o];exact y f j _ (by rw[x];exact q) l B _ v o) A
  unfold jq;split
  ·exact m
  ·exact m
 ·split at b
  ·simp only[lV]at b
   subst b;unfold g7;split
   ·rename_i e t w
    split
    ·rename_i h
     simp only[bG,beq_iff_eq]at h;have n:=s.eq arN p h.1 e t w;split
     ·rename_i a
      simp only[bG,jt]at a;rw[qy,qy]at a;exact c.put g (aon a.2) ((c.get g a.1).trans n)
     ·split
      ·rename_i a
       simp only[bG,jt]at a;rw[qy,qy]at a;exact c.put g (aon a.2) ((c.get g a.1).trans n.symm)
      ·exact c
    ·exact c
   ·exact c
  ·cases b
open Go.Proofs
variable{apE:AV}
theorem r25:aF 25 [apE] 0x7100102a000102a00010240d080147e67415e0ee01d05080146e62415e0ee0130e60415eb0414e [] [apE]:=
 ru Tryz.func25 (am 7 0) []
variable{apQ:AV}
theorem r31:aF 31 [apE,apQ] 0x122007c0007202711e00974017e014721e4a0321e7234029780fe05a0007a4100102c000102c000102017ea021ae67415e10e017e0119e64415e10e017e0413d6bb8f50415eb0414e [] [apE,apQ]:=
 ru Tryz.func31 (am 0x2001100037 0x2001100000) []
noncomputable def amL(a:aj):Bool:=iH a&&(Z (nA a):Int)==0&&(Z (se a):Int)==0
variable{apN:Bool}
theorem k25(a:aj)(g:dW a)(d:Z a.ah<=20)(h:∀i∈a.ah,j6 i)(e:nN a->ky a):PR C 25 [.agg (cP aa apN a)] (.bool (amL a)):=by
 refine r25.pr ?_;simp only[dS,Q,fQ,bo,G];refine f (afx a g) (aZ (λb=>?_) (λb=>bE (by rw[amL,b]<;>rfl)));refine f (Ot a d h) ?_;simp only[a8,c9,Q];refine aZ (λc=>?_) (λc=>bE (by rw[amL,b,c]<;>rfl));refine f (O4 a (e (QM.1 b)) d) ?_;simp only[a8,c9,Q];exact gU (by rw[amL,b,c]<;>rfl)
noncomputable def amD(a:aj)(b:List aw):Bool:=r9 a b 3000&&amL a&&jk a b&&b.all (oB a)
variable{arj:Bool}
theorem k31(b:aj)(c:List aw)(o:dW b)(n:Sm c)(w:∀v∈c,eO v.ad):PR C 31 [.agg (cP aa apN b),eS arj (cF aa) c] (.bool (amD b c)):=by
 refine r31.pr ?_;simp only[dS,Q,fQ];refine eh (N:=[]) (!(r9 b c 3000&&amL b&&jk b c)) (λH j=>?_) ?_
 ·refine f (acP b c 3000 (by omega) o n) ?_
  simp only[bD,Q];refine dx (λe=>?_) (λe=>kB j (by simp_all));have e:r9 b c 3000=true:=by simpa using e
  have s:=Ce e;obtain⟨B,z,-⟩:=Cd s;refine f (k25 b o z B (SW s)) ?_;simp only[bD,Q];refine dx (λh=>?_) (λh=>kB j (by simp_all));have h:amL b=true:=by simpa using h
  have E:nN b:=by
   simp only[amL,bG]at h;exact QM.1 h.1.1
  refine f (adS b c o (SM E) n w) ?_;simp only[bD,Q];exact kB j (by simp_all)
 simp only[G];refine c8 (λe=>bE (by rw[amD,e]<;>rfl)) (λe=>?_);have x:jk b c=true:=by
  simp only[bG]at e;exact e.2
 have y:=aiO x;refine et (U:=Z c) (c:=λk=>[ff,I k]) (λk=>(c.take k).all (oB b)=ab) (by simp) rfl (λk g l t j=>?_) (λl t=>?_)
 ·obtain⟨u,q,m⟩:=y _ (bs g)
  have r:oB b c[k]=b.d[u].fI:=by
   unfold oB;rw[m,ej,bC q]
  simp only[i,G,a8,A,Q,a,g,decide_true,a6,aH,iy,aJ,aC g (hE _ _),p5,m,aC q (hD _ _),AP,bD];refine a7 ?_;refine c8 (λp=>bE ?_) (λp=>?_)
  ·rw[amD,e,cu,List.all_eq_false]
   exact⟨_,bs g,by rw[r,p];simp⟩
  ·rw[n.inc g,Q]
   refine j ?_;rw[mD g,l,r,p]<;>rfl
 ·simp only[i,G,a8,A,Q,a,ca,decide_false]
  refine bq (hR ?_);rw[dB]at l;rw[amD,e,l]<;>rfl
structure amI(p:aj)(fs:List aw):Prop where
 r9:r9 p fs 3000=ab
 q3:qi p fs
 val:nN p
 uns:nA p=[]
 str:se p=[]
 form:jk p fs=ab
 fI:fs.all (oB p)=ab
theorem anq(a:amD apO ark=ab):amI apO ark:=by
 simp only[amD,amL,bG,beq_iff_eq]at a;obtain⟨⟨⟨b,⟨c,f⟩,g⟩,d⟩,e⟩:=a;exact⟨b,Ce b,QM.1 c,wF (by omega),wF (by omega),d,e⟩
theorem an6(i:eP C)(j:wA C)(l:x5 C)(a:amI apO ark)(h:dW apO)(d:∀k∈ark,eO k.ad):
 ∃b,ra apO (xV apO) ark b/\(∀gs,b=T gs->dq apO (pa apO ark) gs/\jP gs=aa)/\PR C 23 [.agg (cP aa apN apO),eS arj (cF aa) ark] (BL b):=by
 obtain⟨p,-,o⟩:=Cd a.q3;have f:=JV a.r9 a.val h d a.uns;have e:=JW a.val a.form;have r:=a.q3.facts;obtain⟨b,g,m⟩:=PT f.v (xV apO) e (Io (by omega));have n:qH apO ark=true:=by
  rw[qH,a.form,a.fI,QM.2 a.val]<;>rfl
 refine⟨b,g,m,jr i j l (V:=apN) (F:=arj) (bp:=false) apO ark h (by unfold Sm;omega) d (BL b) (λc=>by rw[n]at c;cases c) λ_=>?_⟩;exact⟨o,p,SW a.q3 a.val,λc=>absurd a.uns c,λ_ c=>absurd a.str c,λ_ _=>⟨_,b,f,e,by omega,g,rfl⟩⟩
section
variable{p:aj}{fB:List aO}{v:Nat}{fs m:List aw}
end
section
variable{p:aj}{v:Nat}
end
def ael(a:aG):aG:={a with ae:=a.ae.reverse}
theorem aoN(a:aG):ael (ael a)=a:=by unfold ael;simp
theorem amu:arN∈(ael ary).ae<->arN∈ary.ae:=List.mem_reverse
def ae6(a:aj)(b:List aG):aj:=⟨a.m,a.aW,a.d,b⟩
structure amz(p:aj)(L:List aG):Prop where
 sub:∀r∈L,∃s∈p.ah,r=ael s
 sup:∀s∈p.ah,ael s∈L
 len:Z L<=12
theorem apY{W:List k}(g:∀i∈arx,i∈W)(b:iP arx arN=ab):iP W arN=true:=by
 have e:∀a,known arx a=ab->known W a=true:=λa c=>by
  simp only[known,kg,beq_iff_eq,decide_eq_true_eq]at c⊢;exact c.imp id (g _)
 unfold iP at b⊢;split
 ·rfl
 ·rename_i h
  rw[if_neg h]at b;split
  ·rename_i d
   rw[if_pos d]at b;rw[FE]at b⊢;obtain⟨a,c,f⟩:=b;exact⟨a,c,e a f⟩
  ·rename_i d
   rw[if_neg d]at b;rw[fi]at b⊢;exactλa c=>e a (b a c)
variable{asg:List Lit}{arI:List Nat}{asi:List k}
theorem aqc{i:List Nat}(h:Seq asg arI arx i){out:List Nat}(l:∀a∈out,∀c∈xx asg a,c.aB≠[]->c.aB∈asi):(∀e∈arx,e∈asi)->(∃a∈i,a∉out)->∃a,a<Z asg/\lJ asg out asi a=true:=by
 induction h with
 |nil=>rintro -⟨a,b,-⟩;cases b
 |cons arI arx a c t d s n h q=>
  rintro f ⟨r,m,g⟩;by_cases b:a∈out
  ·refine q (λe p=>?_) ⟨r,?_,g⟩
   ·rcases Ey.1 p with h|⟨h,c,o,rfl⟩
    ·exact f e h
    ·exact l a b c (by rw[xx,d];exact o) h
   ·rcases cf.1 m with rfl|h
    ·exact absurd b g
    ·exact h
  ·obtain⟨j,-⟩:=e6.1 d
   exact⟨a,j,by simp[lJ,d,b,apY f n]⟩
theorem aoJ{b:List Lit}{p:List Nat}(q:Seq b [] [] p)(r:∀a,a<Z b->a∈p):∀(n:Nat){out:List Nat}{g:List k},(∀a∈out,a<Z b/\∀d∈xx b a,d.aB≠[]->d.aB∈g)->out.Nodup->Z out+n=Z b->(mG b n out g).isSome=ab
 |0,_,_,_,_,_=>rfl
 |n+1,out,g,j,x,B=>by
  have v:∃a∈p,a∉out:=by
   refine yl λl=>?_;have h:∀a∈List.range (Z b),a∈out:=λa e=>yl λw=>l ⟨a,r a (by simpa using e),w⟩;have:=BA Fz h;rw[List.length_range]at this;omega
  obtain⟨a,e,l⟩:=aqc q (λa e=>(j a e).2) (by simp) v;rw[mG];cases f:vV b out g with
  |none=>
   unfold vV at f;rw[FF]at f;exact absurd l (f a (by simpa using e))
  |some y=>
   unfold vV at f;obtain⟨h,i,-⟩:=FD.1 f;have i:y<Z b:=by simpa using i
   simp only[lJ,bG,jt,decide_eq_false_iff_not]at h;refine aoJ q r n (λt c=>?_) ?_ (by simp;omega)
   ·rcases c5.1 c with c|c
    ·exact⟨(j t c).1,λd m o=>Ey.2 (.inl ((j t c).2 d m o))⟩
    ·rw[lV]at c
     subst c;exact⟨i,λd m o=>Ey.2 (.inr ⟨o,d,m,rfl⟩)⟩
   ·rw[tE]
    exact⟨x,by simp,λz u A s=>by rw[lV]at s;rintro rfl;exact h.1 (s▸u)⟩
theorem apw(a:asg[aoO]?=T arN):asg.reverse[Z asg -1 -aoO]?=T arN:=by
 obtain⟨b,-⟩:=e6.1 a;rw[List.getElem?_reverse (by omega),show Z asg -1 -(Z asg -1 -aoO)=aoO by omega,a]
theorem aqd{out:List Nat}(e:Seq asg out arx arI):(∀a∈out,a<Z asg)->Seq asg.reverse (out.map λa=>Z asg -1 -a) arx (arI.map λa=>Z asg -1 -a):=by
 induction e with
 |nil=>exactλ_=>.nil _ _
 |cons out arx a o n f i j e l=>
  intro g;obtain⟨m,-⟩:=e6.1 f;have:=l λc b=>by
   rcases c5.1 b with b|b
   ·exact g c b
   ·simp at b;omega
  rw[ht]at this;refine .cons _ _ _ _ _ (apw f) (λh=>?_) j this;obtain⟨c,b,d⟩:=du.1 h;have d:Z asg -1 -c=Z asg -1 -a:=d;have:=g c b;exact i (by rwa[show a=c by omega])
theorem apR(b:(ord asg []).isSome=ab):(ord asg.reverse []).isSome=true:=by
 obtain⟨f,a⟩:=rM.1 b;have c:=aqd (BB a).1 (by simp);refine aoJ c (λe d=>?_) _ (by simp) vi (by simp);rw[List.length_reverse]at d;exact du.2 ⟨Z asg -1 -e,((PE a).2 _).1 (by omega),by omega⟩
variable{arK:k}
theorem aoG:∀(b:List Lit){a:List k},arK∈b.foldl mF a<->arK∈a\/∃l∈b,l.ak=1/\arK=l.bind/\arK≠[]
 |[],a=>by simp
 |l::b,a=>by
  rw[oJ,aoG b];unfold mF;by_cases c:l.ak=1
  ·simp only[c,BEq.rfl,if_true,Pw];grind
  ·simp only[beq_iff_eq,c,if_false];grind
theorem anP(a:uD ary=ab):uD (ael ary)=true:=by
 simp only[uD,bG]at a⊢;refine⟨⟨apR a.1.1,?_⟩,?_⟩
 ·rw[fi]at a⊢
  intro g e;have:=a.1.2 g e;simp only[known,kg,beq_iff_eq,decide_eq_true_eq,aes]at this⊢;simpa only[amu]using this
 ·have c:=a.2
  simp only[kg,decide_eq_true_eq]at c⊢;refine c.imp id λb=>?_;unfold ie at b⊢;rw[aoG]at b⊢;exact b.imp id λ⟨f,d,a⟩=>⟨f,amu.2 d,a⟩
structure amG(e x:aX):Prop where
 get:∀t,known e.ax t=ab->bW e t=bW x t
 aV:∀y∈e.m,jO e y=jO x y
def am1(e:aj)(d:List aw)(b:aX)(a:Lit):Prop:=
 (∀f∈a.ad,known b.ax f=ab)/\(if(a.ak==1||a.ak==3)=ab then∃c∈d,j9 e a c=ab/\c.ad=eG b a.ad/\(a.bind≠[]->a.bind∈b.m/\jO b a.bind=c.af)else pe e d b a=ab)
theorem anV(b:∀a∈asH,bW arz a=bW asa a):eG arz asH=eG asa asH:=
 rO λa c=>by rw[b a c]
theorem aoT(b:eG arz arN.ad=eG asa arN.ad)(c:¬(arN.ak==1||arN.ak==3)=ab):pe apO ark arz arN=pe apO ark asa arN:=by
 have a:¬arN.ak=1:=λarz=>by simp[arz]at c
 unfold pe;rw[if_neg a,if_neg a,b]
theorem aoA(f:Z arz.au=Z arz.m)(a:asa.m=arz.m++arx)(b:asa.au=arz.au++arV)(d:arK∈arz.m):jO asa arK=jO arz arK:=by
 unfold jO;rw[a,aem d,b];cases c:arz.m.findIdx? (λe=>e==arK)with
 |none=>rfl
 |some g=>
  have:=(nW.1 c).1;simp only[oM];rw[lU (by omega)]
theorem aoB(a:Z arz.au=Z arz.m)(c:arK∉arz.m):jO ⟨arz.ax,arz.bl,arz.m++[arK],arz.au++[art]⟩ arK=art:=by
 unfold jO;have:(arz.m++[arK]).findIdx? (λd=>d==arK)=T (Z arz.m):=by
  rw[TI,wK.2 (λe b=>by rw[beq_eq_false_iff_ne];rintro rfl;exact c b)];simp
 simp only[this,oM];rw[FH (by omega),a];simp
theorem am1.ext(h:td arz asa)(u:Z arz.bl=Z arz.ax)(t:Z arz.au=Z arz.m)(f:asa.m=arz.m++arx)(r:asa.au=arz.au++arV)(q:am1 apO ark arz arN):am1 apO ark asa arN:=by
 obtain⟨g,c⟩:=q;have a:eG asa arN.ad=eG arz arN.ad:=anV λd a=>h.get u (g d a);refine⟨λd a=>h.known (g d a),?_⟩;split at c
 ·rename_i b
  rw[if_pos b];obtain⟨i,j,l,n,o⟩:=c;refine⟨i,j,l,by rw[a,n],λs=>?_⟩;obtain⟨e,p⟩:=o s;exact⟨by rw[f];exact Tw _ e,by rw[aoA t f r e,p]⟩
 ·rename_i b
  rw[if_neg b,aoT a b];exact c
theorem aoz(b:arL∈asH):known (cH arx asH) arL=true:=by
 unfold known;by_cases a:arL.aB=[]
 ·simp[a]
 ·simp only[kg,decide_eq_true_eq]
  exact .inr (Ey.2 (.inr ⟨a,arL,b,rfl⟩))
theorem apl(f:Lit)(b:Z arz.bl=Z arz.ax):td arz (g7 arz f):=by
 have a:td arz arz:=⟨⟨[],by simp⟩,⟨[],by simp⟩,b⟩;have c:∀d e,td arz (fT arz d e):=λd e=>⟨⟨_,rfl⟩,⟨_,rfl⟩,by simp[fT,b]⟩;unfold g7;split
 ·split
  ·split
   ·exact c _ _
   ·split
    ·exact c _ _
    ·exact a
  ·exact a
 ·exact a
theorem apk(H:zl apO ary)(v:∀a∈ary.ae,wa ark a arq)(U:∀c∈ark,qx apO c)(w:ord ary.ae []=T arI):∀l∈fA apO ark ary,Z l.bl=Z l.ax/\∀a∈ary.ae,am1 apO ark l a:=by
 intro l K;rw[PI w]at K;obtain⟨ak,-⟩:=BB w;obtain⟨-,R⟩:=PE w;have key:=aer (M:=apO) v (λdone b=>tf apO ary done b/\∀i∈done,∀a,ary.ae[i]?=T a->am1 apO ark b a) (λdone a3 b t i a h X ac I J S P d=>?_) ak e0 rfl rfl (by simp[e0]) ⟨⟨rfl,rfl,by simp[e0]⟩,by simp⟩ l K
 ·rw[c3]at key
  refine⟨key.2.1,λa h=>?_⟩;obtain⟨i,E,rfl⟩:=jS.1 h;exact key.1.2 i ((R i).1 E) _ (bC E)
 ·obtain⟨o,Q⟩:=P
  have r:Z b.bl=Z b.ax:=by rw[J,I]
  have O:=o.step H U h r d;refine⟨O,?_⟩;have G:=sG h;have a0:td b t/\(∃n,t.m=b.m++n)/\(∃n,t.au=b.au++n)/\am1 apO ark t a:=by
   unfold e5 at d;split at d
   ·rename_i q
    obtain⟨c,p,d⟩:=yj.1 d;obtain⟨p,x⟩:=tF.1 p;obtain⟨e,aq,rfl⟩:=dg.1 d;obtain⟨w1,a4,s,B,a9,bb,a2,L⟩:=uN a.ad c.ad r aq;have V:=(v a G).len c p (by simp only[j9,bG,beq_iff_eq]at x;exact x.1);rw[<-V,dB]at L;have ar:td b (jq e a c.af):=⟨by rw[Pq];exact w1.ax,by rw[Ie];exact w1.bl,by rw[Ie,Pq];exact w1.len⟩;have k:eG (jq e a c.af) a.ad=eG e a.ad:=anV λA _=>by unfold bW;rw[Ie,Pq]
    refine⟨ar,?_,?_,λA k=>by rw[Pq];exact a2 A k,?_⟩
    ·unfold jq
     split
     ·exact⟨[],by simp[s]⟩
     ·exact⟨[a.bind],by simp[s]⟩
    ·unfold jq
     split
     ·exact⟨[],by simp[B]⟩
     ·exact⟨[c.af],by simp[B]⟩
    ·rw[if_pos q]
     refine⟨c,p,x,by rw[k];exact L,λC=>?_⟩;have Y:a.bind∉e.m:=λF=>by
      rw[s,o.m,yj]at F;obtain⟨y,g,f⟩:=F;split at f
      ·rename_i z j
       split at f
       ·cases f
       ·rename_i W
        exact X (H.one y i z a j h W C▸g)
      ·cases f
     have f:jq e a c.af=⟨e.ax,e.bl,e.m++[a.bind],e.au++[c.af]⟩:=by unfold jq;rw[if_neg C]
     rw[f];exact⟨by simp,aoB (by rw[B,s,o.len]) Y⟩
   ·rename_i q
    split at d
    ·rename_i ah
     rw[lV]at d;subst d;obtain⟨f,M⟩:=PK b a;have N:=(Ps (P:=a) I J S (v a G).uP).1;have u:=PH ac;unfold te at u;rw[if_neg q]at u;exact⟨apl a r,⟨[],by simp[f]⟩,⟨[],by simp[M]⟩,λA k=>by rw[N,u];exact aoz k,by rw[if_neg q];exact ah⟩
    ·cases d
  obtain⟨aB,⟨n,aL⟩,⟨e,aQ⟩,aU⟩:=a0;intro y g z j;rcases c5.1 g with g|g
  ·exact(Q y g z j).ext aB r o.len aL aQ
  ·rw[lV]at g
   subst g;rw[h]at j;cases j
   exact aU
theorem amG.put(g:amG arz asa)(d:Z arz.bl=Z arz.ax)(h:known arz.ax arL=aa)(j:bW asa arL=(asu,ab)):amG (fT arz arL asu) asa:=by
 have k:td arz (fT arz arL asu):=⟨⟨_,rfl⟩,⟨_,rfl⟩,by simp[fT,d]⟩;refine⟨λa i=>?_,g.aV⟩;by_cases c:known arz.ax a=ab
 ·rw[k.get d c];exact g.get a c
 ·have b:a.aB=arL.aB/\a.aB≠[]:=by
   simp only[known,fT,kg,beq_iff_eq,decide_eq_true_eq,c5,lV]at i c;grind
  have f:∀e:aX,bW e a=bW e arL:=λe=>by
   unfold bW;rw[if_neg b.2,if_neg (b.1▸b.2),b.1]
  rw[f,f,Ib d h,j]
theorem an4(a:known arz.ax arL=ab):bW arz arL=((bW arz arL).1,ab):=by
 rw[<-qy]at a;rw[<-a]
theorem aoo:∀(c:List aM)(vs:List aO){a b:aX},amG a b->Z a.bl=Z a.ax->(∀t∈c,known b.ax t=ab)->vs=eG b c->∃f,hU a c vs=T f/\amG f b
 |[],_,a,b,d,_,_,j=>by subst j;exact⟨a,rfl,d⟩
 |t::c,vs,a,b,d,h,g,j=>by
  subst j;show∃f,hU a (t::c) ((bW b t).1::eG b c)=T f/\amG f b;rw[hU];by_cases e:known a.ax t=ab
  ·rw[if_pos (by rw[qy];exact e),if_pos (by rw[d.get t e])]
   exact aoo c _ d h (λk i=>g k (by simp[i])) rfl
  ·rw[if_neg (by rw[qy];exact e)]
   rw[Kr]at e;exact aoo c _ (d.put h e (an4 (g t (by simp)))) (by simp[fT,h]) (λk i=>g k (by simp[i])) rfl
theorem apf(K:∀a∈asg,wa ark a arq)(Y:∀a∈asg,am1 apO ark arz a):∀{done:List Nat}{h:List k}{E:List Nat},Seq asg done h E->∀b,b.ax=h->Z b.bl=Z h->Z b.au=Z b.m->(∀ak∈b.bl,ak∈arq)->amG b arz->∃d∈kY apO ark asg E b,amG d arz:=by
 intro done h E q;induction q with
 |nil out h=>exactλb _ _ _ _ q=>⟨b,by simp[kY],q⟩
 |cons out h a3 i a J a2 M q ac=>
  intro b x y G H f;have B:=sG J;have s:Z b.bl=Z b.ax:=by rw[y,x]
  obtain⟨v,w⟩:=Y a B
  suffices n:∃d∈e5 apO ark b a,amG d arz/\Z d.au=Z d.m by
   obtain⟨d,O,aB,aL⟩:=n;have r:=(Ig (M:=apO) (K a B) x y H).1 d O;rw[PH M]at r;obtain⟨aQ,aU,a0⟩:=ac d r.1 r.2.1 aL r.2.2.2 aB;refine⟨aQ,?_,a0⟩;rw[kY,J];exact TJ.2 ⟨d,O,aU⟩
  unfold e5;split at w
  ·rename_i l
   rw[if_pos l];obtain⟨g,Q,R,S,U⟩:=w;obtain⟨e,w1,F⟩:=aoo a.ad g.ad f s v S;obtain⟨-,-,aq,ar,-⟩:=uN a.ad g.ad s w1;have t:Z e.au=Z e.m:=by rw[ar,aq,G]
   refine⟨jq e a g.af,yj.2 ⟨g,tF.2 ⟨Q,R⟩,by rw[nJ,w1]<;>rfl⟩,?_⟩;by_cases A:a.bind=[]
   ·have j:jq e a g.af=e:=by unfold jq;rw[if_pos A]
    rw[j];exact⟨F,t⟩
   ·have j:jq e a g.af=⟨e.ax,e.bl,e.m++[a.bind],e.au++[g.af]⟩:=by unfold jq;rw[if_neg A]
    rw[j];refine⟨⟨F.get,λd N=>?_⟩,by simp[t]⟩;by_cases u:d∈e.m
    ·rw[aoA t rfl rfl u];exact F.aV d u
    ·have:d=a.bind:=by simp only[c5,lV]at N;exact N.resolve_left u
     subst this;rw[aoB t u,(U A).2]
  ·rename_i l
   rw[if_neg l];have L:amG (g7 b a) arz:=by
    unfold g7;split
    ·rename_i o p I
     rw[I]at v;have ae:=v o (by simp);have ah:=v p (by simp);split
     ·rename_i z
      simp only[bG,beq_iff_eq]at z;have heq:(bW arz o).1=(bW arz p).1:=by
       have n:=w;unfold pe at n;rw[if_neg (by omega),if_neg (by omega),if_neg (by rw[z.1];decide),I,z.2]at n;have:l5 (bW arz o).1 (bW arz p).1=0:=by simpa[qv,eG]using n
       exact(TO.val.eq _ _).1 this
      split
      ·rename_i c
       simp only[bG,jt]at c;rw[qy,qy]at c;exact f.put s c.2 (by rw[f.get o c.1,heq];exact an4 ah)
      ·split
       ·rename_i c
        simp only[bG,jt]at c;rw[qy,qy]at c;exact f.put s c.2 (by rw[f.get p c.1,<-heq];exact an4 ae)
       ·exact f
     ·exact f
    ·exact f
   have W:∀i∈a.ad,known (g7 b a).ax i=true:=λi C=>by
    have V:=(Ps (P:=a) x y H (K a B).uP).1;have c:=PH M;unfold te at c;rw[if_neg l]at c;rw[V,c];exact aoz C
   have X:pe apO ark (g7 b a) a=true:=by
    rw[aoT (anV λi C=>L.get i (W i C)) l];exact w
   obtain⟨j,P⟩:=PK b a;exact⟨g7 b a,by rw[if_pos X];simp,L,by rw[j,P,G]⟩
theorem aoy(B:zl apO ary)(C:zl apO (ael ary))(o:uD ary=ab)(k:∀c∈ary.ae,wa ark c arq)(j:∀f∈ark,qx apO f):∀f∈tg apO ark ary,f∈tg apO ark (ael ary):=by
 intro f z;obtain⟨d,y,rfl⟩:=du.1 z;have p:=anP o;have q:=o;have r:=p;simp only[uD,bG]at q r;obtain⟨G,A⟩:=rM.1 q.1.1;obtain⟨H,n⟩:=rM.1 r.1.1;have E:=(apk B k j A d y).2;have l:∀c∈(ael ary).ae,wa ark c arq:=λc h=>k c (amu.1 h);obtain⟨a,F,u⟩:=apf l (λc h=>E c (amu.1 h)) (BB n).1 e0 rfl rfl rfl (by simp[e0]) ⟨λg i=>by
  have:g.aB=[]:=by simpa[known,e0]using i
  unfold bW;rw[if_pos this,if_pos this],by simp[e0]⟩
 have t:a∈fA apO ark (ael ary):=by rw[PI n];exact F
 have s:=Ii C p l j a t;refine du.2 ⟨a,t,?_⟩;have v:eG a ary.ad=eG d ary.ad:=anV λg i=>u.get g (s.ax g i);have w:nI apO ary a=nI apO ary d:=by
  unfold nI;by_cases e:ary.af.ak=2\/ary.af.ak=3
  ·have x:jO a ary.af.aB=jO d ary.af.aB:=u.aV _ (s.m e)
   rw[x]
  ·rw[if_neg (λb=>e (.inl b)),if_neg (λb=>e (.inr b)),if_neg (λb=>e (.inl b)),if_neg (λb=>e (.inr b))]
 show(⟨ary.aq,eG a ary.ad,nI apO ary a⟩:aw)=⟨ary.aq,eG d ary.ad,nI apO ary d⟩;rw[v,w]
variable{arw:List arf}
section
variable{p:aj}{L:List aG}
theorem aoP{f:aG}(a:zl p f):zl (ae6 p L) (ael f):=
 ⟨λb e=>(λa=>⟨a.ak,a.cmp,a.aq,a.gN,a.bind⟩) (a.lits b (amu.1 e)),λm n b j c d e l=>by
  have c:f.ae.reverse[m]?=T b:=c;have d:f.ae.reverse[n]?=T j:=d;obtain⟨g,-⟩:=e6.1 c;obtain⟨h,-⟩:=e6.1 d;rw[List.length_reverse]at g h;rw[List.getElem?_reverse g]at c;rw[List.getElem?_reverse h]at d;have:=a.one _ _ b j c d e l;omega,a.head,a.none,a.const,λi=>⟨(a.aB i).1,by obtain⟨b,e,k⟩:=(a.aB i).2;exact⟨b,amu.2 e,k⟩⟩,a.fn,a.kinds⟩
theorem anK{a:aG}:arK∈e7 a<->arK≠[]/\((∃c∈a.ae,∃b∈c.ad,b.aB=arK)\/∃b∈a.ad,b.aB=arK):=by
 rw[e7,Ih];simp only[iW,false_or,c5,du,lV];grind
theorem an1:∀(b:List (List aM)){c:List k},c.Nodup->(b.foldl cH c).Nodup
 |[],_,a=>a
 |l::b,_,a=>an1 b (Px l a)
theorem aoL(b:aG):Z (e7 (ael b))=Z (e7 b):=by
 have d:∀a,a∈e7 (ael b)<->a∈e7 b:=λa=>by
  rw[anK,anK];simp only[amu];rfl
 exact akE (BA (an1 _ vi) λa c=>(d a).1 c) (BA (an1 _ vi) λa c=>(d a).2 c)
theorem aoK(g:amz p L)(a:ti p arq):ti (ae6 p L) arq:=by
 refine⟨a.aV,a.aet,λf e=>?_,λf e=>?_,λf e=>?_,by have:=g.len;show Z L<=20;omega,a.d,λf e=>?_⟩<;>obtain⟨c,b,rfl⟩:=g.sub f e
 ·exact aoP (a.hG c b)
 ·exact anP (a.safe c b)
 ·exact⟨(a.uP c b).1,λi h=>(a.uP c b).2 i (amu.1 h)⟩
 ·rw[aoL];exact a.q3 c b
theorem an2(a:dq p arq ark):dq (ae6 p L) arq ark:=
 ⟨a.fz,λb c=>⟨(a.ok b c).fJ,(a.ok b c).fB,(a.ok b c).af,(a.ok b c).none⟩⟩
theorem aqk(k:amz p L)(c:ti p arq)(b:dq p arq ark):nK (ae6 p L) arV ark=nK p arV ark:=by
 have q:=aoK k c;have m:dq (ae6 p L) arq ark:=an2 b;have i:=(EC q m arV).1;have w:=(EC c b arV).1;have v:dq p arq (nK (ae6 p L) arV ark):=⟨i.fz,λa b=>⟨(i.ok a b).fJ,(i.ok a b).fB,(i.ok a b).af,(i.ok a b).none⟩⟩;have t:∀a∈ark,qx p a:=λa e=>(b.ok a e).af;have u:∀d∈p.ah,zl p (ael d):=λd g=>by
  have:=aoP (L:=L) (c.hG d g);exact⟨λr o=>(λe=>⟨e.ak,e.cmp,e.aq,e.gN,e.bind⟩) (this.lits r o),this.one,this.head,this.none,this.const,this.aB,this.fn,this.kinds⟩
 refine an7 c.aV v w ?_ ?_
 ·refine anS (apO:=ae6 p L) q m (an2 w) λh f n a l=>?_
  obtain⟨d,g,rfl⟩:=k.sub h f;have j:a∈tg p ark (ael d):=l;have s:=aoy (u d g) (by rw[aoN];exact c.hG d g) (anP (c.safe d g)) (λr o=>b.meet c g r (amu.1 o)) t a j;rw[aoN]at s;exact anl c b d g n a s
 ·refine anS c b v λh f n a l=>?_
  have j:=aoy (c.hG h f) (u h f) (c.safe h f) (b.meet c f) t a l;exact anl (apO:=ae6 p L) q m (ael h) (k.sup h f) n a j
theorem anM(a:amz p L)(c:ti p arq)(b:dq p arq ark):iG (ae6 p L) arV ark=iG p arV ark:=by
 show jm p ark (nK (ae6 p L) arV ark)=_;rw[aqk a c b];rfl
theorem aoQ(d:amz p L)(c:ti p arq)(a:sn p arV aoO ark asP):dq p arq ark->sn (ae6 p L) arV aoO ark asP:=by
 induction a with
 |over aoO ark a=>exactλb=>.over _ _ (by rw[anM d c b];exact a)
 |stop aoO ark a e=>exactλb=>.stop _ _ (by rw[anM d c b];exact a) (by rw[anM d c b];exact e)
 |next aoO ark asP a e h g=>
  intro b;have f:=anM d c (arV:=arV) b;exact .next _ _ _ (by rw[f];exact a) (by rw[f];exact e) (by rw[f];exact g (Il c b arV).1)
theorem aqa(f:amz p L)(d:ti p arq){b:List (List Int)}(a:ra p b ark asP):dq p arq ark->ra (ae6 p L) b ark asP:=by
 induction a with
 |nil ark=>exactλ_=>.nil _
 |none g b e ark a=>exactλc=>.none _ _ e _ (aoQ f d a c)
 |cons g b e ark gs asP a i h=>exactλc=>.cons _ _ e _ _ _ (aoQ f d a c) (h (am4 d a c gs rfl).1)
theorem aov(g:amz p L):iF (ae6 p L)=iF p:=by
 have h:sd (ae6 p L)=sd p:=by
  funext k l
  rw[hY,amW,amW];have key:∀b:Edge,b∈kv (ae6 p L)<->b∈kv p:=λb=>by
   rw[am3,am3];constructor
   ·rintro⟨a,e,f,d,c,rfl⟩
    obtain⟨j,i,rfl⟩:=g.sub a e;exact⟨j,i,f,amu.1 d,c,rfl⟩
   ·rintro⟨a,e,f,d,c,rfl⟩
    exact⟨ael a,g.sup a e,f,amu.2 d,c,rfl⟩
  simp only[key]
 unfold iF;rw[h];rfl
theorem apd(a:amz p L):xV (ae6 p L)=xV p:=by
 unfold xV;rw[aov a];rfl
theorem aql(g:amz p L)(i:se p=[]):se (ae6 p L)=[]:=by
 have m:=aoh i;have j:∀a∈L,∀c∈a.ae,kX (ae6 p L) a c=false:=λa l c k=>by
  obtain⟨q,n,rfl⟩:=g.sub a l;have:=m q n c (amu.1 k);unfold kX HW at this⊢;rw[aov g];exact this
 have key:∀(b:List aG)(d:List (Int×Int)),(∀a∈b,∀c∈a.ae,kX (ae6 p L) a c=aa)->b.foldl (qu (ae6 p L)) d=d:=by
  intro b;induction b with
  |nil=>exactλ_ _=>rfl
  |cons a b o=>
   intro d h;have:a.ae.find? (kX (ae6 p L) a)=none:=by
    rw[FF];exactλf e=>by rw[h a (by simp) f e];simp
   rw[oJ,qu,this];exact o d λf e=>h f (by simp[e])
 exact key _ _ j
theorem aqp(f:amz p L)(e:nA p=[]):nA (ae6 p L)=[]:=by
 have h:=(SU e).2;have key:∀(a:List aG)(c:List (Int×Int)),(∀b∈a,uD b=ab)->a.foldl q4 c=c:=by
  intro a;induction a with
  |nil=>exactλ_ _=>rfl
  |cons b a k=>
   intro c d;rw[oJ,q4,if_pos (d b (by simp))];exact k c λm j=>d m (by simp[j])
 exact key _ _ λb g=>by
  obtain⟨l,i,rfl⟩:=f.sub b g;exact anP (h l i)
theorem anp{d:aj}{e:aG}:∀(b:List Lit){c:Bool},lO d e b c=lO d e (b.filter λl=> !(l.bind==[])) c
 |[],c=>rfl
 |l::b,c=>by
  by_cases a:l.bind=[]
  ·rw[List.filter_cons_of_neg (by simp[a]),lO,if_pos a]
   exact anp b
  ·rw[List.filter_cons_of_pos (by simpa using a),lO,lO,if_neg a,if_neg a,anp b]
theorem ao9{h:aj}{j:aG}{g:Bool}(d:lO h j asg apN=T g):Z (asg.filter λb=> !(b.bind==[]))<=1:=by
 rw[anp]at d;have e:∀b∈asg.filter λb=> !(b.bind==[]),b.bind≠[]:=λb i=>by simpa using(tF.1 i).2
 generalize asg.filter (λb=> !(b.bind==[]))=f at*
 match f with
 |[]=>simp
 |[_]=>simp
 |a::c::f=>
  have:=(JS d).2.1 0 1 a c rfl rfl (e a (by simp)) (e c (by simp));omega
theorem apZ(a:Z arw<=1):arw.reverse=arw:=by
 match arw with
 |[]=>rfl
 |[_]=>rfl
theorem anY{d:aj}{b:aG}:∀(a:List Lit){c:Bool},lO d (ael b) a c=lO d b a c
 |[],_=>rfl
 |l::a,c=>by
  have e:S (l.bind∈e7 (ael b))=S (l.bind∈e7 b):=by
   rw[decide_eq_decide,anK,anK];simp only[amu];rfl
  rw[lO,lO,anY a,anY a,e];rfl
theorem apa{c:aj}{a:aG}(b:rk c a=ab):rk c (ael a)=true:=by
 unfold rk at b⊢;split at b
 ·cases b
 ·rename_i e d
  have f:lO c (ael a) (ael a).ae aa=T e:=by
   have g:(ael a).ae=a.ae.reverse:=rfl;rw[anY,g,anp,List.filter_reverse,apZ (ao9 d),<-anp];exact d
  rw[f];exact b
theorem ap1(a:aG):l6 (ael a)=l6 a:=by
 unfold l6 ek;show(_&&(S ((Z a.ae.reverse:Int)<=8)&&a.ae.reverse.all mC))=_;rw[List.length_reverse,List.all_reverse];rfl
theorem aoM(a:aj)(b:aG):eH a (ael b)=ael (eH a b):=by
 unfold eH ael;simp only[List.map_reverse];rfl
theorem aqn{f:aj}{c:aG}(j:wk f c):wk f (ael c):=by
 refine kD.mono (λk h=>?_) j;have g:∀a,a∈(ael c).ae.take (Z (ael c).ae)->a∈c.ae.take (Z c.ae):=λa b=>by
  rw[dB]at b⊢;exact amu.1 b
 simp only[we,wi,wj,c5,du,zR]at h⊢;rcases h with⟨e,d|⟨i,⟨a,b,rfl⟩,d⟩,rfl⟩|⟨e,⟨i,⟨a,b,rfl⟩,d⟩,rfl⟩
 ·exact .inl ⟨e,.inl d,rfl⟩
 ·exact .inl ⟨e,.inr ⟨_,⟨a,g a b,rfl⟩,d⟩,rfl⟩
 ·exact .inr ⟨e,⟨_,⟨a,g a b,rfl⟩,d⟩,rfl⟩
theorem ap2{a:aj}{b:aG}(c:ka a b):ka a (ael b):=by
 obtain⟨d,e,f,g,h⟩:=c;refine⟨d,?_,?_⟩
 ·show b.ae.reverse.all (gH a)=ab
  rw[List.all_reverse];exact e
 ·rw[aoM]
  exact⟨by rw[aoL];exact f,aqn g,apa h⟩
theorem aqq(f:amz p L)(n:nN p):nN (ae6 p L):=by
 obtain⟨g,o,q,h⟩:=n;refine⟨?_,o,λc a=>?_,?_⟩
 ·have:=f.len
  simp only[p8,ek,bG,decide_eq_true_eq,fi]at g⊢;refine⟨g.1,by show(Z L:Int)<=40;omega,λc a=>?_⟩;obtain⟨e,b,rfl⟩:=f.sub c a;rw[ap1];exact g.2.2 e b
 ·obtain⟨e,b,rfl⟩:=f.sub c a
  exact ap2 (q e b)
 ·have i:p.aW=p.aW.map (eQ p):=congrArg aj.aW h
  have j:p.d=p.d.map (en p):=congrArg aj.d h;have k:=JR (congrArg aj.ah h);have l:L.map (eH (dT p []))=L:=by
   conv=>rhs;rw[<-List.map_id L]
   refine rO λc a=>?_;obtain⟨e,b,rfl⟩:=f.sub c a;rw[aoM,k e b]<;>rfl
  show ae6 p L=⟨p.m,p.aW.map (eQ p),p.d.map (en p),L.map (eH (dT p []))⟩;rw[l,<-i,<-j];rfl
theorem aoZ{a:aG}(b:j6 a):j6 (ael a):=by
 obtain⟨c,d,e,f⟩:=b;refine⟨by show Z a.ae.reverse<=100;rw[List.length_reverse];exact c,?_,e,λh g=>f h (amu.1 g)⟩;show Z (a.ae.reverse.map Lit.ad).flatten<=1000;rw[List.map_reverse,List.length_flatten,List.map_reverse,List.sum_reverse,<-List.length_flatten];exact d
theorem aqf{b:aG}(a:oh b):oh (ael b):=by
 refine⟨a.1,?_,λd c=>a.2.2 d (amu.1 c)⟩;unfold Sm;show Z b.ae.reverse<_;rw[List.length_reverse];exact a.2.1
theorem aoU(b:amz p L)(a:dW p):dW (ae6 p L):=
 ⟨a.m,a.aV,a.aW,a.fn,a.d,a.q0,by have:=b.len;show Sm L;unfold Sm;omega,λf c=>by obtain⟨g,e,rfl⟩:=b.sub f c;exact aqf (a.hG g e)⟩
theorem apJ(b:amz p L)(a:mK p arq):mK (ae6 p L) arq:=by
 refine⟨aoK b a.v,aoU b a.uT,a.BC,a.zo,λe c=>?_,λe c h g=>?_,a.bb⟩<;>obtain⟨f,d,rfl⟩:=b.sub e c
 ·exact aoZ (a.tq f d)
 ·exact a.aeG f d h (amu.1 g)
end
variable{arl:l}{arW asE:Code}{ari:AS}{asT:AS -> Prop}{asG:eN -> AS -> Prop}
section
variable{P:Program}{G:Nat->Option (List AV)}
def l.frz(a:l):l:={w:=a.w,S:=λc b=>a.S c b\/∃id d,a.h id=T (b,d),h:=λ_=>D,bx:=a.bx,H:=[]}
theorem apv{E0:l}(f:E0.H=[])(m:Good E0)(d:Fr E0 arl)(g:Good arl):Fr E0 arl.frz/\Good arl.frz/\CO True arl arl.frz:=by
 refine⟨⟨d.os,d.output,d.tape,d.size,λe a h=>.inl (d.pW e a h),λe a h=>?_,d.heap,by rw[f];exact Nat.zero_le _,λid t dX=>by rw[f]at dX;exact absurd dX (J8 _),(λid a c b=>by cases b),d.rW⟩,?_,⟨rfl,λe a _ h=>.inl h,λid a c b=>.inr ⟨id,c,b⟩⟩⟩
 ·rcases h with h|⟨id,c,b⟩
  ·exact d.pX e a h
  ·rcases d.oR id a c b with⟨i,j,k⟩|h
   ·have:=(m.dX i a j k).2.2
    rw[f]at this;exact absurd this (J8 _)
   ·exact .inr h
 ·exact{
   jL:=λe a h=>h.imp (g.jL e a) id
   jy:=λa h=>by
    rcases h with h|⟨id,c,b⟩
    ·exact g.jy a h
    ·exact(g.dX id a c b).1
   dX:=λid a c b=>by cases b
   kL:=λi r a c j b=>by cases b
   blt:=λq a b=>by
    obtain⟨n,o,p⟩:=g.blt q a b;refine⟨n,λh=>?_,λid c b=>by cases b⟩;rcases h with h|⟨id,c,b⟩
    ·exact o h
    ·exact p id c b
   nf:=g.nf
   iw:=λid s h=>by cases h}
theorem dP.aqb(S:ari.hp=[])(J:dP P G arW ari λe a=>e=.norm/\asT a)
 (K:∀a,asT a->∃g:AS,g.hp=[]/\(∀c j,look c g.env=T j->∃h,look c a.env=T h/\(h=j/\(∃q e,h=.lp q e)\/aI a.hp .res h j))/\(∀c k,look c g.bx=T k->∃l,look c a.bx=T l/\bR a.hp .res l k)/\dP P G asE g asG):dP P G (.seq arW asE) ari asG:=λy ad m u v=>by
 simp only[gk,bG]at v;refine wp_seq (wp_mono (J.wp m u v.1) ?_);rintro A r w1 ⟨e,a,⟨rfl,Y⟩,rfl,n,rfl,d,H,U,Q⟩;obtain⟨g,B,E,C,o⟩:=K a Y;obtain⟨t,I,c⟩:=apv (m.hp▸S) m.b1 H d.b1;have Z:St n.frz g r.tmps:=⟨I,B,λf j V=>by
  obtain⟨h,w,b⟩:=E f j V;rw[d.hp]at b;rcases b with⟨rfl,q,e,rfl⟩|b
  ·rcases d.env f _ w with i|i
   ·cases i
   ·exact .inr i
  rcases d.env f h w with i|⟨q,off,s,rfl,-,-⟩
  ·exact .inl (aI.ng d.b1 c b rfl (.inl trivial) i)
  ·cases b
   exact .inl (.undef _),λf k R=>by
  obtain⟨l,O,b⟩:=C f k R;rw[d.hp]at b;obtain⟨s,vs,F,L,o,M,N⟩:=d.bx f l O;exact⟨s,vs,F,L,o,bR.ng d.b1 c b rfl (.inl trivial) M,N⟩⟩
 have W:=o.wp (L:=n.frz) Z (u.mono t m.b1) (by grind);refine wp_mono W ?_;rintro A z ac ⟨e,x,X,rfl,p⟩;have p:mu n.frz x r z ac:=p;cases e<;>exact⟨_,x,X,rfl,p.trans t U Q⟩
end
def F9a(C:eD)(e f t:AV)(a:List Obj)(j:WS->Prop)(k:AV->List Obj->Prop):Prop:=
 bd (iD 4 e) λb=>
 cp C 12 [] a λh=>
 bd (dw 3 b a) λu=>
 bd (aR 1 aa u a) λv=>
 bd (fX .sl v a) λi=>
 jn (λk8N=>
 bd (aR 4 ab b a) λm=>
 cp C 31 [m,f] a λn=>
 bd (ml .not n) λo=>
 gd o aa (
 bd (aS .s .eql i (I 0)) λp=>
 k8N [p] a) (
 k8N [tt] a)) λl d=>
 dY (g l 0) (
 k (AV.pl h) d) (
 bd (aR 4 ab b d) λq=>
 bd (dh 4 q) λc=>
 bd (lX .ai) λr=>
 j ⟨[(0,(.av e)),(1,(.av f)),(2,(.av t)),(3,(.av b)),(6,(.av ff)),(7,(.av h)),(8,(.av i)),(9,(.lp 9 0))],[(9,[(g c 0),(g c 1),(g c 2),r])],d⟩)
def F9b(C:eD)(n y h i ak ax f aB aL o p:AV)(k:List Obj)(j:WS->Prop):Prop:=
 iC (λb c Jg=>
 bd (aS .s .leq (g b 0) f) λq=>
 dY q (
 bd (dw 3 i c) λr=>
 bd (aR 1 aa r c) λt=>
 bd (jM (.int .i64) h) λu=>
 bd (aS .s .add (g b 0) u) λv=>
 bd (aS .s .rem v f) λw=>
 bd (bY 9 t w c) λx=>
 bd (aR 9 ab x c) λz=>
 bd (dh 9 z) λe=>
 bd (lX .ai) λA=>
 bd (dw 3 i c) λB=>
 bd (aR 1 aa B c) λE=>
 bd (jM (.int .i64) h) λF=>
 bd (aS .s .add (g b 0) F) λG=>
 bd (aS .s .rem G f) λH=>
 bd (bY 9 E H c) λJ=>
 bd (dw 7 J c) λK=>
 bd (aR 1 aa K c) λL=>
 bd (fX .sl L c) λM=>
 bd (aS .s .sub M (I 1)) λN=>
 iC (λa d xL=>
 bd (aS .s .geq (g a 0) (I 0)) λO=>
 dY O (
 bd (dw 3 i d) λP=>
 bd (aR 1 aa P d) λQ=>
 bd (jM (.int .i64) h) λR=>
 bd (aS .s .add (g b 0) R) λS=>
 bd (aS .s .rem S f) λU=>
 bd (bY 9 Q U d) λV=>
 bd (dw 7 V d) λW=>
 bd (aR 1 aa W d) λX=>
 bd (bY 9 X (g a 0) d) λY=>
 bd (aR 9 ab Y d) λZ=>
 bd (fw 9 [(I 0),(.str []),(I 0),.ai,(.str []),(.str []),(I 0),(I 0),(I 0)] 1 [(0,Z)]) λac=>
 cc (cx 9 112 (g a 12) ac d) λad l=>
 bd (lX ad) λae=>
 bd (aS .s .sub (g a 0) (I 1)) λaf=>
 xL [af,(g a 1),(g a 2),(g a 3),(g a 4),(g a 5),(g a 6),(g a 7),(g a 8),(g a 9),(g a 10),(g a 11),ae,(g a 13)] l) (
 bd (fw 9 [(.str []),(I 0),.ai,(I 0),(.str []),(.str []),(I 0),.ai,(I 0)] 1 [(0,(.agg [(g a 5),(g a 6),(g a 7),(g a 8),(g a 9),(g a 10),(g a 11),(g a 12),(g a 13)]))]) λah=>
 cc (cx 9 128 (g a 4) ah d) λaq m=>
 bd (lX aq) λar=>
 bd (aS .s .add (g b 0) (I 1)) λau=>
 Jg [au,(g a 1),(g a 2),(g a 3),ar] m)) [N,(g b 1),(g b 2),(g b 3),(g b 4),(g e 0),(g e 1),(g e 2),(g e 3),(g e 4),(g e 5),(g e 6),A,(g e 8)] c) (
 j ⟨[(0,(.av n)),(1,(.av y)),(2,(.av h)),(3,(.av i)),(6,(.av ak)),(7,(.av ax)),(8,(.av f)),(9,(.lp 9 0)),(10,(.av (g b 0)))],[(9,[(g b 1),(g b 2),(g b 3),(g b 4)])],c⟩)) [(I 0),aB,aL,o,p] k
def F9c(C:eD)(x j y v z w A B e b c d:AV)(a:List Obj)(k:AV->List Obj->Prop):Prop:=
 bd (aR 4 ab v a) λn=>
 cp C 23 [n,j] a λh=>
 bd (ef 0 h) λo=>
 bd (ef 1 h) λp=>
 cp C 23 [(.agg [e,b,c,d]),j] a λi=>
 bd (ef 0 i) λq=>
 bd (ef 1 i) λr=>
 jn (λf=>
 gd w ab (
 bd (aS .s .eql p r) λt=>
 gd t ab (
 cp C 16 [o,q] a λu=>
 f [u,e,b,c,d] a) (
 f [ff,e,b,c,d] a)) (
 f [ff,e,b,c,d] a)) λl m=>
 k (AV.pl (g l 0)) m
def a9N:bQ:=⟨[0,1,2,3,6,7,8,9,10,11,12,13,14,15,16,28,34,62],[28,34,62],[9,11],[],[],[]⟩
def nrN(R b:WS->Prop):eN->WS->Prop:=λc a=>match c with|.norm=>b a|.ret=>R a|_=>False
def R9N(a:AV->List Obj->Prop)(b:WS):Prop:=AF a1 (bU Tryz.f9.results) b a
variable{ars:AV}{apF:List Obj}{ash:WS -> Prop}{asb:AV -> List Obj -> Prop}
theorem w9a{C:eD}:F9a C apE apQ ars apF ash asb=h7 a1 G0 C a9N (qV []) (cL (Tryz.f9.body.getD .skip)) {env:=nh 0 [apE,apQ,ars],bx:=[],hp:=apF} (nrN (R9N asb) λa=>h7 a1 G0 C a9N (qV []) (cL (cR (Tryz.f9.body.getD .skip))) a (nrN (R9N asb) λa=>h7 a1 G0 C a9N (qV []) (cL (cR (cR (Tryz.f9.body.getD .skip)))) a (nrN (R9N asb) λa=>h7 a1 G0 C a9N (qV []) (cL (cR (cR (cR (Tryz.f9.body.getD .skip))))) a (nrN (R9N asb) λa=>h7 a1 G0 C a9N (qV []) (cL (cR (cR (cR (cR (Tryz.f9.body.getD .skip)))))) a (nrN (R9N asb) λa=>h7 a1 G0 C a9N (qV []) (cL (cR (cR (cR (cR (cR (Tryz.f9.body.getD .skip))))))) a (nrN (R9N asb) ash)))))):=by kernel_rfl
variable{arX asq ata as6:AV}
theorem w9b{C:eD}{c d a b:AV}:F9b C apE apQ ars arX asq ata as6 c d a b apF ash=h7 a1 G0 C a9N (qV []) (cL (cR (cR (cR (cR (cR (cR (Tryz.f9.body.getD .skip)))))))) ⟨[(0,(.av apE)),(1,(.av apQ)),(2,(.av ars)),(3,(.av arX)),(6,(.av asq)),(7,(.av ata)),(8,(.av as6)),(9,(.lp 9 0))],[(9,[c,d,a,b])],apF⟩ (nq ash):=by kernel_rfl
theorem w9c{C:eD}{d e a b c:AV}:F9c C apE apQ ars arX asq ata as6 d e a b c apF asb=h7 a1 G0 C a9N (qV []) (cR (cR (cR (cR (cR (cR (cR (Tryz.f9.body.getD .skip)))))))) ⟨[(0,(.av apE)),(1,(.av apQ)),(2,(.av ars)),(3,(.av arX)),(6,(.av asq)),(7,(.av ata)),(8,(.av as6)),(9,(.lp 9 0)),(10,(.av d))],[(9,[e,a,b,c])],apF⟩ (λg f=>match g with|.exit _=>False|_=>AF a1 (bU Tryz.f9.results) f asb):=by kernel_rfl
theorem apb(c:0<arh):aS .s .rem (I (aoO:Int)) (I (arh:Int))=T (I ((aoO%arh:Nat):Int)):=by
 have a:(aoO:Int).tmod arh=((aoO%arh:Nat):Int):=(Int.ofNat_tmod aoO arh).symm;have b:(arh:Int)≠0:=by omega
 simp only[aS,if_true,jv,if_neg b,a]
def bdV(id:Nat)(a:List arf):AV:=if Z a=0 then .ai else .q id (Z a -1) 0 (Z a)
variable{arC:arf -> List AV}{ar7:arf}
theorem apB(c:Z (arC ar7)=aoO)(a:(Z arw+1)*arh<=2^47)(b:asb (bdV (Z apF) (arw++[ar7])) (mJ apF aoO arC (arw++[ar7]))):cc (cx aoO arh (bdV (Z apF) arw) (.sl aa [arC ar7]) (mJ apF aoO arC arw)) asb:=by
 by_cases d:Z arw=0
 ·have:arw=[]:=by grind
  subst this;refine bj ?_ b;simp only[de,aJ,Nat.one_mul]at a;simp[bdV,mJ,cx,hQ,AV.isNil,c,a]
 ·refine bj ?_ b
  have e:(apF++[Obj.arr (Z arw -1) aoO (arw.map arC)])[Z apF]?=T (.arr (Z arw -1) aoO (arw.map arC)):=by simp
  grind[bdV,mJ,cx,hQ,AV.isNil]
def cMr(a:aG×AV):List AV:=[.str a.1.ar,I a.1.aq,eS aa cT a.1.ad,I a.1.af.ak,.str a.1.af.ar,.str a.1.af.aB,I a.1.af.aQ,a.2,I a.1.bf]
def anB(id:Nat)(e:List Obj)(d:AV)(b:List Lit):Prop:=(b=[]/\d=.ai)\/∃a c,a≠id/\d=.q a c 0 (Z b)/\e[a]?=T (.arr c 9 (b.map (a5 aa)))
structure amK(H:List Obj)(v:AV)(L:List (aG×AV)):Prop where
 at':(L=[]/\v=.ai)\/∃id gg,v=.q id gg 0 (Z L)/\H[id]?=T (.arr gg 9 (L.map cMr))/\∀x∈L,anB id H x.2 x.1.ae
theorem anB.res{id:Nat}(a:anB id apF apE asg):aI apF .res apE (eS aa (a5 aa) asg):=by
 rcases a with⟨rfl,rfl⟩|⟨c,b,-,rfl,a⟩
 ·exact .ai _ _
 ·exact fx a (by simp)
theorem aqh{a:aG×AV}(b:aI apF .res a.2 (eS aa (a5 aa) a.1.ae)):bR apF .res (cMr a) (aP aa a.1):=
 .cons _ _ _ _ _ (.str _ _) (.cons _ _ _ _ _ (.int _ _ _) (.cons _ _ _ _ _ (Im.snap (by simp)) (.cons _ _ _ _ _ (.int _ _ _) (.cons _ _ _ _ _ (.str _ _) (.cons _ _ _ _ _ (.str _ _) (.cons _ _ _ _ _ (.int _ _ _) (.cons _ _ _ _ _ b (.cons _ _ _ _ _ (.int _ _ _) (.nil _)))))))))
theorem aoV:∀{a:List (aG×AV)},(∀x∈a,aI apF .res x.2 (eS aa (a5 aa) x.1.ae))->eX apF .res (a.map cMr) ((a.map Prod.fst).map (aP aa))
 |[],_=>.nil _
 |x::a,b=>.cons _ _ _ _ _ (aqh (b x (by simp))) (aoV λd c=>b d (by simp[c]))
theorem amK.res{a:List (aG×AV)}(c:amK apF apE a):aI apF .res apE (eS aa (aP aa) (a.map Prod.fst)):=by
 rcases c.at' with⟨rfl,rfl⟩|⟨id,b,rfl,d,e⟩
 ·exact .ai _ _
 ·refine .na id b 0 _ 9 _ _ d (by simp) ?_
  rw[jR,fW (by simp)];exact aoV λg f=>(e g f).res
theorem amK.pl{a:List (aG×AV)}(b:amK apF apE a):lX apE=T apE:=by
 rcases b.at' with⟨-,rfl⟩|⟨id,c,rfl,-⟩<;>rfl
theorem amK.app{b:List (aG×AV)}(j:amK apF apE b)(a:aG)(F:Z b<=1000000)(p:∀r e,amK e r (b++[(a,bdV (Z apF) a.ae)])->asb r e):
 cc (cx 9 128 apE (.sl aa [cMr (a,bdV (Z apF) a.ae)]) (mJ apF 9 (a5 aa) a.ae)) asb:=by
 have n:∀id e,id≠Z apF->e[Z apF]?=(mJ apF 9 (a5 aa) a.ae)[Z apF]?->anB id e (bdV (Z apF) a.ae) a.ae:=λid e E v=>by
  by_cases f:Z a.ae=0
  ·have:a.ae=[]:=wF f
   exact .inl ⟨this,by simp[bdV,this]⟩
  ·refine .inr ⟨Z apF,Z a.ae -1,Kb E,by simp[bdV,f],?_⟩
   rw[v];simp[mJ,f]
 rcases j.at' with⟨rfl,rfl⟩|⟨id,h,rfl,l,x⟩
 ·refine bj (dD:=.q (Z (mJ apF 9 (a5 aa) a.ae)) 0 0 1) (b:=mJ apF 9 (a5 aa) a.ae++[.arr 0 9 [cMr (a,bdV (Z apF) a.ae)]]) ?_ (p _ _ ⟨.inr ⟨_,0,rfl,by simp,λs c=>?_⟩⟩)
  ·simp[cx,hQ,AV.isNil,cMr]
  ·rw[c3,lV]at c
   subst c;by_cases f:Z a.ae=0
   ·have:a.ae=[]:=wF f
    exact .inl ⟨this,by simp[bdV,this]⟩
   ·have g:Z (mJ apF 9 (a5 aa) a.ae)=Z apF+1:=by simp[mJ,f]
    refine n _ _ (by rw[g];omega) ?_;rw[lU (by rw[g];omega)]
 ·have C:=(e6.1 l).1
  have o:∀d,d<Z apF->(mJ apF 9 (a5 aa) a.ae)[d]?=apF[d]?:=λd i=>aeS i;have m:=l;rw[<-o id C]at m;refine bj (dD:=.q id (h+1) 0 (Z b+1)) (b:=(mJ apF 9 (a5 aa) a.ae).set id (.arr (h+1) 9 (b.map cMr++[cMr (a,bdV (Z apF) a.ae)]))) ?_ (p _ _ ⟨.inr ⟨id,h+1,by simp,?_,λs c=>?_⟩⟩)
  ·have c:hQ (mJ apF 9 (a5 aa) a.ae) 9 (.sl aa [cMr (a,bdV (Z apF) a.ae)])=T [cMr (a,bdV (Z apF) a.ae)]:=by simp[hQ,cMr]
   have y:Z b<=Z (b.map cMr):=by simp
   have z:(Z b+Z [cMr (a,bdV (Z apF) a.ae)])*128<=2^47:=by simp only[gz];omega
   have A:(AV.q id h 0 (Z b)).isNil=false:=rfl;have B:(b.map cMr).take (Z b)=b.map cMr:=fW (by simp);simp only[cx,c,A,cZ,if_false,m];rw[if_pos ⟨trivial,y,trivial,z⟩,B];rfl
  ·rw[wL (by unfold mJ;split<;>(try simp)<;>omega)]
   simp
  ·rcases c5.1 c with c|c
   ·rcases x s c with j|⟨d,w,i,g,k⟩
    ·exact .inl j
    ·refine .inr ⟨d,w,i,g,?_⟩
     rw[nV (Kb i),o d (e6.1 k).1];exact k
   ·rw[lV]at c
    subst c;refine n _ _ (by omega) ?_;rw[nV (by omega)]
def anN(a:List aG)(c b:Nat):aG:=ael (a.getD ((b+c)%Z a) ⟨[],0,[],⟨0,[],[],0⟩,[],0⟩)
def amM(a:List aG)(c b:Nat):List aG:=(List.range b).map (anN a c)
theorem ap0(a:Nat)(c:0<Z apO.ah)(j:Z apO.ah<=10):amz apO (amM apO.ah a (Z apO.ah+1)):=by
 refine⟨λl g=>?_,λm h=>?_,by simp[amM];omega⟩
 ·obtain⟨e,-,rfl⟩:=du.1 g
  have:=Nat.mod_lt (e+a) c;exact⟨apO.ah[(e+a)%Z apO.ah],bs this,by rw[anN,oM,bC this,oK]⟩
 ·obtain⟨b,d,rfl⟩:=jS.1 h
  have k:=Nat.mod_lt a c;have e0:((b+(Z apO.ah -a%Z apO.ah))%Z apO.ah+a)%Z apO.ah=b:=by
   rw[Nat.mod_add_mod];have i:=Nat.mod_add_div a (Z apO.ah);have f:b+(Z apO.ah -a%Z apO.ah)+a=b+Z apO.ah*(1+a/Z apO.ah):=by
    rw[Nat.mul_add,Fx];omega
   rw[f,Nat.add_mul_mod_self_left,Nat.mod_eq_of_lt d]
  refine du.2 ⟨(b+(Z apO.ah -a%Z apO.ah))%Z apO.ah,?_,?_⟩
  ·have:=Nat.mod_lt (b+(Z apO.ah -a%Z apO.ah)) c
   simp;omega
  ·rw[anN,e0,oM,bC d,oK]
theorem k9b{f:UInt8}(y:0<Z apO.ah)(au:Z apO.ah<=10)(K:∀a∈apO.ah,Z a.ae<=100)
 (U:∀l g k,amK g l k->k.map Prod.fst=amM apO.ah f.toNat (Z apO.ah+1)->ash ⟨[(0,.av (.agg (cP aa apN apO))),(1,.av apE),(2,.av (.int .u8 (f.toNat:Int))),(3,.av (.aK aa (cP aa apN apO) 0)),(6,.av apQ),(7,.av ars),(8,.av (I (Z apO.ah:Int))),(9,.lp 9 0),(10,.av (I ((Z apO.ah+1:Nat):Int)))],[(9,[eS aa (bn aa) apO.m,eS aa (b8 aa) apO.aW,eS aa (bF aa) apO.d,l])],g⟩):
 F9b C (.agg (cP aa apN apO)) apE (.int .u8 (f.toNat:Int)) (.aK aa (cP aa apN apO) 0) apQ ars (I (Z apO.ah:Int)) (eS aa (bn aa) apO.m) (eS aa (b8 aa) apO.aW) (eS aa (bF aa) apO.d) .ai [] ash:=by
 unfold F9b;refine bB (z:=Nat×AV×List Obj×List (aG×AV)) (λe=>[I (e.1:Int),eS aa (bn aa) apO.m,eS aa (b8 aa) apO.aW,eS aa (bF aa) apO.d,e.2.1]) (λe=>e.2.2.1) (λe=>Z apO.ah+1 -e.1) (λe=>e.1<=Z apO.ah+1/\amK e.2.2.1 e.2.1 e.2.2.2/\e.2.2.2.map Prod.fst=amM apO.ah f.toNat e.1) (0,.ai,[],[]) ⟨by simp,⟨.inl ⟨rfl,rfl⟩⟩,rfl⟩ ?_;rintro⟨h,l,g,k⟩ ⟨N,o,n⟩ Y r;simp only at N o n r⊢;have ax:Z k=h:=by
  have:=congrArg List.length n;simpa[amM]using this
 have a2:=f.toNat_lt;have p:=Nat.mod_lt (h+f.toNat) y;have J:aS .s .add (I (h:Int)) (I (f.toNat:Int))=T (I ((h+f.toNat:Nat):Int)):=by
  rw[Dn (by omega) (by omega)];congr 2
 simp only[i,G,jN,Q];refine b (λj=>?_) (λj=>?_)
 ·have j:h<=Z apO.ah:=by simpa using j
  simp only[a6,aH,mz,aJ,Q,AW,Mt,J,apb y,aC p (kQ _ _),kR,uc,od,a8,o4,qg,o5,o6,o7,o8,qh,om];have aL:=K _ (bs p);have w:amM apO.ah f.toNat (h+1)=amM apO.ah f.toNat h++[ael apO.ah[(h+f.toNat)%Z apO.ah]]:=by
   simp only[amM,wJ,ht,eJ,oL];rw[anN,oM,bC p,oK]
  have A:=λl g k o n=>r (h+1,l,g,k) ⟨by omega,o,n⟩ (by simp;omega);simp only[w]at A;clear r w;generalize R:apO.ah[(h+f.toNat)%Z apO.ah]=a at*;have L:lX (.ai)=T .ai:=rfl;rw[L,Q,og (by omega) (by omega),Q]
  refine bB (z:=Nat) (λc=>[I ((Z a.ae:Int) -1 -c),eS aa (bn aa) apO.m,eS aa (b8 aa) apO.aW,eS aa (bF aa) apO.d,l,.str a.ar,I a.aq,eS aa cT a.ad,I a.af.ak,.str a.af.ar,.str a.af.aB,I a.af.aQ,bdV (Z g) (a.ae.reverse.take c),I a.bf]) (λc=>mJ g 9 (a5 aa) (a.ae.reverse.take c)) (λc=>Z a.ae -c) (λc=>c<=Z a.ae) 0 (by simp) ?_ (by simp[bdV]) (by simp[mJ]);intro c aU ac t;simp only[i,G,gF,Q]
  refine b (λj=>?_) (λj=>?_)
  ·have j:c<Z a.ae:=by simp at j;omega
   have v:=t (c+1) j (by omega);have x:Z a.ae -1 -c<Z a.ae:=by omega
   have S:a.ae.reverse[c]?=T a.ae[Z a.ae -1 -c]:=by
    rw[List.getElem?_reverse (by omega),bC x]
   have q:a.ae.reverse.take (c+1)=a.ae.reverse.take c++[a.ae[Z a.ae -1 -c]]:=by
    obtain⟨V,P⟩:=e6.1 S;rw[hX V,P]
   simp only[q]at v;clear t;have H:(Z a.ae:Int) -1 -c=((Z a.ae -1 -c:Nat):Int):=by omega
   have F:(Z a.ae:Int) -1 -(c+1:Nat)=((Z a.ae -1 -c:Nat):Int) -1:=by omega
   have O:Z (a.ae.reverse.take c)=c:=by simp;omega
   rw[H];simp only[aC p (kQ _ _),R,a6,aH,od,aJ,Q,aC x (h9 _ _),l1];refine aD (dD:=.sl aa [a5 aa a.ae[Z a.ae -1 -c]]) rfl ?_;refine apB (h9 _ _) (by rw[O];omega) ?_;have M:∀u:List Lit,lX (bdV (Z g) u)=T (bdV (Z g) u):=λu=>by
    unfold bdV;split<;>rfl
   rw[M,Q,og (by omega) (by omega),Q];rw[F]at v;exact v
  ·have a0:c=Z a.ae:=by simp at j;omega
   clear t;have q:a.ae.reverse.take c=(ael a).ae:=by
    rw[fW (by simp;omega)]<;>rfl
   rw[q];refine aD (dD:=.sl aa [cMr (ael a,bdV (Z g) (ael a).ae)]) ?_ ?_
   ·unfold bdV;split<;>rfl
   refine o.app (ael a) (by omega) λW B z=>?_;rw[z.pl,Q,ba,Q];exact A W B _ z (by rw[ht,n]<;>rfl)
 ·have:h=Z apO.ah+1:=by simp at j;omega
  subst this;exact U l g k o n
variable{asC:List aG}
theorem k9c(u:eP C)(w:wA C)(y:x5 C)(a:amI apO ark)(b:amz apO asC)(q:dW apO)(n:∀l∈ark,eO l.ad):
 F9c C apE (eS arj (cF aa) ark) apQ (.aK aa (cP aa apN apO) 0) ars tt arX asq (eS aa (bn aa) apO.m) (eS aa (b8 aa) apO.aW) (eS aa (bF aa) apO.d) (eS aa (aP aa) asC) [] (λh E=>aI E .res h (.bool ab)):=by
 unfold F9c;have R:∀k,aR 4 ab (.aK aa (cP aa apN apO) 0) k=T (.agg (cP aa apN apO)):=λ_=>rfl;obtain⟨j,M,H,F⟩:=an6 u w y (apN:=apN) (arj:=arj) a q n;obtain⟨N,-,V⟩:=Cd a.q3;have i:=JV a.r9 a.val q n a.uns;have A:=JW a.val a.form;have U:=a.q3.facts;have z:=SW a.q3 a.val;have O:=aqq b a.val;have J:qH (ae6 apO asC) ark=true:=by
  rw[qH,QM.2 O,show jk (ae6 apO asC) ark=jk apO ark from rfl,a.form,show(ark.all (oB (ae6 apO asC)))=ark.all (oB apO)from rfl,a.fI]<;>rfl
 have L:ra (ae6 apO asC) (xV (ae6 apO asC)) ark j:=by
  rw[apd b];exact aqa b i.v M A
 have x:=jr u w y (V:=false) (F:=arj) (bp:=false) (ae6 apO asC) ark (aoU b q) (by unfold Sm;omega) n (BL j) (λg=>by rw[J]at g;cases g) λ_=>
  ⟨b.len,λh p=>by obtain⟨t,r,rfl⟩:=b.sub h p;exact aoZ (N t r),⟨by have:=b.len;show Z asC<=100;omega,λh p=>by obtain⟨t,r,rfl⟩:=b.sub h p;have:=z.2.1 t r;simpa[ael]using this,z.2.2⟩,λg=>absurd (aqp b a.uns) g,λ_ g=>absurd (aql b a.str) g,λ_ _=>⟨_,j,apJ b i,an2 A,by omega,L,rfl⟩⟩
 have gc:(AV.agg [eS aa (bn aa) apO.m,eS aa (b8 aa) apO.aW,eS aa (bF aa) apO.d,eS aa (aP aa) asC])=.agg (cP aa aa (ae6 apO asC)):=rfl;simp only[gc,R,Q];refine f F ?_;cases j with
 |none=>
  refine aD (dD:=eS aa (cF aa) ([]:List aw)) rfl (aD (dD:=I 2) rfl ?_);refine f x ?_;refine aD (dD:=eS aa (cF aa) ([]:List aw)) rfl (aD (dD:=I 2) rfl ?_);refine pg (N:=[]) ab [eS aa (bn aa) apO.m,eS aa (b8 aa) apO.aW,eS aa (bF aa) apO.d,eS aa (aP aa) asC] (λP o=>?_) (.bool _ _);refine aZ (λ_=>?_) (λe=>by cases e);simp only[c9,Q];refine aZ (λ_=>?_) (λe=>by simp at e)
  refine f (Bb [] [] (by unfold Sm;simp) (by simp)) ?_;exact xJ o (by simp)
 |some s=>
  obtain⟨B,K⟩:=H s rfl;have W:=B.small i.v K;refine aD (dD:=eS aa (cF aa) s) rfl (aD (dD:=I 0) rfl ?_);refine f x ?_;refine aD (dD:=eS aa (cF aa) s) rfl (aD (dD:=I 0) rfl ?_);refine pg (N:=[]) ab [eS aa (bn aa) apO.m,eS aa (b8 aa) apO.aW,eS aa (bF aa) apO.d,eS aa (aP aa) asC] (λP o=>?_) (.bool _ _);refine aZ (λ_=>?_) (λe=>by cases e);simp only[c9,Q];refine aZ (λ_=>?_) (λe=>by simp at e)
  refine f (Bb _ _ (by unfold Sm;omega) λl G=>(dq.re i B.ok l G).1) ?_;exact xJ o (by simp)
theorem k9a(j:eP C)(k:wA C)(n:x5 C)(a:aj)(b:List aw)(r:dW a)(q:Sm b)(p:∀l∈b,eO l.ad)(o:∀e,asb tt e)
 (h:amI a b->0<Z a.ah->ash ⟨[(0,.av (.agg (cP aa apN a))),(1,.av (eS arj (cF aa) b)),(2,.av apE),(3,.av (.aK aa (cP aa apN a) 0)),(6,.av ff),(7,.av tt),(8,.av (I (Z a.ah:Int))),(9,.lp 9 0)],[(9,[eS aa (bn aa) a.m,eS aa (b8 aa) a.aW,eS aa (bF aa) a.d,.ai])],[]⟩):
 F9a C (.agg (cP aa apN a)) (eS arj (cF aa) b) apE [] ash asb:=by
 unfold F9a;have i:∀e,aR 4 ab (.aK aa (cP aa apN a) 0) e=T (.agg (cP aa apN a)):=λ_=>rfl;refine aD (dD:=.aK aa (cP aa apN a) 0) rfl ?_;refine f (Jg j k n) ?_;simp only[a6,aH,mz,aJ,Q,a8];refine eh (N:=[]) (!(amD a b&& !((Z a.ah:Int)==0))) (λh g=>?_) ?_
 ·try simp only[i,Q]
  refine f (k31 a b r q p) ?_;rw[bD,Q];refine dx (λc=>?_) (λc=>kB g (by simp_all));have c:amD a b=true:=by simpa using c
  simp only[c9,Q];exact kB g (by rw[c];simp)
 simp only[G];refine c8 (λ_=>o _) (λc=>?_);simp only[bG,jt,beq_eq_false_iff_ne,ne_eq]at c;simp only[i,Q];exact h (anq c.1) (by omega)
variable{arH:WS}
section
variable{P:Program}{G:Nat->Option (List AV)}{An:Nat->bQ}{X:eD}{A:bQ}{hc:Oper->Bool}
theorem dP.ank(w:P.follows .mixedOrders=ab)(v:∀d args b e c,X d args b e c->jz P G d args b e c)(t:∀d f b e c,C d f b e c->jK P G An X d f b e c){R:WS->Prop}
 (r:h7 P G C A hc arW arH (nrN R ash))(u:∀a,R a->asG .ret a.as)(s:∀a,ash a->dP P G asE a.as asG):dP P G (.seq arW asE) arH.as asG:=λB f n j l=>by
 simp only[gk,bG]at l;refine wp_seq (wp_mono ((dP.code w v t r).wp n j l.1) ?_);rintro q E w1 ⟨i,I,⟨a,rfl,h⟩,rfl,p,rfl,o,g,m,k⟩;cases i with
 |norm=>
  refine wp_mono ((s a h).wp o (j.mono g n.b1) (by grind)) ?_;rintro q F J ⟨i,z,y,rfl,x⟩;cases i<;>exact⟨_,z,y,rfl,x.trans g m k⟩
 |ret=>exact⟨.ret,_,u a h,rfl,p,rfl,o,g,m,k⟩
 |exit H=>exact h.elim
end
variable{asF:arf -> Prop}
theorem aoE:∀{d:List (Nat×arf)}{c:Nat}{b:arf},(∀q∈d,asF q.2)->look c d=T b->asF b
 |[],c,b,_,a=>by simp[look]at a
 |q::d,c,b,e,a=>by
  obtain⟨g,h⟩:=q;simp only[look]at a;split at a
  ·cases a;exact e _ List.mem_cons_self
  ·exact aoE (λq f=>e q (List.mem_cons_of_mem _ f)) a
theorem aqe:Tryz.f9.body.getD .skip=.seq (cL (Tryz.f9.body.getD .skip)) (.seq (cL (cR (Tryz.f9.body.getD .skip))) (.seq (cL (cR (cR (Tryz.f9.body.getD .skip)))) (.seq (cL (cR (cR (cR (Tryz.f9.body.getD .skip))))) (.seq (cL (cR (cR (cR (cR (Tryz.f9.body.getD .skip)))))) (.seq (cL (cR (cR (cR (cR (cR (Tryz.f9.body.getD .skip))))))) (.seq (cL (cR (cR (cR (cR (cR (cR (Tryz.f9.body.getD .skip)))))))) (cR (cR (cR (cR (cR (cR (cR (Tryz.f9.body.getD .skip)))))))))))))):=by kernel_rfl
theorem aqi:Tryz.f9.body=T (Tryz.f9.body.getD .skip):=by kernel_rfl
theorem k9O:yW Tryz.f9 3=true:=by kernel_rfl
theorem ok9(a:aj)(c:List aw)(f:UInt8)(L:dW a)(ac:Sm c)(H:∀P∈c,eO P.ad):jz a1 G0 9 [.agg (cP aa apN a),eS arj (cF aa) c,.int .u8 (f.toNat:Int)] [] (.bool ab) []:=by
 have J:=k9O;simp only[yW,bG,jt,decide_eq_true_eq]at J;obtain⟨⟨⟨-,e⟩,Q⟩,R⟩:=J;refine dP.fn Tryz.func9 aqi e R Q ?_;rw[aqe];have e0:({env:=mq 0 [.agg (cP aa apN a),eS arj (cF aa) c,.int .u8 (f.toNat:Int)],bx:=[],hp:=[]}:AS)=WS.as {env:=nh 0 [.agg (cP aa apN a),eS arj (cF aa) c,.int .u8 (f.toNat:Int)],bx:=[],hp:=[]}:=rfl;rw[e0]
 have n:∀q,R9N (λs v=>aI v .res s (.bool ab)) q->((eN.ret=.norm\/eN.ret=.ret)/\∃b,vu a1 Tryz.f9 q.as=T b/\aI q.as.hp .res b (.bool ab)):=λq x=>by
  obtain⟨b,h,e⟩:=xl x;exact⟨.inr rfl,b,h,e⟩
 have A:F9a C (.agg (cP aa apN a)) (eS arj (cF aa) c) (.int .u8 (f.toNat:Int)) [] (λw=>(amI a c/\0<Z a.ah)/\w=⟨[(0,.av (.agg (cP aa apN a))),(1,.av (eS arj (cF aa) c)),(2,.av (.int .u8 (f.toNat:Int))),(3,.av (.aK aa (cP aa apN a) 0)),(6,.av ff),(7,.av tt),(8,.av (I (Z a.ah:Int))),(9,.lp 9 0)],[(9,[eS aa (bn aa) a.m,eS aa (b8 aa) a.aW,eS aa (bF aa) a.d,.ai])],[]⟩) (λs v=>aI v .res s (.bool ab)):=
  k9a aju ajx ajw a c L ac H (λ_=>.bool _ _) λh e=>⟨⟨h,e⟩,rfl⟩
 rw[w9a]at A;refine dP.ank (An:=Ac) ui ye wz A n λq S=>?_;refine dP.ank (An:=Ac) ui ye wz S n λaB U=>?_;refine dP.ank (An:=Ac) ui ye wz U n λaL V=>?_;refine dP.ank (An:=Ac) ui ye wz V n λaQ W=>?_;refine dP.ank (An:=Ac) ui ye wz W n λaU X=>?_;refine dP.ank (An:=Ac) ui ye wz X n ?_;rintro a0 ⟨⟨u,K⟩,rfl⟩;have z:=u.q3.ah
 obtain⟨p,F⟩:∃p:WS->Prop,p=λw=>∃b k o,amK k b o/\o.map Prod.fst=amM a.ah f.toNat (Z a.ah+1)/\w=⟨[(0,.av (.agg (cP aa apN a))),(1,.av (eS arj (cF aa) c)),(2,.av (.int .u8 (f.toNat:Int))),(3,.av (.aK aa (cP aa apN a) 0)),(6,.av ff),(7,.av tt),(8,.av (I (Z a.ah:Int))),(9,.lp 9 0),(10,.av (I ((Z a.ah+1:Nat):Int)))],[(9,[eS aa (bn aa) a.m,eS aa (b8 aa) a.aW,eS aa (bF aa) a.d,b])],k⟩:=⟨_,rfl⟩
 have B:=k9b (apN:=apN) (apE:=eS arj (cF aa) c) (apQ:=ff) (ars:=tt) (f:=f) K z (λs af=>by have:=u.q3.ae s af;omega) (ash:=p) λb k o h e=>by rw[F];exact⟨b,k,o,h,e,rfl⟩
 rw[w9b]at B;refine dP.aqb (asT:=λN=>∃l:WS,N=l.as/\p l) rfl (dP.mono (dP.code (An:=Ac) ui ye wz B) λr ar x=>?_) ?_
 ·obtain⟨l,rfl,g⟩:=x
  cases r with
  |norm=>exact⟨rfl,l,rfl,g⟩
  |ret=>exact g.elim
  |exit y=>exact g.elim
 rw[F];rintro N ⟨l,rfl,b,k,o,ak,Y,rfl⟩;have G:=ap0 (apO:=a) f.toNat K z;rw[<-Y]at G;have E:=k9c aju ajx ajw (apN:=apN) (arj:=arj) (apE:=.agg (cP aa apN a)) (apQ:=.int .u8 (f.toNat:Int)) (ars:=ff) (arX:=I (Z a.ah:Int)) (asq:=I ((Z a.ah+1:Nat):Int)) u G L H;rw[w9c]at E;refine⟨_,?_,?_,?_,dP.mono (dP.code (An:=Ac) ui ye wz E) ?_⟩
 ·rfl
 ·intro aq j M
  refine⟨j,M,?_⟩;refine aoE (asF:=λj=>(j=j/\∃y r,j=.lp y r)\/aI k .res j j) ?_ M;intro a4 g;simp only[WS.as,fP,eJ,oL,cf,iW,or_false]at g;rcases g with rfl|rfl|rfl|rfl|rfl|rfl|rfl|rfl|rfl
  ·exact .inr (Im.snap (by simp[EV.val,AV.pl]))
  ·exact .inr (Im.snap (by simp[EV.val,AV.pl,eS];exact kP (by simp) arj c))
  ·exact .inr (.int _ _ _)
  ·exact .inr (Im.snap (by simp[EV.val,AV.pl]))
  ·exact .inr (.bool _ _)
  ·exact .inr (.bool _ _)
  ·exact .inr (.int _ _ _)
  ·exact .inl ⟨rfl,_,_,rfl⟩
  ·exact .inr (.int _ _ _)
 ·intro aq a2 t
  simp only[WS.as,look]at t⊢;split at t
  ·rename_i O
   cases t
   refine⟨_,if_pos O,?_⟩;exact .cons _ _ _ _ _ (Im.snap (by simp)) (.cons _ _ _ _ _ (Im.snap (by simp)) (.cons _ _ _ _ _ (Im.snap (by simp)) (.cons _ _ _ _ _ ak.res (.nil _))))
  ·cases t
 ·rintro r ar ⟨l,rfl,g⟩
  cases r with
  |exit y=>exact g.elim
  |norm=>
   obtain⟨b,h,e⟩:=xl g;exact⟨.inl rfl,b,h,e⟩
  |ret=>
   obtain⟨b,h,e⟩:=xl g;exact⟨.inr rfl,b,h,e⟩
theorem fn9(b:aj)(a:List aw)(c:UInt8)(h:dW b)(g:Sm a)(f:∀e∈a,eO e.ad):∃d,jz a1 G0 9 [.agg (cP aa apN b),eS arj (cF aa) a,.int .u8 (c.toNat:Int)] [] (.bool ab) d:=⟨_,ok9 b a c h g f⟩
open Go.Proofs.YtmkbfepnleajhaaGreatDoor Go.Deep
variable{as9:Program}{arJ:World}{arR:Nat -> Bool}
theorem apX{f:TypeId×Value->arf}(j:as9.underlying aoO=T (.int .u8)):Rd arf f as9 arJ arR aoO 1 cU (λ_=>True):=by
 refine⟨(by simp[cU]),λc l m p a _=>?_⟩;cases c with
 |zero=>simp[DataW.trod]at a
 |succ c=>
  unfold DataW.trod at a;simp only[j]at a;split at a<;>rename_i d<;>first|(cases a;done)|(cases d;done)|skip
  cases d
  rename_i o b;split at a
  ·rename_i i
   obtain⟨rfl,k⟩:=i;have n:0<=b/\b<256:=by
    have g:IntKind.u8.min=0:=by decide
    have h:IntKind.u8.max=255:=by decide
    simp only[Lit.wf,bG,decide_eq_true_eq,g,h]at k;omega
   have e:((UInt8.ofNat b.toNat).toNat:Int)=b:=by
    rw[UInt8.toNat_ofNat_of_lt' (by show b.toNat<256;omega)];omega
   refine⟨UInt8.ofNat b.toNat,?_,trivial⟩;unfold cU;rw[e];exact .cons _ _ _ _ (.int _ _) .nil
  ·cases a
section
variable{H:Type}{enc:TypeId×Value->H}{w:World}{sp:Nat->Bool}
theorem rt5:jA H enc w sp 5 1 cU (λ_=>True):=apX (by kernel_rfl)
end
open Go.ChangeShapes Go.WideShapes Go.ChangeAt Go.RowKit
theorem ajV:∃a,a1.underlying 27=T (.struct a):=by
 simp
theorem Tk:a1.underlying 4=T .bool:=by kernel_rfl
variable{arM:Value}
theorem ajW{W:World}{base:Nat}(b:Value.okWide a1 W .any base 27 arM):∃a,arM=.agg a:=by
 grind[ajV,Value.okWide]
theorem ajX{W:World}{base:Nat}(a:Value.okWide a1 W .any base 28 arM):bU arM.cells=[arM]:=by
 unfold Value.okWide at a;rw[sE]at a;simp only[Cell.okWide,sE,Cell.ok]at a;cases arM<;>first|rfl|grind
theorem apP{W:World}{base:Nat}(a:Value.okWide a1 W .any base 5 arM):bU arM.cells=[arM]:=by
 have b:a1.underlying 5=T (.int .u8):=by kernel_rfl
 unfold Value.okWide at a;rw[b]at a;simp only[Cell.okWide,b,Cell.ok]at a;cases arM<;>first|rfl|grind
theorem ajY(b:Type)(c:TypeId×Value->b)(W:World)(base:Nat)(args:Array Value)(i gs:List (DataW b))(C:List MemPlace)
 (g:∀(A:Nat) h a,Tryz.f9.params[A]?=T h->args[A]?=T a->Value.okWide a1 W .any base h a)
 (k:DataW.Whole c a1 (bU Tryz.f9.params) Rows.snapshotOrderSpec.vars aa W (bU args) i gs C)(Z:Rows.uptoSmall b (i++gs)=ab)(L:laidMetH a1 Rows.snapshotOrderUptoRow.laid W):
 Calls a1 9 args W λj q=>∃a,j=.returned a/\Rows.snapshotOrderSpec.post c a1 Tryz.f9 aa ab aa aa W args a q:=by
 have v:=k;have ac:=k.lt;obtain⟨aB,br,u,Q,rfl,bf,bg⟩:=k;have t:DataW.TrodAll c a1 W 0 (λ_=>ab) ab (bU Tryz.f9.params) (bU args) i aB:=u;rw[Tryz.params9]at t g;obtain⟨v0,v1,v2,E,F,G,aL,aQ,aU,rfl,rfl,rfl,I,J,K⟩:=trodAll_three t;obtain⟨rfl,rfl⟩:=trodVars_none Q;have S:Rows.uptoBulkAll [E,F,G]<=1048576:=by
  have:=of_decide_eq_true Z;simpa using this
 simp only[Rows.uptoBulkAll]at S;obtain⟨s,rfl⟩:=ajW (g 0 27 v0 rfl rfl);have U:=ajX (g 1 28 v1 rfl rfl);have V:=apP (g 2 5 v2 rfl rfl);obtain⟨ar,a0⟩:=I;obtain⟨au,a2⟩:=J;obtain⟨ax,a3⟩:=K;obtain⟨o,z,af⟩:=(ab1 (H:=b) (enc:=c) (w:=W) (sp:=λ_=>ab) (λ_=>rfl) aa aa).2 ar _ _ _ a0 (by omega);obtain⟨p,e,ad,ah⟩:=(ab3 (H:=b) (enc:=c) (w:=W) (sp:=λ_=>ab) (λ_=>rfl) aa aa).2 au _ _ _ a2 (by omega)
 obtain⟨r,w,-⟩:=(rt5 (H:=b) (enc:=c) (w:=W) (sp:=λ_=>ab)).2 ax _ _ _ a3 (by omega);rw[U]at e;rw[V]at w;have N:R (E0 W) (.agg (cP aa aa o)) (.agg s):=by
  have Y:∀a∈cP aa aa o,a.bP=true:=by simp[cP,AV.bP,eS]
  refine .agg _ _ z ?_;have one:∀{vs:List AV}{f:List Value},RL (E0 W) vs f->(∀a∈vs,a.bP=ab)->∀n∈f,n.oneCell'=true:=by
   intro vs f d;induction vs generalizing f with
   |nil=>intro _ n ak;cases d;simp at ak
   |cons a vs bi=>
    cases d with
    |cons _ n _ f aq y=>
     intro l p e;rcases cf.1 e with rfl|e
     ·exact aq.Ab (l _ (by simp))
     grind
  exact one z Y
 have O:R (E0 W) (eS aa (cF aa) p) v1:=by
  cases e with
  |cons _ _ _ _ d _=>exact d
 have P:R (E0 W) (.int .u8 (r.toNat:Int)) v2:=by
  cases w with
  |cons _ _ _ _ d _=>exact d
 obtain⟨a9,-,X⟩:=fn9 (apN:=false) (arj:=false) o p r af (Sm.of ad) ah;have l:=X (E0 W) [.agg s,v1,v2] (abE W) (λ_=>rfl) rfl (.cons _ _ _ _ N (.cons _ _ _ _ O (.cons _ _ _ _ P .nil))) (ajU (show laidMetH a1 g2.laid W from L));refine l.mono λj q x=>?_;cases j with
 |returned a=>
  obtain⟨a4,rfl,H,-,-,M⟩:=x;obtain rfl:a=.bool true:=by cases M;rfl
  simp only[rP]at v ac;refine⟨_,rfl,ajC (i:=aL++aQ++aU) (j:=[]) v (λ_ _ _=>trodAll_cons_mk (shut_bool Tk _) trodAll_mk0) (λm ae=>?_) (λ_ _=>rfl) (by simp) (ajz H _) (by grind[ajB]) (ok_one (by kernel_rfl) rfl (okWide_bool_mk Tk _))⟩;exact Th ajE ajF (λh y=>by rw[Tryz.params9]at y;revert h;decide) u (by grind[ajA]) ae
 |_=>exact x.elim
end AM
end Go
