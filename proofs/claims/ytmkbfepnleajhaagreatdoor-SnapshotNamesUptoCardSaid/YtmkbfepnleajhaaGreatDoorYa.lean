/- The law SnapshotNamesUptoCardSaid: part 8 of 9 of the proof. No condition. -/
import Derived.Test.YtmkbfepnleajhaaGreatDoorXg
set_option maxRecDepth 100000
open List renaming length->Z,getElem?_drop->akT,mem_or_eq_of_mem_set->ak6,perm_middle->alf,set_eq_take_append_cons_drop->alc,set_set->ak9
open Option renaming some->T,none->D,map_none->zW
open Bool renaming true->ab,false->aa,not_eq_true->Kr
open Decidable renaming decide->S
open Array renaming toList->bU
open Go.Proofs.Tryz renaming prog->a1
open Go.Proofs.YtmkbfepnleajhaaGreatDoor.Rows renaming snapshotModelMatchesReferenceUptoRow->g2
namespace Go
namespace AM
def alh(c:aj)(b d e:Int):Prop:=∀a,e8 c b=T a->dK a d.toNat e.toNat=ab
variable{apO:aj}{aqD aq3:Int}
theorem alh.refl:alh apO aqD aq3 aq3:=λa _=>ad9 a _
def AtF(b:aj)(gs:List aw)(a:aw):Prop:=∃g∈gs,g.aq=a.aq/\g.ad=a.ad/\alh b a.aq a.af g.af
def amu(c:aj)(a:aw):Prop:=∃b,e8 c a.aq=T b/\a.af=fy b []
def aeh(b:aj)(gs:List aw)(a:aw):Prop:=amu b a\/AtF b gs a
def LeI(c:aj)(b gs:List aw):Prop:=∀a∈b,AtF c gs a
variable{aqx:List aw}
theorem LeI.refl:LeI apO aqx aqx:=λa b=>⟨a,b,rfl,rfl,.refl⟩
theorem alh.trans{c d:Int}(h:∀a,e8 apO aqD=T a->eF a c=ab)(e:alh apO aqD aq3 c)(f:alh apO aqD c d):alh apO aqD aq3 d:=λa b=>by
 obtain⟨i,rfl,g⟩:=qo (h a b);exact aea g (e a b) (f a b)
variable{aqY:aw}
theorem AtF.trans{gs:List aw}(h:∀g∈gs,qx apO g)(b:AtF apO gs aqY)(c:LeI apO gs aqx):AtF apO aqx aqY:=by
 obtain⟨g,a,d,e,f⟩:=b;obtain⟨i,w1,k,l,n⟩:=c g a;refine⟨i,w1,k.trans d,l.trans e,f.trans (λj m=>h g a j (by grind)) ?_⟩;grind
variable{asn:List aw}
theorem LeI.trans{gs:List aw}(e:∀g∈gs,qx apO g)(b:LeI apO aqx gs)(c:LeI apO gs asn):LeI apO aqx asn:=λa d=>(b a d).trans e c
variable{are:bM}
theorem ao9(a:eu are=0)(h:eF are aqD=ab)(c:dK are aqD.toNat (fy are []).toNat=ab):aqD=fy are []:=by
 obtain⟨i,e,f,g⟩:=aed a;obtain⟨d,rfl,b⟩:=qo h;rw[e]at c⊢;have:=Pj a b f c (g d b);rw[this]
theorem amu.down(h:uM apO){g:aw}(f:qx apO aqY)(i:g.aq=aqY.aq)(c:alh apO aqY.aq aqY.af g.af)(e:amu apO g):amu apO aqY:=by
 obtain⟨b,a,d⟩:=e;rw[i]at a;refine⟨b,a,ao9 (h b (Bz a)) (f b a) ?_⟩;rw[<-d];exact c b a
theorem aeh.down(c:uM apO){g:aw}(f:qx apO aqY)(h:qx apO g)(d:g.aq=aqY.aq)(e:g.ad=aqY.ad)(b:alh apO aqY.aq aqY.af g.af)(a:aeh apO aqx g):aeh apO aqx aqY:=by
 rcases a with a|⟨i,w1,k,l,m⟩
 ·exact .inl (a.down c f d b)
 ·refine .inr ⟨i,w1,k.trans d,l.trans e,b.trans (λj c=>h j (by grind)) ?_⟩
  grind
theorem aeh.trans{gs:List aw}(c:∀g∈gs,qx apO g)(a:aeh apO gs aqY)(b:LeI apO gs aqx):aeh apO aqx aqY:=
 a.imp id λa=>a.trans c b
theorem anB(f:eu are=0)(t:eF are aqD=ab)(a:eF are aq3=ab):
 eF are (fy are [aqD,aq3])=ab/\dK are aqD.toNat (fy are [aqD,aq3]).toNat=ab/\dK are aq3.toNat (fy are [aqD,aq3]).toNat=ab/\
 ∀b,eF are b=ab->dK are aqD.toNat b.toNat=ab->dK are aq3.toNat b.toNat=ab->dK are (fy are [aqD,aq3]).toNat b.toNat=true:=by
 obtain⟨k,rfl,h⟩:=qo t;obtain⟨l,rfl,i⟩:=qo a;obtain⟨j,g,o,p,q⟩:=aec f h i;rw[g];refine⟨Et o,p,q,λb u r s=>?_⟩;obtain⟨w,rfl,v⟩:=qo u;have a:0<=qm (Z are.au) (dK are) λc=>S ((c:Int)∈[(k:Int),(l:Int)]):=by
  have d:=Ph f h i;unfold lK at d;simp only[Kw,decide_eq_false_iff_not,Int.not_lt]at d;exact d.2
 obtain⟨c,m,-,-,n⟩:=Pk a;have e:(j:Int)=c:=by
  rw[<-g,<-m];simp_all[fy,Et]
 have e:j=c:=by omega
 subst e;refine n w v λaq3 _ a=>?_;have a:aq3=k\/aq3=l:=by simp at a;omega
 rcases a with rfl|rfl
 ·exact r
 ·exact s
theorem am1(f:aj)(b:List aw)(a:aw):
 (amu f a/\dp f b a=b)\/(¬amu f a/\(
  (∃c,∃d:c<Z b,b[c].aq=a.aq/\b[c].ad=a.ad/\(e8 f a.aq=D/\dp f b a=b\/∃g,e8 f a.aq=T g/\dp f b a=b.set c ⟨b[c].aq,b[c].ad,fy g [b[c].af,a.af]⟩))\/
  ((∀e∈b,¬(e.aq=a.aq/\e.ad=a.ad))/\dp f b a=j8 b a))):=by
 have n:∀e:aw,gW a.aq a.ad e=ab<->e.aq=a.aq/\e.ad=a.ad:=by simp[gW]
 have o:b.findIdx? (gW a.aq a.ad)=D->∀e∈b,¬(e.aq=a.aq/\e.ad=a.ad):=λd e t s=>by
  rw[wK]at d;have:=d e t;rw[(n e).2 s]at this;cases this
 have p:∀c,b.findIdx? (gW a.aq a.ad)=T c->∃d:c<Z b,b[c].aq=a.aq/\b[c].ad=a.ad:=λc d=>by
  obtain⟨h,j,-⟩:=nW.1 d;exact⟨h,(n _).1 j⟩
 unfold dp;cases m:e8 f a.aq with
 |none=>
  have i:¬amu f a:=by rintro⟨g,d,-⟩;rw[m]at d;cases d
  refine .inr ⟨i,?_⟩;cases k:b.findIdx? (gW a.aq a.ad)with
  |none=>exact .inr ⟨o k,by simp⟩
  |some c=>
   obtain⟨h,j,l⟩:=p c k;exact .inl ⟨c,h,j,l,.inl ⟨rfl,by simp⟩⟩
 |some g=>
  by_cases i:a.af=fy g []
  ·exact .inl ⟨⟨g,m,i⟩,by simp[i]⟩
  ·have r:¬amu f a:=by
    rintro⟨u,d,q⟩;rw[m]at d;cases d;exact i q
   refine .inr ⟨r,?_⟩;simp only[i,if_false];cases k:b.findIdx? (gW a.aq a.ad)with
   |none=>exact .inr ⟨o k,rfl⟩
   |some c=>
    obtain⟨h,j,l⟩:=p c k;exact .inl ⟨c,h,j,l,.inr ⟨g,rfl,by simp only[bC h]⟩⟩
theorem aoA(m:uM apO)(s:∀g∈aqx,qx apO g)(r:qx apO aqY):LeI apO aqx (dp apO aqx aqY)/\aeh apO (dp apO aqx aqY) aqY:=by
 rcases am1 apO aqx aqY with⟨l,a⟩|⟨l,⟨n,e,a,d,⟨b,h⟩|⟨f,b,h⟩⟩|⟨a,d⟩⟩
 ·rw[a];exact⟨.refl,.inl l⟩
 ·rw[h]
  refine⟨.refl,.inr ⟨aqx[n],bs e,a,d,λf m=>?_⟩⟩;simp_all
 ·rw[h]
  have q:=s _ (bs e) f (by rw[a];exact b);obtain⟨v,o,p,-⟩:=anB (m f (Bz b)) q (r f b);refine⟨λg i=>?_,.inr ⟨_,List.mem_set e _,a,d,λu c=>?_⟩⟩
  ·obtain⟨j,t,rfl⟩:=jS.1 i
   by_cases k:n=j
   ·subst k
    refine⟨_,List.mem_set e _,rfl,rfl,λu c=>?_⟩;rw[a,b]at c;cases c;exact o
   ·refine⟨aqx[j],?_,rfl,rfl,.refl⟩
    refine jS.2 ⟨j,by simpa using t,?_⟩;rw[List.getElem_set_ne k]
  ·rw[b]at c;cases c
   exact p
 ·rw[d]
  exact⟨λg i=>⟨g,H6.2 (.inr i),rfl,rfl,.refl⟩,.inr ⟨aqY,H6.2 (.inl rfl),rfl,rfl,.refl⟩⟩
theorem aoy(B:uM apO){j:Int->Prop}{gs:List aw}(x:fY gs)(z:∀a∈aqx,qx apO a)(A:∀a∈gs,qx apO a)(y:qx apO aqY)(f:∀a∈aqx,j a.aq->AtF apO gs a)(o:j aqY.aq->aeh apO gs aqY):∀a∈dp apO aqx aqY,j a.aq->AtF apO gs a:=by
 rcases am1 apO aqx aqY with⟨k,h⟩|⟨k,⟨C,p,h,l,⟨d,m⟩|⟨e,d,m⟩⟩|⟨h,l⟩⟩
 ·rw[h];exact f
 ·rw[m];exact f
 ·rw[m]
  intro a c b;rcases ak6 c with c|rfl
  ·exact f a c b
  ·have b:=b
   obtain⟨g,t,u,v,w⟩:=(o (h▸b)).resolve_left k;obtain⟨n,w1,E,q,F⟩:=f aqx[C] (bs p) b;have r:=Pr x n w1 g t (by omega) (by rw[q,v,l]);subst r;refine⟨n,w1,E,q,λG i=>?_⟩;have i:=i;rw[h,d]at i;cases i;have s:=z _ (bs p) e (by omega);exact(anB (B e (Bz d)) s (y e d)).2.2.2 _ (A n w1 e (by rw[u];exact d)) (F e (by omega)) (w e d)
 ·rw[l]
  intro a c b;rcases H6.1 c with rfl|c
  ·exact(o b).resolve_left k
  ·exact f a c b
theorem amV(h:uM apO):∀(a:List aw){c:List aw},(∀d∈c,qx apO d)->(∀d∈a,qx apO d)->LeI apO c (jm apO c a)/\∀e∈a,aeh apO (jm apO c a) e
 |[],c,_,_=>⟨.refl,by simp⟩
 |b::a,c,i,g=>by
  have f:=(Eu h i (g b (by simp))).2;obtain⟨l,m⟩:=aoA h i (g b (by simp));obtain⟨j,n⟩:=amV h a f λd o=>g d (by simp[o]);have k:jm apO c (b::a)=jm apO (dp apO c b) a:=rfl;rw[k];refine⟨l.trans f j,λe hf=>?_⟩;rcases cf.1 hf with rfl|hf
  ·exact m.trans f j
  ·exact n e hf
theorem anS(i:uM apO){g:Int->Prop}{gs:List aw}(k:fY gs)(l:∀a∈gs,qx apO a):∀(c:List aw){d:List aw},(∀a∈d,qx apO a)->(∀a∈c,qx apO a)->(∀a∈d,g a.aq->AtF apO gs a)->(∀e∈c,g e.aq->aeh apO gs e)->∀a∈jm apO d c,g a.aq->AtF apO gs a
 |[],d,_,_,f,_=>f
 |b::c,d,f,h,m,j=>anS i k l c (Eu i f (h b (by simp))).2 (λa o=>h a (by simp[o]))
  (aoy i k f l (h b (by simp)) m (j b (by simp))) λe n=>j e (by simp[n])
theorem anR(l:uM apO){gs:List aw}(h:fY gs)(k:∀a∈gs,qx apO a)(b:List aw)(e:∀a∈aqx,qx apO a)(i:∀a∈b,qx apO a)(f:LeI apO aqx gs)(g:∀c∈b,aeh apO gs c):LeI apO (jm apO aqx b) gs:=
 λa d=>anS (g:=λ_=>True) l h k b e i (λa d _=>f a d) (λc j _=>g c j) a d trivial
def Agr(b:Int)(c gs:List aw):Prop:=c.filter (λa=>a.aq==b)=gs.filter (λa=>a.aq==b)
variable{arc:List Int}{aqK:aG}
theorem amL(a:th arc aqK=ab):0<=aqK.aq:=by
 simp only[th,bG,decide_eq_true_eq]at a;exact a.1
theorem anK{b:List aw->Prop}(g:b [])(d:∀a∈apO.ah,th arc a=ab->∀out,b out->b (jm apO out (tg apO aqx a))):b (nK apO arc aqx):=by
 have key:∀(c:List aG)(_:∀a∈c,a∈apO.ah){out:List aw},b out->b (c.foldl (mb apO arc aqx) out):=by
  intro c;induction c with
  |nil=>exactλ_ _ d=>d
  |cons a c j=>
   intro e out f;refine j (λk i=>e k (by simp[i])) ?_;unfold mb;split
   ·rename_i h;exact d a (e a (by simp)) h out f
   ·exact f
 exact key apO.ah (λ_ d=>d) g
theorem anQ{e:Int->List aO->Prop}:∀(d:List aw){c:List aw},(∀a∈c,e a.aq a.ad)->(∀a∈d,e a.aq a.ad)->∀a∈jm apO c d,e a.aq a.ad
 |[],_,f,_=>f
 |b::d,c,f,g=>anQ d (c:=dp apO c b) (Pf f (g b (by simp))) λa h=>g a (by simp[h])
theorem anL{c:Int->List aO->Prop}(d:∀b∈apO.ah,th arc b=ab->∀a∈tg apO aqx b,c a.aq a.ad):∀a∈nK apO arc aqx,c a.aq a.ad:=
 anK (b:=λout=>∀a∈out,c a.aq a.ad) (by simp) λb g e _ f=>anQ _ f (d b g e)
variable{aqF:List aO}
theorem aom(f:ti apO aqF)(g:dq apO aqF aqx):∀(e:List aG)(_:∀r∈e,r∈apO.ah){out:List aw},dq apO aqF out->
 LeI apO out (e.foldl (mb apO arc aqx) out)/\∀r∈e,th arc r=ab->∀d∈tg apO aqx r,aeh apO (e.foldl (mb apO arc aqx) out) d
 |[],_,out,_=>⟨.refl,by simp⟩
 |r::e,s,out,l=>by
  have n:=s r (by simp);have m:=(EB f g arc [r] (by simpa using n) l).1;obtain⟨h,q⟩:=aom f g e (by grind) m;rw[oJ];have j:∀b∈mb apO arc aqx out r,qx apO b:=λb a=>(m.ok b a).af;have i:LeI apO out (mb apO arc aqx out r)/\(th arc r=ab->∀d∈tg apO aqx r,aeh apO (mb apO arc aqx out r) d):=by
   unfold mb;split
   ·rename_i c
    have p:0<=r.aq:=by
     simp only[th,bG,decide_eq_true_eq]at c;exact c.1
    have:=amV f.aV (tg apO aqx r) (λb a=>(l.ok b a).af) (λb a=>(PQ f g n p b a).af);exact⟨this.1,λ_=>this.2⟩
   ·rename_i c
    exact⟨.refl,λo=>absurd o c⟩
  refine⟨i.1.trans j h,λb a c d k=>?_⟩;rcases cf.1 a with rfl|a
  ·exact(i.2 c d k).trans j h
  ·exact q b a c d k
theorem anM(f:ti apO aqF){gs:List aw}(d:dq apO aqF aqx)(h:dq apO aqF gs)(l:∀c∈apO.ah,th arc c=ab->∀g∈tg apO aqx c,aeh apO gs g):LeI apO (nK apO arc aqx) gs:=
 (anK (b:=λout=>dq apO aqF out/\LeI apO out gs) ⟨.nil apO aqF,by intro g d;cases d⟩ λc k j out e=>by
  have i:=PQ f d k (amL j);exact⟨EA f.aV _ e.1 i,anR f.aV h.fz (λb a=>(h.ok b a).af) _ (λb a=>(e.1.ok b a).af) (λb a=>(i b a).af) e.2 (l c k j)⟩).2
theorem anN(e:ti apO aqF)(d:dq apO aqF aqx):∀a∈apO.ah,th arc a=ab->∀b∈tg apO aqx a,aeh apO (nK apO arc aqx) b:=
 (aom e d apO.ah (λ_ c=>c) (.nil apO aqF)).2
def amB(c:aj)(b:List aw):Prop:=∀a∈b,¬amu c a
theorem aoz(m:uM apO)(l:∀c∈aqx,qx apO c)(r:qx apO aqY)(g:amB apO aqx):amB apO (dp apO aqx aqY):=by
 rcases am1 apO aqx aqY with⟨i,d⟩|⟨i,⟨e,h,d,j,⟨b,k⟩|⟨f,b,k⟩⟩|⟨d,j⟩⟩
 ·grind
 ·simp_all
 ·rw[k]
  intro c a;rcases ak6 a with a|rfl
  ·exact g c a
  ·have p:=l _ (bs h) f (by rw[d];exact b)
   obtain⟨-,o,-,-⟩:=anB (m f (Bz b)) p (r f b);intro q;refine g aqx[e] (bs h) (amu.down (g:=⟨aqx[e].aq,aqx[e].ad,fy f [aqx[e].af,aqY.af]⟩) m (l _ (bs h)) rfl (λs n=>?_) q);rw[d,b]at n;cases n;exact o
 ·rw[j]
  intro c a;rcases H6.1 a with rfl|a
  ·exact i
  ·exact g c a
theorem anT(e:uM apO):∀(a:List aw){c:List aw},(∀f∈c,qx apO f)->(∀f∈a,qx apO f)->amB apO c->amB apO (jm apO c a)
 |[],_,_,_,d=>d
 |b::a,c,d,g,h=>anT e a (Eu e d (g b (by simp))).2 (by grind) (aoz e d (g b (by simp)) h)
theorem anP{d:aj}:∀(f:List aw){a:List aw},(∀c∈f,c.aq≠aqD)->Agr aqD (jm d a f) a
 |[],_,_=>rfl
 |b::f,a,k=>by
  have o:=anP (d:=d) f (a:=dp d a b) λc q=>k c (by simp[q]);have m:=k b (by simp);refine o.trans ?_;rcases am1 d a b with⟨-,i⟩|⟨-,⟨e,n,i,l,⟨p,j⟩|⟨r,p,j⟩⟩|⟨-,l⟩⟩
  ·rw[i]
  ·rw[j]
  ·rw[j]
   have g:¬(a[e].aq==aqD)=true:=by rw[i];simpa using m
   have h:a.filter (λc=>c.aq==aqD)=(a.take e).filter (λc=>c.aq==aqD)++(a.drop (e+1)).filter (λc=>c.aq==aqD):=by
    conv=>lhs;rw[<-vg e a,mQ n,Ty,List.filter_cons_of_neg (p:=λc:aw=>c.aq==aqD) g]
   rw[h,alc,if_pos n,Ty,List.filter_cons_of_neg (p:=λc:aw=>c.aq==aqD) (a:=⟨a[e].aq,a[e].ad,fy r [a[e].af,b.af]⟩) g]
  ·rw[l]
   have g:¬(b.aq==aqD)=true:=by simpa using m
   have h:a.filter (λc=>c.aq==aqD)=(a.take (kA a b (Z a))).filter (λc=>c.aq==aqD)++(a.drop (kA a b (Z a))).filter (λc=>c.aq==aqD):=by
    conv=>lhs;rw[<-vg (kA a b (Z a)) a,Ty]
   unfold j8;rw[h,Ty,List.filter_cons_of_neg (p:=λc:aw=>c.aq==aqD) g]
theorem aoo:∀a∈nK apO arc aqx,a.aq∈arc:=
 anL (c:=λc _=>c∈arc) λg _ b a d=>by
  obtain⟨f,-,rfl⟩:=du.1 d;simp only[th,bG,List.contains_iff_mem]at b;exact b.2
def amI(e:aj)(b:List Int)(d gs:List aw):Prop:=∀c∈e.ah,th b c=ab->∀a∈c.ae,pc a=ab->a.aq∉b/\Agr a.aq d gs
theorem anE(c:aqD∉arc):Agr aqD (iG apO arc aqx) aqx:=
 anP _ λb d a=>c (a▸aoo b d)
theorem amI.next{gs:List aw}(a:amI apO arc aqx gs):amI apO arc (iG apO arc aqx) gs:=λg e c f d b=>
 ⟨(a g e c f d b).1,(anE (a g e c f d b).1).trans (a g e c f d b).2⟩
variable{aoO:Nat}{asb:Option (List aw)}
theorem amY(f:ti apO aqF)(c:sn apO arc aoO aqx asb)(d:dq apO aqF aqx):∀gs,asb=T gs->dq apO aqF gs/\LeI apO aqx gs/\jP gs=aa/\iG apO arc gs=gs:=by
 induction c with
 |over aoO aqx c=>grind
 |stop aoO aqx c g=>
  intro gs e;cases e
  exact⟨d,.refl,by grind,g⟩
 |next aoO aqx asb c g o n=>
  intro gs e;have h:=(Il f d arc).1;obtain⟨i,j,k⟩:=n h gs e;have m:=(EC f d arc).1;have l:=(amV f.aV (nK apO arc aqx) (λb a=>(d.ok b a).af) λb a=>(m.ok b a).af).1;exact⟨i,l.trans (λb a=>(h.ok b a).af) j,k⟩
theorem LeI.fB{gs:List aw}(e:LeI apO aqx gs):∀a∈aqx,∀b∈a.ad,b∈pa apO gs:=λa f b h=>by
 obtain⟨g,c,-,d,-⟩:=e a f;exact aiV c (d▸h)
open Go.Law
theorem am2:∀{d e:List aw},d.Pairwise (λi j=>db i j<0)->e.Pairwise (λi j=>db i j<0)->(∀x,x∈d<->x∈e)->d=e
 |[],[],_,_,_=>rfl
 |[],f::e,_,_,b=>by have:=(b f).2 (by simp);cases this
 |x::d,[],_,_,b=>by have:=(b x).1 (by simp);cases this
 |x::d,f::e,g,h,b=>by
  rw[zU]at g h;have k:∀a:aw,¬db a a<0:=λa c=>by
   have:=(zj a a).2 ⟨rfl,rfl⟩;omega
  have l:x=f:=by
   rcases cf.1 ((b x).1 (by simp))with h1|h1
   ·exact h1
   ·rcases cf.1 ((b f).2 (by simp))with h2|h2
    ·exact h2.symm
    ·exact absurd (zk _ _ _ (g.1 f h2) (h.1 x h1)) (k x)
  subst l
  congr 1
  refine am2 g.2 h.2 λa=>⟨λc=>?_,λc=>?_⟩
  ·rcases cf.1 ((b a).1 (by simp[c]))with rfl|h1
   ·exact absurd (g.1 a c) (k a)
   ·exact h1
  ·rcases cf.1 ((b a).2 (by simp[c]))with rfl|h1
   ·exact absurd (h.1 a c) (k a)
   ·exact h1
theorem aoa(v:uM apO){gs:List aw}(i:dq apO aqF aqx)(m:dq apO aqF gs)(t:LeI apO aqx gs)(u:LeI apO gs aqx):∀d∈aqx,d∈gs:=by
 intro d e;obtain⟨g,f,h,r,s⟩:=t d e;obtain⟨a,w1,w,x,y⟩:=u g f;have j:=Pr i.fz a w1 d e (w.trans h) (x.trans r);subst j;have j:g.af=a.af:=by
  cases b:e8 apO a.aq with
  |none=>rw[(i.ok a e).none b,(m.ok g f).none (by grind)]
  |some c=>
   obtain⟨z,n,o⟩:=qo ((i.ok a e).af c b);obtain⟨A,p,q⟩:=qo ((m.ok g f).af c (by rw[h];exact b));have k:=s c b;have l:=y c (by rw[h];exact b);rw[n,p]at k l⊢;rw[Pj (v c (Bz b)) q o l k]
 have:g=a:=by
  cases g;cases a
  simp_all
 grind
theorem ans(e:uM apO){gs:List aw}(a:dq apO aqF aqx)(b:dq apO aqF gs)(c:LeI apO aqx gs)(d:LeI apO gs aqx):aqx=gs:=
 am2 (H4.1 a.fz) (H4.1 b.fz) λf=>⟨aoa e a b c d f,aoa e b a d c f⟩
theorem Agr.symm{gs:List aw}(a:Agr aqD aqx gs):Agr aqD gs aqx:=Eq.symm a
def TyA(h:aj)(f:Int)(g:List aO):Prop:=∀c,h.d[f.toNat]?=T c->∀(a:Nat)(e:aO)(b:Int),g[a]?=T e->c.bb[a]?=T b->e.ty=b
def ali(e:k->Int)(a:aX):Prop:=∀(b:Nat)(d:k)(c:aO),a.ax[b]?=T d->a.bl[b]?=T c->c.ty=e d
variable{arh:k -> Int}{aqL:aX}{aqW:aM}
theorem ali.get(f:ali arh aqL)(j:Z aqL.bl=Z aqL.ax)(d:known aqL.ax aqW=ab):(bW aqL aqW).1.ty=eZ arh aqW:=by
 unfold eZ bW;by_cases a:aqW.aB=[]
 ·simp[a]
 ·rw[if_neg a,if_neg a]
  have h:aqW.aB∈aqL.ax:=by
   simp only[known,kg,beq_iff_eq,decide_eq_true_eq]at d;exact d.resolve_left a
  cases c:aqL.ax.findIdx? (λi=>i==aqW.aB)with
  |none=>
   rw[wK]at c;have:=c _ h;simp at this
  |some e=>
   obtain⟨g,b,-⟩:=nW.1 c;have b:aqL.ax[e]=aqW.aB:=by simpa using b
   simp only;rw[oM,bC (by omega)];exact f e aqW.aB _ (by rw[bC g,b]) (bC (by omega))
variable{art:aO}
theorem ali.put(e:ali arh aqL)(g:Z aqL.bl=Z aqL.ax)(l:aqW.aB≠[])(j:art.ty=eZ arh aqW):ali arh (fT aqL aqW art):=by
 intro d i h b a;simp only[fT]at b a;by_cases c:d<Z aqL.ax
 ·rw[lU c]at b
  rw[lU (by omega)]at a;exact e d i h b a
 ·rw[FH (by omega)]at b
  rw[FH (by omega)]at a;have c:d=Z aqL.ax:=by
   obtain⟨f,-⟩:=e6.1 b;simp at f;omega
  subst c;simp only[Ke,cv,eK]at b;rw[g,Ke]at a;simp only[cv,eK]at a;simp_all[eZ]
variable{aqJ:List k}
theorem anU(a:known aqJ aqW=aa):aqW.aB≠[]:=by
 simp_all[known]
theorem ali.hU:∀(d:List aM)(vs:List aO){b g:aX},Z b.bl=Z b.ax->ali arh b->(∀(c:Nat)(t:aM)(e:aO),d[c]?=T t->vs[c]?=T e->e.ty=eZ arh t)->AM.hU b d vs=T g->ali arh g
 |[],vs,b,g,_,f,_,a=>by
  simp only[AM.hU,eK]at a;exact a▸f
 |t::d,[],b,g,_,f,_,a=>by simp[AM.hU]at a
 |t::d,e::vs,b,g,h,f,j,a=>by
  rw[AM.hU]at a;have l:∀(c:Nat)(t:aM)(e:aO),d[c]?=T t->vs[c]?=T e->e.ty=eZ arh t:=λc o p m n=>j (c+1) o p (by simpa using m) (by simpa using n);split at a
  ·split at a
   ·exact ali.hU d vs h f l a
   ·cases a
  ·rename_i i
   rw[qy,Kr]at i;refine ali.hU d vs (by simp[fT,h]) (f.put h (anU i) ?_) l a;exact j 0 t e (by simp) (by simp)
structure anY(p:aj)(r:aG)(τ:k->Int):Prop where
 head:0<=r.aq->∀x∈mL p r.aq r.ad,eZ τ x.1=x.2
 lit:∀l∈r.ae,0<=l.aq->∀x∈mL p l.aq l.ad,eZ τ x.1=x.2
 eq:∀l∈r.ae,l.ak=5->∀a b,l.ad=[a,b]->eZ τ a=eZ τ b
theorem apl(c:nN apO)(l:aqK∈apO.ah):∃i,anY apO aqK i:=by
 have s:apO.aW=apO.aW.map (eQ apO):=congrArg aj.aW c.2.2.2;have t:apO.d=apO.d.map (en apO):=congrArg aj.d c.2.2.2;have n:=congrArg aj.ah c.2.2.2;have p:dT apO []=⟨apO.m,apO.aW,apO.d,[]⟩:=by
  show(⟨apO.m,apO.aW.map (eQ apO),apO.d.map (en apO),[]⟩:aj)=_;grind
 have o:=JR n aqK l;obtain⟨-,-,-,⟨i,b⟩,-⟩:=c.2.2.1 aqK l;rw[o,p]at b;simp only[we,wi,wj,c5,du,dB,zR]at b;refine⟨i,λe a g=>?_,λh f e a g=>?_,λh f r j k q=>?_⟩
 ·exact b (.ty a.1 a.2) (.inl ⟨a,.inl (by rw[BE,if_pos e];exact g),rfl⟩)
 ·exact b (.ty a.1 a.2) (.inl ⟨a,.inr ⟨_,⟨h,f,rfl⟩,by rw[iS,if_pos e];exact g⟩,rfl⟩)
 ·exact b (.eq j k) (.inr ⟨(j,k),⟨_,⟨h,f,rfl⟩,by simp[rj,r,q]⟩,rfl⟩)
variable{arW:List aM}{asl:cD}
theorem anZ(b:∀a∈mL apO aqD arW,eZ arh a.1=a.2)(e:apO.d[aqD.toNat]?=T asl)(f:arW[aoO]?=T aqW)(c:asl.bb[aoO]?=T aq3):eZ arh aqW=aq3:=by
 refine b (aqW,aq3) ?_;unfold mL;rw[e];refine sG (i:=aoO) ?_;rw[List.getElem?_zip_eq_some];exact⟨f,c⟩
variable{aq0:Lit}{ars:aX}
theorem ali.ext(s:anY apO aqK arh)(F:dq apO aqF aqx)(y:∀f∈aqx,TyA apO f.aq f.ad)(p:aq0∈aqK.ae)(z:PJ apO aqK aq0)(g:Z aqL.bl=Z aqL.ax)(c:ali arh aqL)(b:ars∈e5 apO aqx aqL aq0):ali arh ars:=by
 unfold e5 at b;split at b
 ·rename_i h
  obtain⟨f,j,b⟩:=yj.1 b;obtain⟨I,A,rfl⟩:=dg.1 b;obtain⟨j,r⟩:=tF.1 j;have x:f.aq=aq0.aq:=by
   simp only[j9,bG,beq_iff_eq]at r;exact r.1
  have m:=c.hU _ _ g (λl H B a v=>by
   have i:aq0.ak≠5:=by
    intro i;simp[i]at h
   obtain⟨e,E,u,C⟩:=z.aq i;have q:apO.d[aq0.aq.toNat]?=T apO.d[e]:=by rw[u];simp
   obtain⟨G,-⟩:=e6.1 a;have o:apO.d[e].bb[l]?=T (apO.d[e].bb[l]'(by omega)):=bC _;rw[anZ (s.lit aq0 p (by omega)) q a o];exact y f j _ (by rw[x];exact q) l B _ v o) A
  unfold jq;split
  ·exact m
  ·exact m
 ·split at b
  ·simp only[lV]at b
   subst b;unfold g7;split
   ·rename_i e t w
    split
    ·rename_i h
     simp only[bG,beq_iff_eq]at h;have n:=s.eq aq0 p h.1 e t w;split
     ·rename_i a
      simp only[bG,jt]at a;rw[qy,qy]at a;exact c.put g (anU a.2) ((c.get g a.1).trans n)
     ·split
      ·rename_i a
       simp only[bG,jt]at a;rw[qy,qy]at a;exact c.put g (anU a.2) ((c.get g a.1).trans n.symm)
      ·exact c
    ·exact c
   ·exact c
  ·cases b
theorem ao0(d:ti apO aqF)(z:nN apO)(f:dq apO aqF aqx)(y:∀a∈aqx,TyA apO a.aq a.ad)(b:aqK∈apO.ah)(r:0<=aqK.aq):∀a∈tg apO aqx aqK,TyA apO a.aq a.ad:=by
 intro a w;obtain⟨c,i,rfl⟩:=du.1 w;obtain⟨F,p⟩:=apl z b;have o:=d.hG aqK b;have k:=Ii o (d.safe aqK b) (f.meet d b) (λa g=>(f.ok a g).af) c i;have n:=d.safe aqK b;simp only[uD,bG]at n;obtain⟨J,m⟩:=rM.1 n.1.1;rw[PI m]at i;have key:=aer (f.meet d b) (λ_ c=>ali F c) (λdone G c E q A e j h s t H u v=>by
  have l:=sG e;exact ali.ext p f y l (o.lits A l) (by rw[t,s]) u v) (BB m).1 e0 rfl rfl (by simp[e0]) (λq E C g=>by simp[e0]at g) c i
 intro K x q C I e j;simp only[iR,eG,zS,dg]at e;obtain⟨B,h,rfl⟩:=e;rw[key.1.get k.len (k.ax B (sG h))];exact anZ (p.head r) x h j
theorem apn{e:List aw->Prop}(h:∀f a,e a->e (iG apO f a)):∀{g:List (List Int)}{a:List aw}{d:Option (List aw)},ra apO g a d->e a->∀b,d=T b->e b:=by
 have n:∀{f c a d},sn apO f c a d->e a->∀b,d=T b->e b:=by
  intro f c a d k;induction k with
  |over c a h=>grind
  |stop c a h i=>grind
  |next c a o m i p l=>exactλj=>l (h _ _ j)
 intro g a d k;induction k with
 |nil a=>grind
 |none f g c a h=>grind
 |cons f g c a gs o m p l=>exactλj b i=>l (n m j gs rfl) b i
structure amH(p:aj)(fB:List aO)(fs:List aw):Prop where
 v:dq p fB fs
 ty:∀f∈fs,TyA p f.aq f.ad
 nb:amB p fs
theorem ao5(b:ti apO aqF)(k:nN apO)(c:List Int)(a:amH apO aqF aqx):amH apO aqF (iG apO c aqx):=by
 have j:=(EC b a.v c).1;exact⟨(Il b a.v c).1,anQ _ a.ty (anL λl i h f g=>ao0 b k a.v a.ty i (amL h) f g),anT b.aV _ (λe d=>(a.v.ok e d).af) (λe d=>(j.ok e d).af) a.nb⟩
theorem an4(t:nN apO)(s:∀u∈aqF,qX u=ab)(a:amH apO aqF aqx):jk apO aqx=true:=by
 unfold jk;rw[fi];intro g b;have b:g<Z aqx:=by simpa using b
 have c:=bs b;rw[lL,bC b];simp only[bG];refine⟨?_,?_⟩
 ·obtain⟨f,j,h,w⟩:=(a.v.ok _ c).fJ
  have q:apO.d[aqx[g].aq.toNat]?=T apO.d[f]:=by rw[h];simp
  unfold qw;rw[q];simp only[bG,decide_eq_true_eq,v5,beq_iff_eq,fi,la];refine⟨by omega,⟨by omega,λe k=>?_⟩,?_⟩
  ·have n:apO.d[f].bb[e]?=T (apO.d[f].bb[e]'(by omega)):=bC _
   unfold uJ;rw[bC k,n];simp only[bG,beq_iff_eq];exact⟨s _ ((a.v.ok _ c).fB _ (bs k)),a.ty _ c _ q e _ _ (bC k) n⟩
  ·unfold xE
   split
   ·rename_i l
    have:=(a.v.ok _ c).none (by rw[yf,h,JT j,if_pos l]);simp[this]
   ·rename_i l
    have x:=SM t _ (bs j);have o:apO.d[f].of.toNat<Z apO.m:=by omega
    rw[bC o];have p:e8 apO aqx[g].aq=T apO.m[apO.d[f].of.toNat]:=by rw[yf,h,JT j,if_neg l,bC o]
    have i:=(a.v.ok _ c).af _ p;simp only[eF,bG,decide_eq_true_eq]at i;simp only[bG,decide_eq_true_eq,bne_iff_ne,ne_eq];exact⟨i.1,i.2,λr=>a.nb _ c ⟨_,p,r⟩⟩
 ·cases g with
  |zero=>rfl
  |succ e=>
   rw[uK,bC (by omega),bC b];simpa using a.v.fz e (e+1) (by omega) b (by omega)
theorem an8(y:nN apO)(o:jk apO aqx=ab):amH apO (pa apO aqx) aqx/\∀a∈aqx,∀g∈a.ad,qX g=true:=by
 have w:=JW y o;rw[jk,fi]at o;have v:∀a∈aqx,qw apO a=true:=by
  intro a f;obtain⟨c,i,rfl⟩:=jS.1 f;have:=o c (by simpa using i);rw[lL,bC i]at this;simp only[bG]at this;exact this.1
 have p:∀a∈aqx,∃e,apO.d[a.aq.toNat]?=T e/\(∀(c:Nat)(g:aO),a.ad[c]?=T g->qX g=ab/\∀l,e.bb[c]?=T l->g.ty=l)/\xE apO e a=true:=by
  intro a f;have m:=v a f;simp only[qw,bG]at m;have h:=m.2;split at h
  ·cases h
  ·rename_i e k
   simp only[v5,bG,beq_iff_eq,fi,la]at h;refine⟨e,k,λc g n=>?_,h.2⟩;obtain⟨i,t⟩:=e6.1 n;have b:=h.1.2 c i;have q:c<Z e.bb:=by omega
   rw[uJ,n,bC q]at b;simp only[bG,beq_iff_eq]at b;refine⟨b.1,λl r=>?_⟩;rw[bC q]at r;cases r
   exact b.2
 refine⟨⟨w,λa f e k c g l m h=>?_,λa f=>?_⟩,λa f g n=>?_⟩
 ·obtain⟨A,s,b,-⟩:=p a f
  rw[k]at s;cases s;exact(b c g m).2 l h
 ·rintro⟨z,j,t⟩
  obtain⟨e,k,-,b⟩:=p a f;rw[yf]at j;have u:hK apO a.aq=e.of:=by unfold hK;rw[k]
  rw[u]at j;unfold xE at b;split at j
  ·cases j
  ·rename_i x
   rw[if_neg x,j]at b;simp only[bG,decide_eq_true_eq,bne_iff_ne,ne_eq]at b;omega
 ·obtain⟨c,i,rfl⟩:=jS.1 n
  obtain⟨e,-,b,-⟩:=p a f;exact(b c _ (bC i)).1
theorem aos(a:ic aqW=ab)(b:aqW.aB=[]):qX aqW.const=true:=by
 grind[ic]
theorem an3(j:nN apO)(g:∀f∈aqx,∀b∈f.ad,qX b=ab):∀b∈pa apO aqx,qX b=true:=by
 refine aiX g (λl i e a d=>?_);have c:=(BJ j.1).hG l i;simp only[iO,c5,zR,du]at a;rcases a with a|⟨_,⟨k,h,rfl⟩,a⟩
 ·exact aos (c.BI e a) d
 ·exact aos ((c.lit k h).BI e a) d
theorem apf(a:nN apO){d:List (List Int)}(h:ti apO (pa apO aqx))(e:jk apO aqx=ab)(j:ra apO d aqx (T asn)):jk apO asn=ab/\amH apO (pa apO aqx) asn:=by
 obtain⟨f,g⟩:=an8 a e;have b:=apn (λc gs i=>ao5 h a c i) j f asn rfl;exact⟨an4 a (an3 a g) b,b⟩
def swV(b c a:aO):aO:=if a=b then c else if a=c then b else a
def swF(b c:aO)(a:aw):aw:=⟨a.aq,a.ad.map (swV b c),a.af⟩
def swE(b c:aO)(a:aX):aX:=⟨a.ax,a.bl.map (swV b c),a.m,a.au⟩
def swI(a b:aO)(c:List aw):List aw:=(c.map (swF a b)).foldl j8 []
variable{arM:List Lit}
section
variable{a b:aO}
theorem anO(c:aO):swV a b (swV a b c)=c:=by grind[swV]
theorem aop{c d:aO}(e:swV a b c=swV a b d):c=d:=by rw[<-anO (a:=a) (b:=b) c,e,anO]
theorem amE(c:List aO):(c.map (swV a b)).map (swV a b)=c:=by simp[Cq,anO]
theorem apa{c d:List aO}(e:c.map (swV a b)=d.map (swV a b)):c=d:=by rw[<-amE (a:=a) (b:=b) c,e,amE]
theorem amx(c:aw):swF a b (swF a b c)=c:=by
 have:=amE (a:=a) (b:=b) c.ad;unfold swF;rw[this]
theorem ao1(b:List aw)(a:aw):(j8 b a).Perm (a::b):=by
 unfold j8;refine alf.trans ?_;rw[vg]
theorem an7:∀(c a:List aw),(c.foldl j8 a).Perm (c++a)
 |[],a=>.refl _
 |b::c,a=>(an7 c (j8 a b)).trans (((ao1 a b).append_left c).trans alf)
theorem amZ(c:List aw):(swI a b c).Perm (c.map (swF a b)):=(an7 _ []).trans (by rw[rP])
theorem ae6:aqY∈swI a b aqx<->swF a b aqY∈aqx:=by
 rw[(amZ aqx).mem_iff,du];exact⟨λ⟨f,e,c⟩=>by rw[<-c,amx];exact e,λd=>⟨_,d,amx aqY⟩⟩
theorem an6:∀(d:List aw){f:List aw},fY f->(d.Pairwise λa c=>db a c≠0)->(∀a∈f,∀c∈d,db a c≠0)->fY (d.foldl j8 f)
 |[],_,g,_,_=>g
 |b::d,f,g,h,i=>by
  rw[zU]at h;refine an6 d (ad5 g λa e=>i a e b (by simp)) h.2 λa e c j=>?_;rcases H6.1 e with rfl|e
  ·exact h.1 c j
  ·exact i a e c (by simp[j])
theorem apx(h:fY aqx):(aqx.map (swF a b)).Pairwise λc d=>db c d≠0:=by
 rw[TQ];refine(H4.1 h).imp λ{c d} i e=>?_;obtain⟨f,g⟩:=(zj _ _).1 e;have:=(zj c d).2 ⟨f,apa g⟩;omega
theorem am3(c:fY aqx):fY (swI a b aqx):=an6 _ (λe f d=>by simp at d) (apx c) (by simp)
theorem amN(c:fY aqx):swI a b (swI a b aqx)=aqx:=
 am2 (H4.1 (am3 (am3 c))) (H4.1 c) λd=>by rw[ae6,ae6,amx]
theorem aoV{d:List aO}(c:uQ apO d aqY):uQ apO (d.map (swV a b)) (swF a b aqY):=by
 refine⟨?_,λl i=>?_,c.af,c.none⟩
 ·obtain⟨k,h,f,g⟩:=c.fJ
  exact⟨k,h,f,by simpa[swF]using g⟩
 ·obtain⟨e,j,rfl⟩:=du.1 i
  exact du.2 ⟨e,c.fB e j,rfl⟩
theorem alk{c:List aO}(d:dq apO c aqx):dq apO (c.map (swV a b)) (swI a b aqx):=by
 refine⟨am3 d.fz,λf e=>?_⟩;have:=aoV (a:=a) (b:=b) (d.ok _ (ae6.1 e));rwa[amx]at this
theorem anq(e:swV a b zV=zV)(d:List aO)(c:Nat):(d.map (swV a b)).getD c zV=swV a b (d.getD c zV):=by
 simp only[oM,zS];cases d[c]? with
 |none=>exact e.symm
 |some f=>rfl
theorem ani(e:swV a b zV=zV)(g:aqW.aB=[]->swV a b aqW.const=aqW.const):bW (swE a b aqL) aqW=(swV a b (bW aqL aqW).1,(bW aqL aqW).2):=by
 unfold bW;by_cases c:aqW.aB=[]
 ·rw[if_pos c,if_pos c,g c]
 ·rw[if_neg c,if_neg c]
  show(match aqL.ax.findIdx? (λd=>d==aqW.aB)with|some f=>((aqL.bl.map (swV a b)).getD f zV,ab)|none=>(zV,aa))=_;cases aqL.ax.findIdx? (λd=>d==aqW.aB)with
  |none=>simp only[e]
  |some f=>simp only[anq e]
def amW(a b:aO)(d:List aM):Prop:=∀c∈d,c.aB=[]->swV a b c.const=c.const
theorem aou(e:swV a b zV=zV)(c:amW a b arW):eG (swE a b aqL) arW=(eG aqL arW).map (swV a b):=by
 unfold eG;rw[wG];exact rO λf d=>by rw[ani e (c f d)]<;>rfl
theorem aoh(c:aX)(d:aM)(e:aO):fT (swE a b c) d (swV a b e)=swE a b (fT c d e):=by
 simp[fT,swE]
theorem aow(h:swV a b zV=zV):∀(d:List aM)(vs:List aO){c:aX},amW a b d->hU (swE a b c) d (vs.map (swV a b))=(hU c d vs).map (swE a b)
 |[],vs,c,_=>by simp[hU]
 |t::d,[],c,_=>by simp[hU]
 |t::d,k::vs,c,g=>by
  have i:=λc=>aow h d vs (c:=c) λm j=>g m (by simp[j]);rw[eJ,hU,hU,ani h (g t (by simp))];simp only;by_cases e:(bW c t).2=ab
  ·rw[if_pos e,if_pos e]
   by_cases f:(bW c t).1=k
   ·rw[if_pos (by rw[f]),if_pos f];exact i c
   ·rw[if_neg (λl=>f (aop l)),if_neg f]<;>rfl
  ·rw[if_neg e,if_neg e,aoh]
   exact i _
theorem aoJ(e:swV a b zV=zV)(c:amW a b aq0.ad):g7 (swE a b aqL) aq0=swE a b (g7 aqL aq0):=by
 unfold g7;split
 ·rename_i h i d
  have f:=ani (aqL:=aqL) e (c h (by simp[d]));have g:=ani (aqL:=aqL) e (c i (by simp[d]));simp only[f,g,aoh];split
  ·split
   ·rfl
   ·split<;>rfl
  ·rfl
 ·rfl
theorem aoN(m:fY aqx)(c:Int)(args:List aO):(swI a b aqx).find? (gW c (args.map (swV a b)))=(aqx.find? (gW c args)).map (swF a b):=by
 have key:∀d:aw,gW c (args.map (swV a b)) d=gW c args (swF a b d):=λd=>by
  unfold gW
  congr 1
  rw[decide_eq_decide];exact⟨λj=>by show d.ad.map _=_;rw[j,amE],λj=>by rw[<-j];exact(amE _).symm⟩
 cases e:aqx.find? (gW c args)with
 |none=>
  rw[FF]at e;simp only[zW,FF];exactλd o=>by rw[key];exact e _ (ae6.1 o)
 |some l=>
  have k:=List.mem_of_find?_eq_some e;have h:=TN e;cases f:(swI a b aqx).find? (gW c (args.map (swV a b)))with
  |none=>
   rw[FF]at f;exact absurd (by rw[key,amx];exact h) (f (swF a b l) (ae6.2 (by rw[amx];exact k)))
  |some g=>
   have n:=ae6.1 (List.mem_of_find?_eq_some f);have i:=TN f;rw[key]at i;simp only[gW,bG,beq_iff_eq,decide_eq_true_eq]at h i;have:=Pr m _ n _ k (by rw[i.1,h.1]) (by rw[i.2,h.2]);rw[iA,<-this,amx]
theorem aoC{op:Int}(f:op=1\/op=2)(d e:aO):qv op (swV a b d) (swV a b e)=qv op d e:=by
 have c:l5 (swV a b d) (swV a b e)=0<->l5 d e=0:=by
  rw[TO.val.eq,TO.val.eq];exact⟨aop,λc=>by rw[c]⟩
 unfold qv;rcases f with rfl|rfl
 ·rw[if_pos rfl,if_pos rfl,hY,beq_iff_eq,beq_iff_eq];exact c
 ·rw[if_neg (by decide),if_pos rfl,if_neg (by decide),if_pos rfl,hY,bne_iff_ne,bne_iff_ne];exact not_congr c
def am0(a b:aO)(c:Lit):Prop:=amW a b c.ad/\(c.ak=5->c.op=1\/c.op=2)
theorem apr(g:swV a b zV=zV)(j:PJ apO aqK aq0)(h:am0 a b aq0)(i:fY aqx)(c:aX):pe apO (swI a b aqx) (swE a b c) aq0=pe apO aqx c aq0:=by
 have k:=j.ak;unfold pe tb;rw[aou g h.1,aoN i];by_cases e:aq0.ak=1
 ·rw[if_pos e,if_pos e]
  cases aqx.find? (gW aq0.aq (eG c aq0.ad))<;>rfl
 ·rw[if_neg e,if_neg e]
  by_cases f:aq0.ak=2
  ·rw[if_pos f,if_pos f]
   cases aqx.find? (gW aq0.aq (eG c aq0.ad))<;>rfl
  ·rw[if_neg f,if_neg f]
   by_cases d:(aq0.ak==3||aq0.ak==4)=ab
   ·rw[if_pos d,if_pos d]
    cases aqx.find? (gW aq0.aq (eG c aq0.ad))<;>rfl
   ·rw[if_neg d,if_neg d,anq g,anq g]
    simp only[kg,beq_iff_eq]at d;exact aoC (h.2 (by omega)) _ _
theorem aoM(g:swV a b zV=zV)(k:PJ apO aqK aq0)(e:am0 a b aq0)(i:fY aqx)(c:ars∈e5 apO aqx aqL aq0):swE a b ars∈e5 apO (swI a b aqx) (swE a b aqL) aq0:=by
 unfold e5 at c⊢;split at c
 ·rename_i f
  rw[if_pos f];obtain⟨d,h,c⟩:=yj.1 c;obtain⟨h,j⟩:=tF.1 h;refine yj.2 ⟨swF a b d,tF.2 ⟨ae6.2 (by rwa[amx]),j⟩,?_⟩;obtain⟨m,l,rfl⟩:=dg.1 c;show(hU (swE a b aqL) aq0.ad (d.ad.map (swV a b))).map (λn=>jq n aq0 d.af)=_;rw[aow g _ _ e.1,l];show T (jq (swE a b m) aq0 d.af)=_;unfold jq;split<;>rfl
 ·rename_i f
  rw[if_neg f,aoJ g e.1,apr g k e i];split at c
  ·rw[lV]at c
   rw[c];simp_all
  ·cases c
theorem anp(l:swV a b zV=zV)(j:fY aqx)(k:∀d∈arM,PJ apO aqK d)(h:∀d∈arM,am0 a b d):∀(e:List Nat){f g:aX},g∈kY apO aqx arM e f->swE a b g∈kY apO (swI a b aqx) arM e (swE a b f)
 |[],f,g,c=>by
  simp only[kY,lV]at c⊢;rw[c]
 |i::e,f,g,c=>by
  rw[kY]at c⊢;split at c
  ·rename_i d n
   have m:=sG n;obtain⟨p,o,c⟩:=TJ.1 c;exact TJ.2 ⟨_,aoM l (k d m) (h d m) j o,anp l j k h e c⟩
  ·exact anp l j k h e c
def amG(a b:aO)(c:aG):Prop:=amW a b c.ad/\∀d∈c.ae,am0 a b d
theorem aoZ(f:swV a b zV=zV)(h:fY aqx)(j:∀k∈aqK.ae,PJ apO aqK k)(d:amG a b aqK)(i:aqY∈tg apO aqx aqK):swF a b aqY∈tg apO (swI a b aqx) aqK:=by
 obtain⟨g,c,rfl⟩:=du.1 i;refine du.2 ⟨swE a b g,?_,?_⟩
 ·unfold fA at c⊢
  split at c
  ·cases c
  ·rw[Po]at c⊢
   obtain⟨l,e,c⟩:=TJ.1 c;rw[lV]at e;subst e;exact TJ.2 ⟨e0,by simp,anp f h j d.2 _ c⟩
 ·unfold iR swF
  rw[aou f d.1];rfl
theorem ann{gs:List aw}:AtF apO (swI a b gs) aqY<->AtF apO gs (swF a b aqY):=by
 constructor
 ·rintro⟨g,f,c,d,e⟩
  exact⟨swF a b g,ae6.1 f,c,by simp[swF,d],e⟩
 ·rintro⟨g,f,c,d,e⟩
  exact⟨swF a b g,ae6.2 (by rwa[amx]),c,by show g.ad.map _=_;rw[d];exact amE _,e⟩
theorem an1{gs:List aw}:aeh apO (swI a b gs) aqY<->aeh apO gs (swF a b aqY):=or_congr Iff.rfl ann
theorem ant:LeI apO (swI a b aqx) asn<->LeI apO aqx (swI a b asn):=by
 constructor
 ·exactλc e d=>ann.2 (c _ (ae6.2 (by rwa[amx])))
 ·intro c e d
  have:=ann.1 (c _ (ae6.1 d));rwa[amx]at this
theorem anm{j:List aO}(l:∀e∈apO.ah,amG a b e)(c:ti apO j):ti apO (j.map (swV a b)):=by
 refine⟨c.aV,c.aet,c.hG,c.safe,λe f=>⟨λi g h=>?_,λm k i g h=>?_⟩,c.ah,c.d,λe f=>by rw[kd];exact c.q3 e f⟩
 ·exact du.2 ⟨_,(c.uP e f).1 i g h,(l e f).1 i g h⟩
 ·exact du.2 ⟨_,(c.uP e f).2 m k i g h,((l e f).2 m k).1 i g h⟩
section
variable{p:aj}{fB:List aO}(hzN:swV a b zV=zV)(hr:∀r∈p.ah,amG a b r)(hp:ti p fB)(c:List Int){fs:List aw}(hf:dq p fB fs)
include hzN hr hp hf
theorem aon:LeI p (nK p c (swI a b fs)) (swI a b (nK p c fs)):=by
 have h:=anm hr hp;refine anM h (alk hf) (alk (EC hp hf c).1) λr d g i f=>an1.2 ?_;have e:=aoZ hzN (alk (a:=a) (b:=b) hf).fz (hp.hG r d).lits (hr r d) f;rw[amN hf.fz]at e;exact anN hp hf r d g _ e
theorem apv:nK p c (swI a b fs)=swI a b (nK p c fs):=by
 have d:=anm hr hp;refine ans hp.aV (EC d (alk hf) c).1 (alk (EC hp hf c).1) (aon hzN hr hp c hf) (ant.2 ?_);have e:=aon hzN hr d c (alk hf);rwa[amN hf.fz]at e
theorem aoc:LeI p (iG p c (swI a b fs)) (swI a b (iG p c fs)):=by
 have g:=(EC hp hf c).1;have h:=amV hp.aV (nK p c fs) (λe d=>(hf.ok e d).af) λe d=>(g.ok e d).af;have f:=alk (a:=a) (b:=b) (Il hp hf c).1;have i:iG p c (swI a b fs)=jm p (swI a b fs) (swI a b (nK p c fs)):=by rw[<-apv hzN hr hp c hf]<;>rfl
 rw[i];refine anR hp.aV f.fz (λe d=>(f.ok e d).af) _ (λe d=>((alk (a:=a) (b:=b) hf).ok e d).af) (λe d=>((alk (a:=a) (b:=b) g).ok e d).af) (ant.2 ?_) λk j=>an1.2 (h.2 _ (ae6.1 j));rw[amN (Il hp hf c).1.fz];exact h.1
theorem anl:iG p c (swI a b fs)=swI a b (iG p c fs):=by
 have d:=anm hr hp;refine ans hp.aV (Il d (alk hf) c).1 (alk (Il hp hf c).1) (aoc hzN hr hp c hf) (ant.2 ?_);have e:=aoc hzN hr d c (alk hf);rwa[amN hf.fz]at e
end
theorem aog:jP aqx=aa<->∀e,fS aqx e<=2000:=by
 refine⟨aej,λd=>?_⟩;unfold jP;rw[<-Kr,FE];rintro⟨a,b,c⟩;have b:a<Z aqx:=by simpa using b
 rw[si,bC b]at c;simp only[decide_eq_true_eq]at c;have f:=d aqx[a].aq;have g:fS (aqx.take (a+1)) aqx[a].aq<=fS aqx aqx[a].aq:=by
  unfold fS;exact List.Sublist.length_le ((List.take_sublist _ _).filter _)
 omega
theorem anF(c:List aw):jP (swI a b c)=jP c:=by
 have e:∀d,fS (swI a b c) d=fS c d:=λd=>by
  unfold fS;rw[((amZ c).filter _).length_eq,List.filter_map,kd];rfl
 have:jP (swI a b c)=aa<->jP c=false:=by
  rw[aog,aog];simp only[e]
 cases f:jP c<;>simp_all
theorem aok(g:swV a b zV=zV){j:List aO}(f:∀asb∈apO.ah,amG a b asb)(e:ti apO j)(d:sn apO arc aoO aqx asb):dq apO j aqx->sn apO arc aoO (swI a b aqx) (asb.map (swI a b)):=by
 induction d with
 |over aoO aqx d=>exactλc=>.over _ _ (by rw[anl g f e arc c,anF];exact d)
 |stop aoO aqx d h=>exactλc=>.stop _ _ (by rw[anl g f e arc c,anF];exact d) (by rw[anl g f e arc c,h])
 |next aoO aqx asb d h n m=>
  intro c;have i:=anl g f e arc c;have k:=(Il e c arc).1;refine .next _ _ _ (by rw[i,anF];exact d) (λl=>h ?_) (by rw[i];exact m k);rw[i]at l;rw[<-amN (a:=a) (b:=b) k.fz,l,amN c.fz]
theorem apq(j:swV a b zV=zV){h:List aO}(i:∀asb∈apO.ah,amG a b asb)(f:ti apO h){d:List (List Int)}(c:ra apO d aqx asb):dq apO h aqx->ra apO d (swI a b aqx) (asb.map (swI a b)):=by
 induction c with
 |nil aqx=>exactλ_=>.nil _
 |none k d g aqx c=>exactλe=>.none _ _ g _ (aok j i f c e)
 |cons k d g aqx gs asb c m l=>exactλe=>.cons _ _ g _ _ _ (aok j i f c e) (l (amY f c e gs rfl).1)
end
def amF(c:List Obj)(b:AV)(a:List aw):Prop:=lN c b a\/∃d,b=eS d (cF aa) a
variable{apF:List Obj}{apE:AV}
theorem amF.g3(a:amF apF apE aqx):apE.pl=apE/\∃b,aI apF .cm apE.pl (eS b (cF aa) aqx):=by
 rcases a with a|⟨b,rfl⟩
 ·exact⟨a.pl,ab,by rw[a.pl];exact a.g3⟩
 ·exact⟨rfl,b,Im.snap (by simp)⟩
open Go.Proofs
variable{apQ aqC aq8:AV}
theorem r11:qQQ 11 [apE,apQ,aqC,aq8] 0xba987601880987654a288007706129e1013e3ce0622ae1013e006701013e0d210e60114e2429e698732fe54332fe3ee415e0ee28e7d0eeb0007706129e1013e3ce0632be1013e006401013e11e9d0ee010ed250eeb470613e01013ec00615e01013e017eb020fe637e415e10e21e816eb111ce001ce04217e60134e2429e611e10e0fe32fedcb32fe2fe415e2ee415e111ce001ce2de0217e62ae415e00a9876515e388067052113e10e11e00620c2013ec11e003ce74706b27e1013e00610e01013e012be35c07921e16e07921e3be330ee01d55700921e11e07921e36e33b404908d07921e32e330fe40390827e330fe00620a2013ea11e0025e74706801013ec006a01013e0155edcb32fe60fe31fe10e0155e76532fe3c31feb4029a80fe05a0121ee62ae10e415e000fe7470654a980702c00987dcb0702c00ba90fe0eed0702c000eedc12e11e10e0702c0010e0fe0ee14e13e12e0702017e0128e6dcb32fe10e017e0128e60eedc32fe10e2029e13e3ee10e0129e14e50fe3ee10e017ec021fe69415eb0327e9127e60327e4127e60c60414e:=
 ru Tryz.func11 (an 0x800000400000100208000810000000fff1f 0x80000040000010020800081000000000000 [10,11] [] [] []) []
theorem r25:qQQ 25 [apE] 0x7100102a000102a00010240d080147e67415e0ee01d05080146e62415e0ee0130e60415eb0414e:=
 ru Tryz.func25 (am 7 0) []
theorem r31:qQQ 31 [apE,apQ] 0x122007c0007202711e00974017e014721e4a0321e7234029780fe05a0007a4100102c000102c000102017ea021ae67415e10e017e0119e64415e10e017e0413d6bb8f50415eb0414e:=
 ru Tryz.func31 (am 0x2001100037 0x2001100000) []
theorem r41:qQQ 41 [apE,apQ,aqC,aq8] 0x12202700604b4400121213e11e011e1359e23e65432fe16e415e00400013e511e306543020087630210322ea632ee1ce315e40155e19e315e6031fe13e1be1321e3098730200ba930210322e7932ee18e315e40155e17e315e3031fe10e18e1321ebb4019280fe030e1020e326e36e60ee1321e3b32ce4029980fe0531ee31ee5314e3314e0414e:=
 ru Tryz.func41 (an 0x4000800800011fdf 0x4000800800010000 [11] [(8,3),(9,3)] [23] []) [71]
noncomputable def amA(a:aj):Bool:=iH a&&(Z (nA a):Int)==0&&(Z (se a):Int)==0
variable{apN:Bool}
theorem k25(a:aj)(g:dW a)(d:Z a.ah<=20)(h:∀i∈a.ah,j6 i)(e:nN a->ky a):PR C 25 [.agg (cP aa apN a)] (.bool (amA a)):=by
 refine r25.pr ?_;simp only[dS,Q,fQ,bo,G];refine f (afx a g) (aZ (λb=>?_) (λb=>bE (by rw[amA,b]<;>rfl)));refine f (Ot a d h) ?_;simp only[a8,c9,Q];refine aZ (λc=>?_) (λc=>bE (by rw[amA,b,c]<;>rfl));refine f (O4 a (e (QM.1 b)) d) ?_;simp only[a8,c9,Q];exact gU (by rw[amA,b,c]<;>rfl)
noncomputable def amD(a:aj)(b:List aw):Bool:=r9 a b 3000&&amA a&&jk a b&&b.all (oB a)
variable{aqw:Bool}
theorem k31(b:aj)(c:List aw)(o:dW b)(n:Sm c)(w:∀v∈c,eO v.ad):PR C 31 [.agg (cP aa apN b),eS aqw (cF aa) c] (.bool (amD b c)):=by
 refine r31.pr ?_;simp only[dS,Q,fQ];refine eh (N:=[]) (!(r9 b c 3000&&amA b&&jk b c)) (λH j=>?_) ?_
 ·refine f (acP b c 3000 (by omega) o n) ?_
  simp only[bD,Q];refine dx (λe=>?_) (λe=>kB j (by simp_all));have e:r9 b c 3000=true:=by simpa using e
  have s:=Ce e;obtain⟨B,z,-⟩:=Cd s;refine f (k25 b o z B (SW s)) ?_;simp only[bD,Q];refine dx (λh=>?_) (λh=>kB j (by simp_all));have h:amA b=true:=by simpa using h
  have E:nN b:=by
   simp only[amA,bG]at h;exact QM.1 h.1.1
  refine f (adS b c o (SM E) n w) ?_;simp only[bD,Q];exact kB j (by simp_all)
 simp only[G];refine c8 (λe=>bE (by rw[amD,e]<;>rfl)) (λe=>?_);have x:jk b c=true:=by
  simp only[bG]at e;exact e.2
 have y:=aiO x;refine et (U:=Z c) (c:=λk=>[ff,I k]) (λk=>(c.take k).all (oB b)=ab) (by simp) rfl (λk g l t j=>?_) (λl t=>?_)
 ·obtain⟨u,q,m⟩:=y _ (bs g)
  have r:oB b c[k]=b.d[u].fI:=by
   unfold oB;rw[m,ej,bC q]
  simp only[i,G,a8,A,Q,a,g,decide_true,a6,aH,iy,aJ,aC g (hE _ _),p5,m,aC q (hD _ _),AP,bD];refine a7 ?_;refine c8 (λp=>bE ?_) (λp=>?_)
  ·rw[amD,e,cu,List.all_eq_false]
   exact⟨_,bs g,by rw[r,p];simp⟩
  ·rw[n.inc g,Q]
   refine j ?_;rw[mD g,l,r,p]<;>rfl
 ·simp only[i,G,a8,A,Q,a,ca,decide_false]
  refine bq (hR ?_);rw[dB]at l;rw[amD,e,l]<;>rfl
structure anW(p:aj)(fs:List aw):Prop where
 r9:r9 p fs 3000=ab
 q3:qi p fs
 val:nN p
 uns:nA p=[]
 str:se p=[]
 form:jk p fs=ab
 fI:fs.all (oB p)=ab
theorem aoP(a:amD apO aqx=ab):anW apO aqx:=by
 simp only[amD,amA,bG,beq_iff_eq]at a;obtain⟨⟨⟨b,⟨c,f⟩,g⟩,d⟩,e⟩:=a;exact⟨b,Ce b,QM.1 c,wF (by omega),wF (by omega),d,e⟩
theorem ao2(i:eP C)(j:wA C)(l:x5 C)(a:anW apO aqx)(h:dW apO)(d:∀k∈aqx,eO k.ad):
 ∃b,ra apO (xV apO) aqx b/\(∀gs,b=T gs->dq apO (pa apO aqx) gs/\jP gs=aa)/\PR C 23 [.agg (cP aa apN apO),eS aqw (cF aa) aqx] (BL b):=by
 obtain⟨p,-,o⟩:=Cd a.q3;have f:=JV a.r9 a.val h d a.uns;have e:=JW a.val a.form;have r:=a.q3.facts;obtain⟨b,g,m⟩:=PT f.v (xV apO) e (Io (by omega));have n:qH apO aqx=true:=by
  rw[qH,a.form,a.fI,QM.2 a.val]<;>rfl
 refine⟨b,g,m,jr i j l (V:=apN) (F:=aqw) (bp:=false) apO aqx h (by unfold Sm;omega) d (BL b) (λc=>by rw[n]at c;cases c) λ_=>?_⟩;exact⟨o,p,SW a.q3 a.val,λc=>absurd a.uns c,λ_ c=>absurd a.str c,λ_ _=>⟨_,b,f,e,by omega,g,rfl⟩⟩
def cMf(a:aw×AV):List AV:=[I a.1.aq,a.2,I a.1.af]
def amy(c:List Obj)(d:AV)(b:List aO):Prop:=∃id a,d=.q id a 0 (Z b)/\c[id]?=T (.arr a 3 (b.map cV))
variable{arn:List Obj}
theorem amy.ext(c:amy apF apE aqF)(a:hT apF arn):amy arn apE aqF:=by
 obtain⟨id,b,d,e⟩:=c;exact⟨id,b,d,a _ _ e⟩
theorem amy.g3(a:amy apF apE aqF):aI apF .cm apE (eS ab cV aqF):=by
 obtain⟨id,c,rfl,b⟩:=a;exact l7 b (by simp)
theorem amy.res(a:amy apF apE aqF):aI apF .res apE (eS aa cV aqF):=by
 obtain⟨id,c,rfl,b⟩:=a;exact fx b (by simp)
structure ael(H:List Obj)(v:AV)(L:List (aw×AV)):Prop where
 mem:∃id gg,v=.q id gg 0 (Z L)/\H[id]?=T (.arr gg 3 (L.map cMf))
 aE:∀x∈L,amy H x.2 x.1.ad
variable{arZ:List (aw × AV)}
theorem ael.ext(c:ael apF apE arZ)(a:hT apF arn):ael arn apE arZ:=by
 obtain⟨⟨id,b,d,e⟩,f⟩:=c;exact⟨⟨id,b,d,a _ _ e⟩,λh g=>(f h g).ext a⟩
theorem ael.pl(a:ael apF apE arZ):apE.pl=apE:=by
 obtain⟨⟨id,b,rfl,-⟩,-⟩:=a;rfl
variable{aq6:Md}
theorem anJ{a:aw×AV}(b:aI apF aq6 a.2 (eS apN cV a.1.ad)):bR apF aq6 (cMf a) (cF apN a.1):=
 .cons _ _ _ _ _ (.int _ _ _) (.cons _ _ _ _ _ b (.cons _ _ _ _ _ (.int _ _ _) (.nil _)))
theorem anI:∀{a:List (aw×AV)},(∀x∈a,aI apF aq6 x.2 (eS apN cV x.1.ad))->eX apF aq6 (a.map cMf) ((a.map Prod.fst).map (cF apN))
 |[],_=>.nil _
 |x::a,b=>.cons _ _ _ _ _ (anJ (b x (by simp))) (anI λd c=>b d (by simp[c]))
theorem ael.g3(b:ael apF apE arZ):aI apF .cm apE (eS ab (cF ab) (arZ.map Prod.fst)):=by
 obtain⟨⟨id,a,rfl,c⟩,d⟩:=b;refine .vq id a 0 _ 3 _ _ c (by simp) ?_;rw[jR,fW (by simp)];exact anI λf e=>(d f e).g3
theorem ael.res(b:ael apF apE arZ):aI apF .res apE (eS aa (cF aa) (arZ.map Prod.fst)):=by
 obtain⟨⟨id,a,rfl,c⟩,d⟩:=b;refine .na id a 0 _ 3 _ _ c (by simp) ?_;rw[jR,fW (by simp)];exact anI λf e=>(d f e).res
theorem ael.ld(d:ael apF apE arZ)(b:aoO<Z arZ):∃c,bY 3 apE (I aoO) apF=T c/\aR 3 ab c apF=T (.agg (cMf arZ[aoO])):=by
 obtain⟨⟨id,e,rfl,a⟩,f⟩:=d;exact⟨_,e3 a b,kV a (by simp[b]) rfl⟩
theorem ael.take(d:ael apF apE arZ)(b:aoO<=Z arZ):∃c,dV (.sl 3) apE D (T (I aoO)) apF=T c/\hQ apF 3 c=T ((arZ.take aoO).map cMf):=by
 obtain⟨⟨id,e,rfl,a⟩,f⟩:=d;exact⟨_,Pc a b,by rw[H3 a (by simpa using b),jR,Ks]⟩
theorem ael.drop(e:ael apF apE arZ)(f:aoO<=Z arZ):∃d,∀a,hT apF a->dV (.sl 3) apE (T (I aoO)) D a=T d/\hQ a 3 d=T ((arZ.drop aoO).map cMf):=by
 obtain⟨⟨id,g,rfl,c⟩,h⟩:=e;exact⟨_,λa b=>⟨Er (b _ _ c) f,by rw[H3 (b _ _ c) (by simp;omega),Ku,fW (by simp)]⟩⟩
theorem ao4(j:aj)(e:List (aw×AV))(a:aw)(bi:dW j)(bb:kz j)(bg:ep j a.aq=ab)(bH:Z e<4294967296)(V:∀n∈e.map Prod.fst,eO n.ad)(aQ:fY (e.map Prod.fst))(x:ael apF apE e)(H:amy apF apQ a.ad)(a3:¬amu j a)(a9:sf (e.map Prod.fst) a.aq a.ad= -1):
 HR C 89 [.agg (cP apN aqw j),apE,.agg (cMf (a,apQ))] apF (λbr v=>hT apF v/\∃R,ael v br R/\R.map Prod.fst=j8 (e.map Prod.fst) a):=by
 have w:(AV.agg (cMf (a,apQ))).pl=.agg (cMf (a,apQ))/\iD 3 (.agg (cMf (a,apQ)))=T (.aK aa (cMf (a,apQ)) 0)/\apQ.pl=apQ:=by
  obtain⟨id,B,rfl,-⟩:=H;exact⟨rfl,rfl,rfl⟩
 refine YG.hq ?_ (by rw[eJ,eJ,eJ,x.pl,w.1]<;>rfl);obtain⟨n,N,F⟩:=zi bg;have ax:(cMf (a,apQ))[0]?=T (I a.aq):=rfl;have aB:(cMf (a,apQ))[1]?=T apQ:=rfl;have aL:(cMf (a,apQ))[2]?=T (I a.af):=rfl;have bp:∀v,aR 3 ab (.aK aa (cMf (a,apQ)) 0) v=T (.agg (cMf (a,apQ))):=λ_=>rfl;simp only[dS,w.2.1,Q,eA,dZ,a6,aH,oe,iy,ax,aB,aL,aJ,N,aC F (hD _ _),yO,gF,bp];have O:hT apF (apF++[.arr 0 3 []]):=hT.app _ _
 generalize apF++[Obj.arr 0 3 []]=k at*;have p:=x.ext O;have E:=H.ext O;have bf:e8 j a.aq=if j.d[n].of<0 then D else j.m[j.d[n].of.toNat]?:=by
  rw[e8,N,ej,bC F]
 have bL:=bb _ (bs F);refine eh (N:=k) aa (λbm u=>?_) ?_
 ·by_cases a4:j.d[n].of<0
  ·exact aZ (λh=>by simp at h;omega) (λ_=>u)
  ·obtain⟨y,X⟩:∃y:Nat,j.d[n].of=y:=⟨j.d[n].of.toNat,by omega⟩
   have M:y<Z j.m:=by omega
   have be:e8 j a.aq=T j.m[y]:=by rw[bf,if_neg a4,X,ej,bC M]
   rw[X];refine aZ (λ_=>?_) (λh=>by simp at h);simp only[aC M (jh _ _),Q,hF];refine f (zc _ (bi.aV _ (bs M))) ?_;simp only[c9,Q];exact kB u (by rw[eq_comm,beq_eq_false_iff_ne];exactλl=>a3 ⟨_,be,l⟩)
 simp only[G];refine bq ?_;have U:=En (V:=true) (F:=true) (bp:=true) (e.map Prod.fst) a.aq a.ad (by unfold Sm;rw[kd];omega) V aQ;rw[a9,N]at U;have bv:bR k .cm ([apE,I (n:Int),apQ].map AV.pl) [eS ab (cF ab) (e.map Prod.fst),I (n:Int),eS ab cV a.ad]:=by
  rw[eJ,eJ,eJ,x.pl,w.2.2];exact .cons _ _ _ _ _ p.g3 (.cons _ _ _ _ _ (.int _ _ _) (.cons _ _ _ _ _ E.g3 (.nil _)))
 refine ea _ U bv (.int _ _) ?_;simp only[gF,Q];refine bq ?_;have a2:fX .sl apE k=T (I (Z e)):=by
  obtain⟨id,B,rfl,-⟩:=x.mem;rfl
 simp only[a2,Q];generalize L:e.map Prod.fst=i at*;have a0:Z i=Z e:=by rw[<-L,kd]
 refine bB (z:=Nat) (λg=>[I g]) (λ_=>k) (λg=>g) (λg=>g<=Z e/\kA i a (Z i)=kA i a g) (Z e) ⟨di _,by rw[a0]⟩ ?_;rintro g ⟨W,aU⟩ bw ac;have Y:∀c:Nat,g=c+1->aS .s .sub (I (g:Int)) (I 1)=T (I (c:Int)):=λc l=>by
  rw[og (by omega) (by omega),l];simp
 have J:∀c(o:c<Z i),kA i a (c+1)=if 0<db i[c] a then kA i a c else c+1:=λc o=>by
  rw[kA,bC o]
 refine eh (N:=k) (S (kA i a g<g)) (λbm u=>?_) ?_
 ·simp only[G,er,Q]
  cases g with
  |zero=>exact aZ (λh=>by simp at h) (λ_=>kB u (by simp))
  |succ c=>
   refine aZ (λ_=>?_) (λh=>by simp at h);obtain⟨bS,z,A⟩:=p.ld (aoO:=c) (by omega);simp only[Y c rfl,Q,z,A];have o:c<Z i:=by omega
   have ar:e[c].1=i[c]:=by simp only[<-L,wH]
   have bu:bR k .cm ([AV.agg (cMf e[c]),AV.agg (cMf (a,apQ))].map AV.pl) [.agg (cF ab i[c]),.agg (cF ab a)]:=by
    have q:(AV.agg (cMf e[c])).pl=.agg (cMf e[c]):=by
     obtain⟨id,B,l,-⟩:=p.aE _ (bs (by omega:c<Z e));rw[cMf,l]<;>rfl
    rw[eJ,eJ,w.1,q,<-ar];exact .cons _ _ _ _ _ (.agg _ _ _ (anJ (p.aE _ (bs _)).g3)) (.cons _ _ _ _ _ (.agg _ _ _ (anJ (a:=(a,apQ)) E.g3)) (.nil _))
   refine ea _ (HY (V:=true) (F:=true) i[c] a (V _ (bs o))) bu (.int _ _) ?_;simp only[er,Q];refine kB u ?_;have:=Pb i a c;rw[J c o];split<;>simp_all<;>omega
 simp only[G];refine b (λl=>?_) (λl=>?_)
 ·have l:kA i a g<g:=by simpa using l
  obtain⟨c,rfl⟩:∃c,g=c+1:=⟨g -1,by omega⟩;rw[Y c rfl,Q];have o:c<Z i:=by omega
  refine ac c ⟨by omega,?_⟩ (by omega);rw[aU,J c o];rw[J c o]at l;split
  ·rfl
  ·rename_i h
   rw[if_neg h]at l;omega
 ·have l:kA i a (Z i)=g:=by
   have:=Pb i a g;simp at l;omega
  clear ac;obtain⟨w1,z,A⟩:=p.take W;obtain⟨b2,q⟩:=p.drop W;have ak:fw 3 [(I 0),.ai,(I 0)] 1 [(0,.agg (cMf (a,apQ)))]=T (.sl aa [cMf (a,apQ)]):=by
   obtain⟨id,B,rfl,-⟩:=H;rfl
  rw[z,Q,ak,Q,(q k (hT.refl _)).1,Q];refine bj (nu (a2:=cMf) (o:=e.take g) rfl A (by simp;omega)) ?_;rw[DV k 3 cMf (e.take g) (.arr 0 3 [])];have K:Z k<Z (k++[Obj.arr 0 3 []]):=by simp
  have t:∀(au:Nat)(ae:List (aw×AV)),hT k (aY (k++[Obj.arr 0 3 []]) (Z k) 3 cMf au ae):=λ_ _=>(hT.app _ _).set (di _);refine⟨by rw[(q _ (t _ _)).1,Q];exact rfl,rfl,?_⟩;refine xq (a2:=cMf) K rfl (by simp;omega) ?_;refine⟨by rw[(q _ (t _ _)).1,Q];exact rfl,?_⟩;refine bj (Ho K (q _ (t _ _)).2 (by simp;omega)) ?_;refine⟨O.trans (t _ _),e.take g++[(a,apQ)]++e.drop g,⟨⟨Z k,_,rfl,oo K⟩,λP r=>?_⟩,?_⟩
  ·have r:P∈e\/P=(a,apQ):=by
    simp only[fH,c5,lV]at r;rcases r with h|h|h
    ·exact .inl (qL h)
    ·exact .inr h
    ·exact .inl (List.mem_of_mem_drop h)
   rcases r with r|rfl
   ·exact(p.aE P r).ext (t _ _)
   ·exact E.ext (t _ _)
  ·rw[j8,l,<-L]
   simp[Ks,Ku]
variable{aqu:Nat}
theorem aps{id:Nat}(b:apF[id]?=T (.arr aoO 3 (aqF.map cV)))(a:aqu<Z aqF):df 3 (.ptr id aoO aqu 0) (.agg (cV art)) apF=T (apF.set id (.arr aoO 3 ((aqF.set aqu art).map cV))):=by
 have f:(aqF.map cV)[aqu]?=T (cV aqF[aqu]):=by simp[a]
 have e:(aqF.map cV).set aqu (eV (cV aqF[aqu]) 0 (cV art))=(aqF.set aqu art).map cV:=by
  rw[List.map_set]<;>rfl
 have c:(AV.agg (cV art)).pl.cells=cV art:=rfl;have d:(cV art).all AV.bP=true:=rfl;simp[df,b,e,c,d,a]
def alm(c d:aO)(b:List aO)(a:Nat):List aO:=(b.take a).map (swV c d)++b.drop a
theorem apd{a:aO}:Z (alm art a aqF aoO)=Z aqF:=by simp[alm];omega
theorem ape{a:aO}(b:aoO<Z aqF):(alm art a aqF aoO).set aoO (swV art a aqF[aoO])=alm art a aqF (aoO+1):=by
 have c:Z ((aqF.take aoO).map (swV art a))=aoO:=by simp;omega
 unfold alm;rw[Kd _ _ (by omega),c,Ke,mQ b,yk,hX b,ht,fH];rfl
theorem apc{a:aO}(b:aoO<Z aqF):(alm art a aqF aoO)[aoO]?=T aqF[aoO]:=by
 have c:Z ((aqF.take aoO).map (swV art a))=aoO:=by simp;omega
 unfold alm;rw[FH (by omega),c,Ke,akT,fo,bC b]
theorem apy{a:aO}(b:aoO<Z aqx):swI art a (aqx.take (aoO+1))=j8 (swI art a (aqx.take aoO)) (swF art a aqx[aoO]):=by
 unfold swI;rw[hX b,ht,vj];rfl
theorem k41(y:aj)(c:List aw)(g h:aO)(bp:dW y)(bi:kz y)(F:dq y aqF c)(bf:amB y c)(cn:Z c<=48000)(Y:∀p∈c,eO p.ad)(a0:Sm g.s)(N:Sm h.s)(aU:∀bL∈y.d,Z bL.bb<=1000):PR C 41 [.agg (cP aa apN y),eS aqw (cF aa) c,.agg (cV g),.agg (cV h)] (eS aa (cF aa) (swI g h c)):=by
 refine r41.pr ?_;have bH:∀f,aR 4 ab (.aK aa (cP aa apN y) 0) f=T (.agg (cP aa apN y)):=λ_=>rfl;simp only[dS,xf,Q,eA,dZ,a8,c3,de,fm,gz];refine bB (z:=Nat×AV×List Obj×List (aw×AV)) (λl=>[l.2.1,I l.1]) (λl=>l.2.2.1) (λl=>Z c -l.1) (λl=>l.1<=Z c/\ael l.2.2.1 l.2.1 l.2.2.2/\l.2.2.2.map Prod.fst=swI g h (c.take l.1)) (0,.q 1 0 0 0,[.arr 0 3 [],.arr 0 3 []],[]) ⟨by simp,⟨⟨1,0,rfl,rfl⟩,by simp⟩,rfl⟩ ?_
 rintro⟨e,ak,f,B⟩ ⟨a9,x,t⟩ ce P;simp only at a9 x t P⊢;simp only[i,G,A,Q,a];refine b (λr=>?_) (λr=>?_)
 ·have r:e<Z c:=by simpa using r
  have E:=bs r;have ah:=λak f B x t=>P (e+1,ak,f,B) ⟨r,x,t⟩ (by simp;omega);simp only[apy r]at ah;clear P;have a2:fY (c.take e):=H4.2 ((H4.1 F.fz).sublist (List.take_sublist _ _));have bg:sf (B.map Prod.fst) (swF g h c[e]).aq (swF g h c[e]).ad= -1:=by
   rw[t,sf,bN];have:(swI g h (c.take e)).findIdx? (gW (swF g h c[e]).aq (swF g h c[e]).ad)=none:=by
    rw[wK];intro w v;rw[<-Kr];intro K;simp only[gW,bG,beq_iff_eq,decide_eq_true_eq]at K;have v:=ae6.1 v;have o:swF g h w=c[e]:=Pr F.fz _ (qL v) _ E K.1 (by show w.ad.map _=_;rw[K.2];exact amE _);rw[o]at v;obtain⟨bz,be,o⟩:=jS.1 v;rw[gb]at be;rw[Cu]at o;have z:=F.fz bz e (by omega) r (by omega);rw[o]at z;have J:=(zj c[e] c[e]).2 ⟨rfl,rfl⟩;omega
   rw[this]
  have co:Z B=e:=by
   have z:=congrArg List.length t;rw[kd,(amZ _).length_eq,kd,gb]at z;omega
  have br:∀p∈c,eO (p.ad.map (swV g h)):=λp a3=>by
   obtain⟨z,J⟩:=Y p a3;refine⟨by unfold Sm at*;rw[kd];exact z,λL bv=>?_⟩;obtain⟨b3,bw,rfl⟩:=du.1 bv;unfold swV;split
   ·exact N
   ·split
    ·exact a0
    ·exact J b3 bw
  have V:∀p:aw,(cF aa p)[1]?=T (eS aa cV p.ad):=λ_=>rfl;simp only[aC r (hE _ _),Q,my,GG,a6,aH,V,aJ];have z:=Y _ E;have ci:Z c[e].ad<=1000:=by
   obtain⟨w,v,n,k⟩:=(F.ok _ E).fJ;rw[k];exact aU _ (bs v)
  refine bj (nu (a2:=cV) (o:=c[e].ad) rfl (r8 lZ _ _ _) (by omega)) ?_;rw[DV f 3 cV c[e].ad (.arr 0 3 [])];have X:Z f<Z (f++[Obj.arr 0 3 []]):=by simp
  have b2:∀(m:List aO),hT f (aY (f++[Obj.arr 0 3 []]) (Z f) 3 cV 0 m):=λ_=>(hT.app _ _).set (di _);have aB:lX (.q (Z f) 0 0 (Z c[e].ad))=T (.q (Z f) 0 0 (Z c[e].ad)):=rfl;rw[aB,Q];refine bB (z:=Nat) (λj=>[I j,I c[e].aq,.q (Z f) 0 0 (Z c[e].ad),I c[e].af]) (λj=>aY (f++[Obj.arr 0 3 []]) (Z f) 3 cV 0 (alm g h c[e].ad j)) (λj=>Z c[e].ad -j) (λj=>j<=Z c[e].ad) 0 (by simp) ?_ (by rfl) (by simp[alm])
  intro j K au R;simp only[i,G,nj,A,Q,a];refine b (λu=>?_) (λu=>?_)
  ·have u:j<Z c[e].ad:=by simpa using u
   have ae:=R (j+1) u (by omega);rw[<-ape u]at ae;clear R;have O:j<Z (alm g h c[e].ad j):=by rw[apd];exact u
   have a4:=apc (art:=g) (a:=h) u;generalize alm g h c[e].ad j=m at*;have U:∀(m:List aO)(L:aO),j<Z m->∀M:List Obj->Prop,M (aY (f++[Obj.arr 0 3 []]) (Z f) 3 cV 0 (m.set j L))->bd (bY 3 (.q (Z f) 0 0 (Z c[e].ad)) (I j) (aY (f++[Obj.arr 0 3 []]) (Z f) 3 cV 0 m)) λw=>bd (df 3 w (.agg (cV L)) (aY (f++[Obj.arr 0 3 []]) (Z f) 3 cV 0 m)) M:=by
    intro m L x M W;have ac:=oo (N:=f++[Obj.arr 0 3 []]) (U:=3) (a2:=cV) (O:=0) (o:=m) X;rw[e3 ac u,Q,aps ac x,Q];unfold aY at W⊢;rw[ak9];exact W
   simp only[bo,aC r (hE _ _),aC u (lZ _),Q,a6,aH,V,aJ,oa,Vw,i,G];have H:∀S,S=m.set j (swV g h c[e].ad[j])->bd (aS .s .add (I (j:Int)) (I 1)) λw=>au [w,I c[e].aq,.q (Z f) 0 0 (Z c[e].ad),I c[e].af] (aY (f++[Obj.arr 0 3 []]) (Z f) 3 cV 0 S):=λS o=>by
    rw[ba,Q,o];exact ae
   refine b (λn=>?_) (λn=>?_)
   ·have n:c[e].ad[j]=g:=by simpa using n
    refine U m h O _ ?_;refine b (λk=>?_) (λk=>?_)
    ·have k:c[e].ad[j]=h:=by simpa using k
     refine U _ g (by simpa using O) _ (H _ ?_);rw[ak9,swV,if_pos n,<-k,<-n]
    ·refine H _ ?_
     rw[swV,if_pos n]
   ·have n:¬c[e].ad[j]=g:=by simpa using n
    refine b (λk=>?_) (λk=>?_)
    ·have k:c[e].ad[j]=h:=by simpa using k
     refine U _ g O _ (H _ ?_);rw[swV,if_neg n,if_pos k]
    ·have k:¬c[e].ad[j]=h:=by simpa using k
     refine H _ ?_;obtain⟨_,o⟩:=e6.1 a4;rw[swV,if_neg n,if_neg k,<-o,zY]
  ·have o:j=Z c[e].ad:=by simp at u;omega
   clear R;have aL:alm g h c[e].ad j=(swF g h c[e]).ad:=by simp[alm,swF,o]
   rw[aL]
   try simp only[bH,Q]
   have bu:amy (aY (f++[Obj.arr 0 3 []]) (Z f) 3 cV 0 (swF g h c[e]).ad) (.q (Z f) 0 0 (Z c[e].ad)) (swF g h c[e]).ad:=⟨Z f,0,by simp[swF],oo X⟩;refine cY (ao4 y B (swF g h c[e]) bp bi (F.ok _ E).zn (by omega) (λw v=>?_) (by rw[t];exact am3 a2) (x.ext (b2 _)) bu (λN=>bf _ E N) bg) (by rw[eJ,eJ,x.pl]<;>rfl) λbS ar bm=>?_
   ·rw[t]at v
    have:=br _ (qL (ae6.1 v));rwa[show(swF g h w).ad=w.ad.map (swV g h)from rfl,amE]at this
   ·rw[ba,Q]
    obtain⟨-,ax,J,aQ⟩:=bm;exact ah bS ar ax J (by rw[aQ,t])
 ·have:e=Z c:=by simp at r;omega
  subst this;rw[dB]at t;rw[x.pl,<-t];exact x.res
theorem ao8(a:p8 apO=ab)(g:aqK∈apO.ah)(f:aq0∈aqK.ae)(e:aq0.ak=5):1<=aq0.op/\aq0.op<=4:=by
 unfold p8 at a;simp only[bG]at a;have b:=(sx a.2).2 aqK g;unfold l6 at b;simp only[bG]at b;have c:=(sx b.2).2 aq0 f;unfold mC at c;simp only[bG]at c;have d:=c.2;rw[e]at d;simp only[beq_self_eq_true,if_true,bG,decide_eq_true_eq]at d;omega
section
variable{a b:aO}{p:aj}
theorem aoR(q:nN p)(l:∀i∈pa p [],i≠a/\i≠b)(n:∀d∈p.ah,∀f∈d.ae,¬(f.ak=5/\3<=f.op)):∀d∈p.ah,amG a b d:=by
 intro d h;have key:∀c∈iO d,c.aB=[]->swV a b c.const=c.const:=λc e o=>by
  obtain⟨j,k⟩:=l _ (aiW h e o);rw[swV,if_neg j,if_neg k]
 refine⟨λc e=>key c (aiY e),λf g=>⟨λc e=>key c (SV g e),λm=>?_⟩⟩;have:=ao8 q.1 h g m;have:=n d h f g;omega
theorem ao6(h:a.ty=b.ty){f:List aO}{j:List aw}(d:amH p f j):amH p (f.map (swV a b)) (swI a b j):=by
 refine⟨alk d.v,λg e r o i s q k l=>?_,λg e n=>d.nb _ (ae6.1 e) n⟩;have m:=d.ty _ (ae6.1 e) r o i (swV a b s) q (by show(g.ad.map (swV a b))[i]?=_;rw[zS,k]<;>rfl) l;rw[<-m,swV];split
 ·rename_i c;rw[c,h]
 ·split
  ·rename_i c;rw[c,h]
  ·rfl
theorem aov{c:aO->Prop}(g:c a)(h:c b){e:List aO}(f:∀d∈e,c d):∀d∈e.map (swV a b),c d:=λd i=>by
 obtain⟨k,j,rfl⟩:=du.1 i;unfold swV;split
 ·exact h
 ·split
  ·exact g
  ·exact f k j
end
theorem k11(W:eP C)(X:wA C)(aq:x5 C)(h:aj)(q:List aw)(d e:k)(F:dW h)(K:Sm q)(R:∀aQ∈q,eO aQ.ad):PR C 11 [.agg (cP aa apN h),eS aqw (cF aa) q,.str d,.str e] (.bool ab):=by
 refine r11.pr ?_;have bi:∀y,aR 4 ab (.aK aa (cP aa apN h) 0) y=T (.agg (cP aa apN h)):=λ_=>rfl;have N:AV.agg [I 2,I 0,.str d]=.agg (cV (fh d)):=rfl;have O:AV.agg [I 2,I 0,.str e]=.agg (cV (fh e)):=rfl;have gs:∀U,g (cV (fh U)) 0=I 2/\g (cV (fh U)) 1=I 0/\g (cV (fh U)) 2=.str U:=λ_=>⟨rfl,rfl,rfl⟩;refine aD (dD:=.aK aa (cP aa apN h) 0) rfl ?_;refine f (Jg W X aq) ?_;refine f (Ci d) ?_;rw[l2,Q]
 refine f (Ci e) ?_;rw[l2,Q];simp only[(gs _).1,(gs _).2.1,(gs _).2.2,N,O];refine pg (N:=[]) (!(amD h q&& !S (20<Z d)&& !S (20<Z e)&&qX (fh d)&&qX (fh e))) [I 2,I 0,.str d,I 2,I 0,.str e] (λo n=>?_) ?_
 ·try simp only[bi,Q]
  refine f (k31 h q F K R) ?_;rw[bD,Q];refine dx (λc=>?_) (λc=>xJ n (by simp_all));have c:amD h q=true:=by simpa using c
  simp only[xd,Q,er];refine dx (λB=>?_) (λB=>xJ n (by simp at B;simp;omega));refine dx (λM=>?_) (λM=>xJ n (by simp at M;simp;omega));refine f (uj (fh d)) ?_;rw[bD,Q];refine dx (λP=>?_) (λP=>xJ n (by simp_all));refine f (uj (fh e)) ?_;rw[bD,Q];refine xJ n ?_;have B:¬20<Z d:=by simp at B;omega
  have M:¬20<Z e:=by simp at M;omega
  have P:qX (fh d)=true:=by simpa using P
  simp[c,B,M,P]
 simp only[G,i];refine c8 (λ_=>.bool _ _) (λc=>?_);simp only[bG,jt,decide_eq_false_iff_not]at c;obtain⟨⟨⟨⟨c,d2⟩,d3⟩,v1⟩,v2⟩:=c;have j:=aoP c
 try simp only[bi,Q]
 have aU:qi h []:=⟨j.q3.ah,by simp,j.q3.ae,j.q3.DY,j.q3.s5,by simp⟩;refine ea _ (N9 (bp:=false) (b2:=true) h [] aU) (.cons _ _ _ _ _ (Im.snap (by simp)) (.cons _ _ _ _ _ (.ai _ _) (.nil _))) (zE _) ?_;have bS:Z (pa h [])<=960:=by
  have:=aU.N8 (Z h.ah);rwa[dB]at this
 generalize bH:pa h []=J at bS⊢;refine et (U:=Z J) (c:=λm=>[ff,I m,I 2,I 0,.str d,I 2,I 0,.str e]) (λm=>∀l(r:l<Z J),l<m->J[l]≠fh d/\J[l]≠fh e) (by simp) rfl (λm E x V n=>?_) (λx V=>?_)
 ·simp only[i,G,a8,A,Q,a,E,decide_true,N,O]
  refine a7 ?_;refine pg (N:=[]) (S (J[m]=fh d)||S (J[m]=fh e)) [I 2,I 0,.str d,I 2,I 0,.str e] (λo w=>?_) ?_
  ·simp only[aC E (lZ _),Q,oa,Vw]
   exact dx (λc=>xJ w (by rw[c]<;>rfl)) (λc=>xJ w (by rw[c]<;>rfl))
  simp only[i,G];refine b (λ_=>.bool _ _) (λc=>?_);rw[ba,Q];refine n λl r be=>?_;by_cases t:l=m
  ·subst t
   simpa using c
  ·exact x l r (by omega)
 simp only[i,G,a8,A,Q,a,ca,decide_false];refine bq ?_;have a0:∀H∈pa h [],H≠fh d/\H≠fh e:=by
  rw[bH];intro H cK;obtain⟨l,r,rfl⟩:=jS.1 cK;exact x l r r
 clear x;refine et (U:=Z h.ah) (c:=λm=>[ff,I m,I 2,I 0,.str d,I 2,I 0,.str e]) (λm=>∀l(r:l<Z h.ah),l<m->∀L∈h.ah[l].ae,¬(L.ak=5/\3<=L.op)) (by simp) rfl (λm E x V n=>?_) (λx V=>?_)
 ·have dD:=j.q3.ae _ (bs E)
  have d0:=j.q3.ah;simp only[i,G,a6,aH,mz,aJ,a8,A,Q,a,E,decide_true];refine a7 ?_;refine et (U:=Z h.ah[m].ae) (c:=λo=>[ff,I o,I 2,I 0,.str d,I 2,I 0,.str e]) (λo=>∀l(r:l<Z h.ah[m].ae),l<o->¬(h.ah[m].ae[l].ak=5/\3<=h.ah[m].ae[l].op)) (by simp) rfl (λo w ax bu b4=>?_) (λax bu=>?_)
  ·simp only[i,G,aC E (kQ _ _),a6,aH,od,a8,A,Q,a,w,decide_true,aC w (h9 _ _),oY,xg,aJ,mz,c9,gF]
   refine a7 ?_;refine pg (N:=[]) (S (h.ah[m].ae[o].ak=5/\3<=h.ah[m].ae[o].op)) [I 2,I 0,.str d,I 2,I 0,.str e] (λd1 a4=>?_) ?_
   ·refine aZ (λc=>?_) (λc=>xJ a4 ?_)
    ·refine xJ a4 ?_
     have c:h.ah[m].ae[o].ak=5:=by simpa using c
     simp[c]
    ·have c:¬h.ah[m].ae[o].ak=5:=by simpa using c
     simp[c]
   simp only[i,G];refine b (λ_=>.bool _ _) (λc=>?_);rw[ba,Q];refine b4 λl r be=>?_;by_cases af:l=o
   ·subst af
    simpa using c
   ·exact ax l r (by omega)
  ·simp only[i,G,aC E (kQ _ _),a6,aH,od,a8,A,Q,a,ca,decide_false,aJ,mz]
   refine bq ?_;rw[ba,Q];refine n λl r be L K=>?_;by_cases af:l=m
   ·subst af
    obtain⟨o,n,rfl⟩:=jS.1 K;exact ax o n n
   ·exact x l r (by omega) L K
 simp only[i,G,a6,aH,mz,aJ,a8,A,Q,a,ca,decide_false,N,O];refine bq ?_;have a2:∀br∈h.ah,amG (fh d) (fh e) br:=aoR j.val a0 λbr co L K=>by
  obtain⟨l,r,rfl⟩:=jS.1 co;exact x l r r L K
 clear x a0;have c6:swV (fh d) (fh e) zV=zV:=by simp[swV,fh,zV]
 obtain⟨bp,bg,cg,bz⟩:=ao2 W X aq (apN:=apN) (aqw:=aqw) j F R;obtain⟨cJ,-,cs⟩:=Cd j.q3;have p:=JV j.r9 j.val F R j.uns;have a3:=JW j.val j.form;have dF:=j.q3.facts;obtain⟨a9,c1⟩:=an8 j.val j.form;have Y:Sm d:=by unfold Sm;omega
 have ac:Sm e:=by unfold Sm;omega
 have bf:mK h ((pa h q).map (swV (fh d) (fh e))):=⟨anm a2 p.v,p.uT,p.BC,aov (c:=λH=>Sm H.s) Y ac p.zo,p.tq,p.aeG,p.bb⟩;have w:=ao6 (a:=fh d) (b:=fh e) rfl a9;have c0:=aov (c:=λH=>qX H=ab) v1 v2 (an3 j.val c1);have b3:=an4 j.val c0 w;have cq:=apq c6 a2 p.v bg a3;have dG:Z (swI (fh d) (fh e) q)=Z q:=by rw[(amZ q).length_eq,kd]
 have ci:qH h (swI (fh d) (fh e) q)=true:=by
  rw[qH,QM.2 j.val,b3,cu,cu,fi];intro dl c2;have bL:=fi.1 j.fI (swF (fh d) (fh e) dl) (ae6.1 c2);exact bL
 have aB:=jr W X aq (V:=apN) (F:=false) (bp:=false) h (swI (fh d) (fh e) q) F (by unfold Sm;omega) (dq.re bf w.v.ok) (BL (bp.map (swI (fh d) (fh e)))) (λt=>by rw[ci]at t;cases t) λ_=>
  ⟨cs,cJ,SW j.q3 j.val,λt=>absurd j.uns t,λ_ t=>absurd j.str t,λ_ _=>⟨_,_,bf,w.v,by omega,cq,rfl⟩⟩
 have aL:=k41 (apN:=apN) (aqw:=aqw) h q (fh d) (fh e) F p.BC a3 a9.nb (by omega) R Y ac p.bb;generalize swI (fh d) (fh e) q=ds at*;refine f bz ?_;cases bp with
 |none=>
  refine aD (dD:=eS aa (cF aa) ([]:List aw)) rfl (aD (dD:=I 2) rfl ?_);refine f aL (f aB ?_);refine aD (dD:=eS aa (cF aa) ([]:List aw)) rfl (aD (dD:=I 2) rfl ?_);refine pg (N:=[]) ab [I 2,I 0,.str d,I 2,I 0,.str e] (λo n=>?_) ?_
  ·simp only[cd,Q]
   exact dx (λc=>by simp at c) (λ_=>n)
  simp only[i,G];refine a7 ?_;refine pg (N:=[]) ab [I 2,I 0,.str d,I 2,I 0,.str e] (λo n=>?_) (.bool _ _);refine aZ (λ_=>?_) (λc=>by cases c);simp only[c9,Q];refine aZ (λ_=>?_) (λc=>by simp at c);exact xJ n (by simp)
 |some z=>
  obtain⟨au,cn⟩:=cg z rfl;obtain⟨b9,ce⟩:=apf j.val p.v j.form bg;have cA:=au.small p.v cn;have ar:=dq.re p au.ok;refine aD (dD:=eS aa (cF aa) z) rfl (aD (dD:=I 0) rfl ?_);refine f aL (f aB ?_);refine aD (dD:=eS aa (cF aa) (swI (fh d) (fh e) z)) rfl (aD (dD:=I 0) rfl ?_);refine pg (N:=[]) aa [I 2,I 0,.str d,I 2,I 0,.str e] (λo n=>?_) ?_
  ·simp only[cd,Q]
   refine dx (λ_=>?_) (λc=>by simp at c);refine f (xU h z F (by unfold Sm;omega) ar) ?_;rw[bD,Q];exact xJ n (by rw[QM.2 j.val,b9]<;>rfl)
  simp only[i,G,N,O];refine bq ?_;refine pg (N:=[]) ab [I 2,I 0,.str d,I 2,I 0,.str e] (λo n=>?_) (.bool _ _);refine aZ (λ_=>?_) (λc=>by cases c);simp only[c9,Q];refine aZ (λ_=>?_) (λc=>by simp at c);refine f (k41 (apN:=apN) (aqw:=false) h z (fh d) (fh e) F p.BC au ce.nb cA ar Y ac p.bb) ?_;have dH:Z (swI (fh d) (fh e) z)=Z z:=by rw[(amZ z).length_eq,kd]
  refine f (Bb _ _ (by unfold Sm;omega) (λaQ b2=>?_)) ?_
  ·have B:=(ar _ (ae6.1 b2)).1
   unfold Sm swF at*;simpa using B
  exact xJ n (by simp)
open Go.Proofs.YtmkbfepnleajhaaGreatDoor Go.Deep
theorem aoT(c:aj)(a:List aw)(d e:k)(j:dW c)(i:Sm a)(h:∀f∈a,eO f.ad):∃b,jz a1 G0 11 [.agg (cP aa apN c),eS aqw (cF aa) a,.str d,.str e] [] (.bool ab) b:=by
 obtain⟨m,b,g,l⟩:=k11 aju ajx ajw (apN:=apN) (aqw:=aqw) c a d e j i h;cases l
 exact⟨b,g⟩
open Go.ChangeShapes Go.WideShapes Go.ChangeAt Go.RowKit
theorem ajV:∃a,a1.underlying 27=T (.struct a):=by
 simp
theorem Tk:a1.underlying 4=T .bool:=by kernel_rfl
variable{aqX:Value}
theorem ajW{W:World}{base:Nat}(b:Value.okWide a1 W .any base 27 aqX):∃a,aqX=.agg a:=by
 grind[ajV,Value.okWide]
theorem ajX{W:World}{base:Nat}(a:Value.okWide a1 W .any base 28 aqX):bU aqX.cells=[aqX]:=by
 unfold Value.okWide at a;rw[sE]at a;simp only[Cell.okWide,sE,Cell.ok]at a;cases aqX<;>first|rfl|grind
theorem aof{W:World}{base:Nat}(a:Value.okWide a1 W .any base 9 aqX):bU aqX.cells=[aqX]:=by
 have b:a1.underlying 9=T .string:=by kernel_rfl
 unfold Value.okWide at a;rw[b]at a;simp only[Cell.okWide,b,Cell.ok]at a;cases aqX<;>first|rfl|grind
theorem ajY(b:Type)(c:TypeId×Value->b)(W:World)(base:Nat)(args:Array Value)(j gs:List (DataW b))(J:List MemPlace)
 (e:∀(H:Nat) i a,Tryz.f11.params[H]?=T i->args[H]?=T a->Value.okWide a1 W .any base i a)
 (n:DataW.Whole c a1 (bU Tryz.f11.params) Rows.snapshotNamesSpec.vars aa W (bU args) j gs J)(ax:Rows.uptoSmall b (j++gs)=ab)(V:laidMetH a1 Rows.snapshotNamesUptoRow.laid W):
 Calls a1 11 args W λk t=>∃a,k=.returned a/\Rows.snapshotNamesSpec.post c a1 Tryz.f11 aa ab aa aa W args a t:=by
 have A:=n;have aB:=n.lt;obtain⟨bf,cs,m,ae,rfl,cg,ci⟩:=n;have l:DataW.TrodAll c a1 W 0 (λ_=>ab) ab (bU Tryz.f11.params) (bU args) j bf:=m;rw[Tryz.params11]at l e;obtain⟨v0,c1,K,b2,bg,cA,b3,rfl,rfl,P,w⟩:=trodAll_cons l;obtain⟨v1,c2,L,b4,bi,cJ,rfl,rfl,rfl,Q,x⟩:=trodAll_cons w;obtain⟨v2,c6,M,b9,bm,cK,rfl,rfl,rfl,S,y⟩:=trodAll_cons x;obtain⟨v3,dl,N,ce,bp,c0,rfl,rfl,rfl,U,z⟩:=trodAll_cons y
 obtain⟨rfl,rfl,rfl⟩:=trodAll_nil z;obtain rfl:args=#[v0,v1,v2,v3]:=by cases args;simp_all
 clear w x y z;rw[rP]at m l;obtain⟨rfl,rfl⟩:=trodVars_none ae;have af:Rows.uptoBulkAll [K,L,M,N]<=1048576:=by
  have:=of_decide_eq_true ax;simpa using this
 simp only[Rows.uptoBulkAll]at af;obtain⟨v,rfl⟩:=ajW (e 0 27 v0 rfl rfl);have ah:=ajX (e 1 28 v1 rfl rfl);have ak:=aof (e 2 9 v2 rfl rfl);have aq:=aof (e 3 9 v3 rfl rfl);obtain⟨a4,br⟩:=P;obtain⟨a9,bu⟩:=Q;obtain⟨bb,bv⟩:=S;obtain⟨be,bw⟩:=U;obtain⟨r,F,aU⟩:=(ab1 (H:=b) (enc:=c) (w:=W) (sp:=λ_=>ab) (λ_=>rfl) aa aa).2 a4 _ _ _ br (by omega)
 obtain⟨s,f,aL,a0⟩:=(ab3 (H:=b) (enc:=c) (w:=W) (sp:=λ_=>ab) (λ_=>rfl) aa aa).2 a9 _ _ _ bu (by omega);obtain⟨u,B,-⟩:=(o3 (H:=b) (enc:=c) (w:=W) (sp:=λ_=>ab)).2 bb _ _ _ bv (by omega);obtain⟨I,G,-⟩:=(o3 (H:=b) (enc:=c) (w:=W) (sp:=λ_=>ab)).2 be _ _ _ bw (by omega);rw[ah]at f;rw[ak]at B;rw[aq]at G;have Y:R (E0 W) (.agg (cP aa aa r)) (.agg v):=by
  have au:∀a∈cP aa aa r,a.bP=true:=by simp[cP,AV.bP,eS]
  refine .agg _ _ F ?_;have one:∀{vs:List AV}{g:List Value},RL (E0 W) vs g->(∀a∈vs,a.bP=ab)->∀p∈g,p.oneCell'=true:=by
   intro vs g d;induction vs generalizing g with
   |nil=>intro _ p a2;cases d;simp at a2
   |cons a vs cn=>
    cases d with
    |cons _ p _ g a3 E=>
     intro o s f;rcases cf.1 f with rfl|f
     ·exact a3.Ab (o _ (by simp))
     grind
  exact one F au
 have Z:R (E0 W) (eS aa (cF aa) s) v1:=by
  cases f with
  |cons _ _ _ _ d _=>exact d
 have ac:R (E0 W) (.str u) v2:=by
  cases B with
  |cons _ _ _ _ d _=>exact d
 have ad:R (E0 W) (.str I) v3:=by
  cases G with
  |cons _ _ _ _ d _=>exact d
 obtain⟨bH,-,ar⟩:=aoT (apN:=false) (aqw:=false) r s u I aU (Sm.of aL) a0;have o:=ar (E0 W) [.agg v,v1,v2,v3] (abE W) (λ_=>rfl) rfl (.cons _ _ _ _ Y (.cons _ _ _ _ Z (.cons _ _ _ _ ac (.cons _ _ _ _ ad .nil)))) (ajU (show laidMetH a1 g2.laid W from V));refine o.mono λk t C=>?_;cases k with
 |returned a=>
  obtain⟨bz,rfl,O,-,-,X⟩:=C;obtain rfl:a=.bool true:=by cases X;rfl
  simp only[rP]at A aB;refine⟨_,rfl,ajC (i:=bg++(bi++(bm++bp))) (j:=[]) A (λ_ _ _=>trodAll_cons_mk (shut_bool Tk _) trodAll_mk0) (λh aQ=>?_) (λ_ _=>rfl) (by simp) (ajz O _) (by grind[ajB]) (ok_one (by kernel_rfl) rfl (okWide_bool_mk Tk _))⟩;exact Th ajE ajF (λi E=>by rw[Tryz.params11]at E;revert i;decide) m (by grind[ajA]) aQ
 |_=>exact C.elim
end AM
end Go
