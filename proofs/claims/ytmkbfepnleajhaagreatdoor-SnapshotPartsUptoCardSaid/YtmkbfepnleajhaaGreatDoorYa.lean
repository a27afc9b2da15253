/- The law SnapshotPartsUptoCardSaid: part 8 of 9 of the proof. No condition. -/
import Derived.Test.YtmkbfepnleajhaaGreatDoorXg
set_option maxRecDepth 100000
open List renaming length->Z,mem_or_eq_of_mem_set->ak6,set_eq_take_append_cons_drop->alc
open Option renaming some->T,none->D
open Bool renaming true->ab,false->aa,not_eq_true->Kr
open Decidable renaming decide->S
open Array renaming toList->bU
open Go.Proofs.Tryz renaming prog->a1
open Go.Proofs.YtmkbfepnleajhaaGreatDoor.Rows renaming snapshotModelMatchesReferenceUptoRow->g2
open Int renaming ofNat_inj->akR
open List.Pairwise renaming imp_of_mem->anz
namespace Go
namespace AM
def alk(c:aj)(b d e:Int):Prop:=∀a,e8 c b=T a->dK a d.toNat e.toNat=ab
variable{apO:aj}{aqo aqP:Int}
theorem alk.refl:alk apO aqo aqP aqP:=λa _=>ad9 a _
def AtF(b:aj)(gs:List aw)(a:aw):Prop:=∃g∈gs,g.aq=a.aq/\g.ad=a.ad/\alk b a.aq a.af g.af
def amC(c:aj)(a:aw):Prop:=∃b,e8 c a.aq=T b/\a.af=fy b []
def alh(b:aj)(gs:List aw)(a:aw):Prop:=amC b a\/AtF b gs a
def LeI(c:aj)(b gs:List aw):Prop:=∀a∈b,AtF c gs a
variable{aqj:List aw}
theorem LeI.refl:LeI apO aqj aqj:=λa b=>⟨a,b,rfl,rfl,.refl⟩
theorem alk.trans{c d:Int}(h:∀a,e8 apO aqo=T a->eF a c=ab)(e:alk apO aqo aqP c)(f:alk apO aqo c d):alk apO aqo aqP d:=λa b=>by
 obtain⟨i,rfl,g⟩:=qo (h a b);exact aea g (e a b) (f a b)
variable{aqL:aw}
theorem AtF.trans{gs:List aw}(h:∀g∈gs,qx apO g)(b:AtF apO gs aqL)(c:LeI apO gs aqj):AtF apO aqj aqL:=by
 obtain⟨g,a,d,e,f⟩:=b;obtain⟨i,w1,k,l,n⟩:=c g a;refine⟨i,w1,k.trans d,l.trans e,f.trans (λj m=>h g a j (by grind)) ?_⟩;grind
variable{arz:List aw}
theorem LeI.trans{gs:List aw}(e:∀g∈gs,qx apO g)(b:LeI apO aqj gs)(c:LeI apO gs arz):LeI apO aqj arz:=λa d=>(b a d).trans e c
variable{aq1:bM}
theorem aoW(a:eu aq1=0)(h:eF aq1 aqo=ab)(c:dK aq1 aqo.toNat (fy aq1 []).toNat=ab):aqo=fy aq1 []:=by
 obtain⟨i,e,f,g⟩:=aed a;obtain⟨d,rfl,b⟩:=qo h;rw[e]at c⊢;have:=Pj a b f c (g d b);rw[this]
theorem amC.down(h:uM apO){g:aw}(f:qx apO aqL)(i:g.aq=aqL.aq)(c:alk apO aqL.aq aqL.af g.af)(e:amC apO g):amC apO aqL:=by
 obtain⟨b,a,d⟩:=e;rw[i]at a;refine⟨b,a,aoW (h b (Bz a)) (f b a) ?_⟩;rw[<-d];exact c b a
theorem alh.down(c:uM apO){g:aw}(f:qx apO aqL)(h:qx apO g)(d:g.aq=aqL.aq)(e:g.ad=aqL.ad)(b:alk apO aqL.aq aqL.af g.af)(a:alh apO aqj g):alh apO aqj aqL:=by
 rcases a with a|⟨i,w1,k,l,m⟩
 ·exact .inl (a.down c f d b)
 ·refine .inr ⟨i,w1,k.trans d,l.trans e,b.trans (λj c=>h j (by grind)) ?_⟩
  grind
theorem alh.trans{gs:List aw}(c:∀g∈gs,qx apO g)(a:alh apO gs aqL)(b:LeI apO gs aqj):alh apO aqj aqL:=
 a.imp id λa=>a.trans c b
theorem anL(f:eu aq1=0)(t:eF aq1 aqo=ab)(a:eF aq1 aqP=ab):
 eF aq1 (fy aq1 [aqo,aqP])=ab/\dK aq1 aqo.toNat (fy aq1 [aqo,aqP]).toNat=ab/\dK aq1 aqP.toNat (fy aq1 [aqo,aqP]).toNat=ab/\
 ∀b,eF aq1 b=ab->dK aq1 aqo.toNat b.toNat=ab->dK aq1 aqP.toNat b.toNat=ab->dK aq1 (fy aq1 [aqo,aqP]).toNat b.toNat=true:=by
 obtain⟨k,rfl,h⟩:=qo t;obtain⟨l,rfl,i⟩:=qo a;obtain⟨j,g,o,p,q⟩:=aec f h i;rw[g];refine⟨Et o,p,q,λb u r s=>?_⟩;obtain⟨w,rfl,v⟩:=qo u;have a:0<=qm (Z aq1.au) (dK aq1) λc=>S ((c:Int)∈[(k:Int),(l:Int)]):=by
  have d:=Ph f h i;unfold lK at d;simp only[Kw,decide_eq_false_iff_not,Int.not_lt]at d;exact d.2
 obtain⟨c,m,-,-,n⟩:=Pk a;have e:(j:Int)=c:=by
  rw[<-g,<-m];simp_all[fy,Et]
 have e:j=c:=by omega
 subst e;refine n w v λaqP _ a=>?_;have a:aqP=k\/aqP=l:=by simp at a;omega
 rcases a with rfl|rfl
 ·exact r
 ·exact s
theorem am0(f:aj)(b:List aw)(a:aw):
 (amC f a/\dp f b a=b)\/(¬amC f a/\(
  (∃c,∃d:c<Z b,b[c].aq=a.aq/\b[c].ad=a.ad/\(e8 f a.aq=D/\dp f b a=b\/∃g,e8 f a.aq=T g/\dp f b a=b.set c ⟨b[c].aq,b[c].ad,fy g [b[c].af,a.af]⟩))\/
  ((∀e∈b,¬(e.aq=a.aq/\e.ad=a.ad))/\dp f b a=j8 b a))):=by
 have n:∀e:aw,gW a.aq a.ad e=ab<->e.aq=a.aq/\e.ad=a.ad:=by simp[gW]
 have o:b.findIdx? (gW a.aq a.ad)=D->∀e∈b,¬(e.aq=a.aq/\e.ad=a.ad):=λd e t s=>by
  rw[wK]at d;have:=d e t;rw[(n e).2 s]at this;cases this
 have p:∀c,b.findIdx? (gW a.aq a.ad)=T c->∃d:c<Z b,b[c].aq=a.aq/\b[c].ad=a.ad:=λc d=>by
  obtain⟨h,j,-⟩:=nW.1 d;exact⟨h,(n _).1 j⟩
 unfold dp;cases m:e8 f a.aq with
 |none=>
  have i:¬amC f a:=by rintro⟨g,d,-⟩;rw[m]at d;cases d
  refine .inr ⟨i,?_⟩;cases k:b.findIdx? (gW a.aq a.ad)with
  |none=>exact .inr ⟨o k,by simp⟩
  |some c=>
   obtain⟨h,j,l⟩:=p c k;exact .inl ⟨c,h,j,l,.inl ⟨rfl,by simp⟩⟩
 |some g=>
  by_cases i:a.af=fy g []
  ·exact .inl ⟨⟨g,m,i⟩,by simp[i]⟩
  ·have r:¬amC f a:=by
    rintro⟨u,d,q⟩;rw[m]at d;cases d;exact i q
   refine .inr ⟨r,?_⟩;simp only[i,if_false];cases k:b.findIdx? (gW a.aq a.ad)with
   |none=>exact .inr ⟨o k,rfl⟩
   |some c=>
    obtain⟨h,j,l⟩:=p c k;exact .inl ⟨c,h,j,l,.inr ⟨g,rfl,by simp only[bC h]⟩⟩
theorem aov(m:uM apO)(s:∀g∈aqj,qx apO g)(r:qx apO aqL):LeI apO aqj (dp apO aqj aqL)/\alh apO (dp apO aqj aqL) aqL:=by
 rcases am0 apO aqj aqL with⟨l,a⟩|⟨l,⟨n,e,a,d,⟨b,h⟩|⟨f,b,h⟩⟩|⟨a,d⟩⟩
 ·rw[a];exact⟨.refl,.inl l⟩
 ·rw[h]
  refine⟨.refl,.inr ⟨aqj[n],bs e,a,d,λf m=>?_⟩⟩;simp_all
 ·rw[h]
  have q:=s _ (bs e) f (by rw[a];exact b);obtain⟨v,o,p,-⟩:=anL (m f (Bz b)) q (r f b);refine⟨λg i=>?_,.inr ⟨_,List.mem_set e _,a,d,λu c=>?_⟩⟩
  ·obtain⟨j,t,rfl⟩:=jS.1 i
   by_cases k:n=j
   ·subst k
    refine⟨_,List.mem_set e _,rfl,rfl,λu c=>?_⟩;rw[a,b]at c;cases c;exact o
   ·refine⟨aqj[j],?_,rfl,rfl,.refl⟩
    refine jS.2 ⟨j,by simpa using t,?_⟩;rw[List.getElem_set_ne k]
  ·rw[b]at c;cases c
   exact p
 ·rw[d]
  exact⟨λg i=>⟨g,H6.2 (.inr i),rfl,rfl,.refl⟩,.inr ⟨aqL,H6.2 (.inl rfl),rfl,rfl,.refl⟩⟩
theorem aot(B:uM apO){j:Int->Prop}{gs:List aw}(x:fY gs)(z:∀a∈aqj,qx apO a)(A:∀a∈gs,qx apO a)(y:qx apO aqL)(f:∀a∈aqj,j a.aq->AtF apO gs a)(o:j aqL.aq->alh apO gs aqL):∀a∈dp apO aqj aqL,j a.aq->AtF apO gs a:=by
 rcases am0 apO aqj aqL with⟨k,h⟩|⟨k,⟨C,p,h,l,⟨d,m⟩|⟨e,d,m⟩⟩|⟨h,l⟩⟩
 ·rw[h];exact f
 ·rw[m];exact f
 ·rw[m]
  intro a c b;rcases ak6 c with c|rfl
  ·exact f a c b
  ·have b:=b
   obtain⟨g,t,u,v,w⟩:=(o (h▸b)).resolve_left k;obtain⟨n,w1,E,q,F⟩:=f aqj[C] (bs p) b;have r:=Pr x n w1 g t (by omega) (by rw[q,v,l]);subst r;refine⟨n,w1,E,q,λG i=>?_⟩;have i:=i;rw[h,d]at i;cases i;have s:=z _ (bs p) e (by omega);exact(anL (B e (Bz d)) s (y e d)).2.2.2 _ (A n w1 e (by rw[u];exact d)) (F e (by omega)) (w e d)
 ·rw[l]
  intro a c b;rcases H6.1 c with rfl|c
  ·exact(o b).resolve_left k
  ·exact f a c b
theorem ana(h:uM apO):∀(a:List aw){c:List aw},(∀d∈c,qx apO d)->(∀d∈a,qx apO d)->LeI apO c (jm apO c a)/\∀e∈a,alh apO (jm apO c a) e
 |[],c,_,_=>⟨.refl,by simp⟩
 |b::a,c,i,g=>by
  have f:=(Eu h i (g b (by simp))).2;obtain⟨l,m⟩:=aov h i (g b (by simp));obtain⟨j,n⟩:=ana h a f λd o=>g d (by simp[o]);have k:jm apO c (b::a)=jm apO (dp apO c b) a:=rfl;rw[k];refine⟨l.trans f j,λe hf=>?_⟩;rcases cf.1 hf with rfl|hf
  ·exact m.trans f j
  ·exact n e hf
theorem anY(i:uM apO){g:Int->Prop}{gs:List aw}(k:fY gs)(l:∀a∈gs,qx apO a):∀(c:List aw){d:List aw},(∀a∈d,qx apO a)->(∀a∈c,qx apO a)->(∀a∈d,g a.aq->AtF apO gs a)->(∀e∈c,g e.aq->alh apO gs e)->∀a∈jm apO d c,g a.aq->AtF apO gs a
 |[],d,_,_,f,_=>f
 |b::c,d,f,h,m,j=>anY i k l c (Eu i f (h b (by simp))).2 (λa o=>h a (by simp[o]))
  (aot i k f l (h b (by simp)) m (j b (by simp))) λe n=>j e (by simp[n])
theorem aor(l:uM apO){gs:List aw}(h:fY gs)(k:∀a∈gs,qx apO a)(b:List aw)(e:∀a∈aqj,qx apO a)(i:∀a∈b,qx apO a)(f:LeI apO aqj gs)(g:∀c∈b,alh apO gs c):LeI apO (jm apO aqj b) gs:=
 λa d=>anY (g:=λ_=>True) l h k b e i (λa d _=>f a d) (λc j _=>g c j) a d trivial
def amx(f:aj)(e:Int)(a b:aX):Prop:=b.ax=a.ax/\b.bl=a.bl/\b.m=a.m/\∃c:List (Int×Int),a.au=c.map Prod.fst/\b.au=c.map Prod.snd/\∀d∈c,alk f e d.1 d.2
variable{aqx arb:aX}
theorem anI(b:arb.ax=aqx.ax)(c:arb.bl=aqx.bl)(a:aM):bW arb a=bW aqx a:=by
 unfold bW;rw[b,c]
theorem aoq(b:arb.ax=aqx.ax)(c:arb.bl=aqx.bl)(a:List aM):eG arb a=eG aqx a:=by
 unfold eG;simp only[anI b c]
theorem anT(c:amx apO aqo aqx arb)(a:aM)(b:aO):amx apO aqo (fT aqx a b) (fT arb a b):=by
 obtain⟨d,e,f,g⟩:=c;exact⟨by simp[fT,d],by simp[fT,e],by simp[fT,f],g⟩
theorem an0{i:aj}{h:Int}:∀(c:List aM)(vs:List aO){e d f:aX},amx i h e d->hU e c vs=T f->∃j,hU d c vs=T j/\amx i h f j
 |[],vs,e,d,f,b,a=>by
  simp only[hU,eK]at a⊢;subst a;exact⟨d,rfl,b⟩
 |t::c,[],e,d,f,b,a=>by simp[hU]at a
 |t::c,l::vs,e,d,f,b,a=>by
  rw[hU]at a;rw[hU,anI b.1 b.2.1];split at a
  ·rename_i g
   rw[if_pos g];split at a
   ·rename_i k
    rw[if_pos k];exact an0 c vs b a
   ·cases a
  ·rename_i g
   rw[if_neg g];exact an0 c vs (anT b t l) a
theorem aow(c:amx apO aqo aqx arb)(a:Lit){b:Int}(k:a.bind≠[]->alk apO aqo aqP b):amx apO aqo (jq aqx a aqP) (jq arb a b):=by
 unfold jq;split
 ·exact c
 ·rename_i j
  obtain⟨d,e,f,n,g,h,i⟩:=c;refine⟨d,e,by simp[f],n++[(aqP,b)],by simp[g],by simp[h],?_⟩;simp only[c5,lV];rintro m (l|rfl)
  ·exact i m l
  ·exact k j
theorem aoD(a:amx apO aqo aqx arb)(b:Lit):amx apO aqo (g7 aqx b) (g7 arb b):=by
 unfold g7;split
 ·rename_i c d _
  simp only[anI a.1 a.2.1];split
  ·split
   ·exact anT a _ _
   ·split
    ·exact anT a _ _
    ·exact a
  ·exact a
 ·exact a
def Agr(b:Int)(c gs:List aw):Prop:=c.filter (λa=>a.aq==b)=gs.filter (λa=>a.aq==b)
theorem Agr.find{gs:List aw}(c:Agr aqo aqj gs)(args:List aO):aqj.find? (gW aqo args)=gs.find? (gW aqo args):=by
 have key:∀b:List aw,b.find? (gW aqo args)=(b.filter λa=>a.aq==aqo).find? (gW aqo args):=by
  intro b;rw[List.find?_filter]
  congr 1
  funext a
  unfold gW;cases a.aq==aqo<;>simp
 rw[key aqj,key gs,c]
theorem aoV{g e:Int}(a:sg apO aqo aqP g=ab)(n:∀c,e8 apO aqo=T c->eF c e=ab)(j:alk apO aqo g e)(k:e8 apO aqo≠D):sg apO aqo aqP e=true:=by
 obtain⟨c,b⟩:=Option.ne_none_iff_exists'.1 k;have h:=j c b;have i:=n c b;unfold sg at a⊢;unfold e8 at b;cases f:apO.d[aqo.toNat]? with
 |none=>rw[f]at a;cases a
 |some o=>
  rw[f]at a b;simp only at a b⊢;by_cases l:o.of<0
  ·simp_all
  ·rw[if_neg l]at b
   rw[b]at a⊢;simp only[ox,bG,beq_iff_eq]at a⊢;obtain⟨p,rfl,m⟩:=qo a.1.2;exact⟨⟨⟨a.1.1.1,a.1.1.2⟩,i⟩,aea m a.2 h⟩
variable{aqw:aG}{aqN:Lit}
theorem aoF(p:PJ apO aqw aqN){gs:List aw}(v:∀g∈gs,qx apO g)(w:LeI apO aqj gs)(o:pc aqN=ab->Agr aqN.aq aqj gs){r:aX}(e:amx apO aqw.aq aqx arb)(b:r∈e5 apO aqj aqx aqN):
 ∃G∈e5 apO gs arb aqN,amx apO aqw.aq r G:=by
 unfold e5 at b⊢;by_cases c:(aqN.ak==1||aqN.ak==3)=ab
 ·rw[if_pos c]at b⊢
  obtain⟨s,f,b⟩:=yj.1 b;obtain⟨f,a⟩:=tF.1 f;obtain⟨g,l,m,t,n⟩:=w s f;unfold nJ at b;obtain⟨H,y,rfl⟩:=dg.1 b;obtain⟨E,z,d⟩:=an0 _ _ e y;unfold j9 at a;simp only[bG,beq_iff_eq,kg,bne_iff_ne,ne_eq]at a;refine⟨jq E aqN g.af,yj.2 ⟨g,tF.2 ⟨l,?_⟩,?_⟩,aow d aqN λu=>?_⟩
  ·unfold j9
   simp only[bG,beq_iff_eq,kg,bne_iff_ne,ne_eq];refine⟨m.trans a.1,?_⟩;by_cases q:aqN.ak=3
   ·obtain⟨A,x,-⟩:=p.gN (.inl q)
    refine .inr (aoV (a.2.resolve_left λe=>e q) (λi h=>v g l i (by rw[m,a.1];exact h)) ?_ (by rw[x];simp));rw[<-a.1];exact n
   omega
  ·unfold nJ
   rw[t,z]<;>rfl
  ·obtain⟨-,-,A,B,C⟩:=p.bind u
   intro i h;refine n i ?_;rw[a.1,B,<-C,h]
 ·rw[if_neg c]at b⊢
  split at b
  ·rename_i a
   have d:=aoD e aqN;simp only[lV]at b;subst b;refine⟨g7 arb aqN,?_,d⟩;rw[if_pos]
   ·simp
   ·simp only[kg,beq_iff_eq,not_or]at c
    unfold pe at a⊢;rw[aoq d.1 d.2.1];rw[if_neg c.1]at a⊢;by_cases j:aqN.ak=2
    ·rw[if_pos j]at a⊢
     rw[<-(o (by simp[pc,j])).find];exact a
    ·rw[if_neg j]at a⊢
     by_cases k:(aqN.ak==3||aqN.ak==4)=ab
     ·rw[if_pos k]at a⊢
      have F:aqN.ak=4:=by simpa[c.2]using k
      unfold tb at a⊢;rw[<-(o (by simp[pc,F])).find];exact a
     ·rw[if_neg k]at a⊢
      exact a
  ·cases b
theorem anH{c:aj}{q:aG}{l gs:List aw}(m:∀g∈gs,qx c g)(n:LeI c l gs){f:List Lit}(p:∀b∈f,PJ c q b)(o:∀b∈f,pc b=ab->Agr b.aq l gs):
 ∀(d:List Nat){h e k:aX},amx c q.aq h e->k∈kY c l f d h->∃r∈kY c gs f d e,amx c q.aq k r
 |[],h,e,k,j,a=>by
  simp only[kY,lV]at a⊢;subst a;exact⟨e,rfl,j⟩
 |i::d,h,e,k,j,a=>by
  rw[kY]at a⊢;split at a
  ·rename_i b t
   have s:=sG t;obtain⟨A,w,a⟩:=TJ.1 a;obtain⟨z,x,u⟩:=aoF (p b s) m n (o b s) j w;obtain⟨r,y,v⟩:=anH m n p o d u a;exact⟨r,TJ.2 ⟨z,x,y⟩,v⟩
  ·exact anH m n p o d j a
def amA(b:aj):Prop:=∀a∈b.ah,0<=a.aq->a.af.ak=3->∀d,e8 b a.aq=T d->∀c,b.aW[a.af.aQ.toNat]?=T c->pb d c.gM=ab
theorem aoa(b:amx apO aqo aqx arb)(a:k):alk apO aqo (jO aqx a) (jO arb a):=by
 obtain⟨-,-,c,j,d,e,f⟩:=b;unfold jO;rw[c,d,e];split
 ·rename_i h _
  simp only[oM,zS];cases g:j[h]? with
  |none=>exact .refl
  |some i=>exact f i (sG g)
 ·exact .refl
theorem aoP(m:amA apO)(n:aqw∈apO.ah)(o:zl apO aqw)(g:0<=aqw.aq)(b:amx apO aqw.aq aqx arb)(k:aqw.af.ak=3->∀a,e8 apO aqw.aq=T a->eF a (jO aqx aqw.af.aB)=ab/\eF a (jO arb aqw.af.aB)=ab):
 (iR apO aqw arb).aq=(iR apO aqw aqx).aq/\(iR apO aqw arb).ad=(iR apO aqw aqx).ad/\alk apO (iR apO aqw aqx).aq (iR apO aqw aqx).af (iR apO aqw arb).af:=by
 refine⟨rfl,aoq b.1 b.2.1 _,?_⟩;show alk apO aqw.aq (nI apO aqw aqx) (nI apO aqw arb);unfold nI;split
 ·exact .refl
 ·split
  ·exact aoa b _
  ·split
   ·rename_i c
    intro a d;obtain⟨e,x,f,y,u,v,w⟩:=o.fn g c;have i:=m aqw n g c a d apO.aW[e] (by rw[f];simp);obtain⟨p,q⟩:=k c a d;have h:=aoa b aqw.af.aB a d;obtain⟨r,j,s⟩:=qo p;obtain⟨t,v1,v2⟩:=qo q;have l:apO.aW[aqw.af.aQ.toNat]?=T apO.aW[e]:=by rw[f];simp
    rw[l,j,v1];rw[j,v1]at h;simp only[pb,bG,fi,la,kg,jt]at i;exact(i.2 r s t v2).resolve_left (by simpa using h)
   ·exact .refl
variable{aqs:List aO}
theorem an8(d:ti apO aqs)(y:amA apO){gs:List aw}(o:dq apO aqs aqj)(h:dq apO aqs gs)(x:LeI apO aqj gs)(b:aqw∈apO.ah)(v:0<=aqw.aq)(z:∀q∈aqw.ae,pc q=ab->Agr q.aq aqj gs):
 ∀a∈tg apO aqj aqw,∃g∈tg apO gs aqw,g.aq=a.aq/\g.ad=a.ad/\alk apO a.aq a.af g.af:=by
 intro a w;obtain⟨u,f,rfl⟩:=du.1 w;have e:=d.hG aqw b;have i:=d.safe aqw b;have v1:=Ii e i (o.meet d b) (λa c=>(o.ok a c).af) u f;simp only[uD,bG]at i;obtain⟨C,p⟩:=rM.1 i.1.1;rw[PI p]at f;obtain⟨k,j,B⟩:=anH (λg c=>(h.ok g c).af) x e.lits z C ⟨rfl,rfl,rfl,[],rfl,rfl,by simp⟩ f;rw[<-PI p]at j;have v2:=Ii e (d.safe aqw b) (h.meet d b) (λa c=>(h.ok a c).af) k j
 refine⟨iR apO aqw k,du.2 ⟨k,j,rfl⟩,aoP y b e v B λr E A=>?_⟩;obtain⟨F,l,s⟩:=v1.au _ (Ez v1.zm (v1.m (.inr r)));obtain⟨G,n,t⟩:=v2.au _ (Ez v2.zm (v2.m (.inr r)));rw[A]at l n;cases l;cases n
 exact⟨s,t⟩
variable{aqZ:List Int}
theorem amL(a:th aqZ aqw=ab):0<=aqw.aq:=by
 simp only[th,bG,decide_eq_true_eq]at a;exact a.1
theorem ans{b:List aw->Prop}(g:b [])(d:∀a∈apO.ah,th aqZ a=ab->∀out,b out->b (jm apO out (tg apO aqj a))):b (nK apO aqZ aqj):=by
 have key:∀(c:List aG)(_:∀a∈c,a∈apO.ah){out:List aw},b out->b (c.foldl (mb apO aqZ aqj) out):=by
  intro c;induction c with
  |nil=>exactλ_ _ d=>d
  |cons a c j=>
   intro e out f;refine j (λk i=>e k (by simp[i])) ?_;unfold mb;split
   ·rename_i h;exact d a (e a (by simp)) h out f
   ·exact f
 exact key apO.ah (λ_ d=>d) g
theorem anX{e:Int->List aO->Prop}:∀(d:List aw){c:List aw},(∀a∈c,e a.aq a.ad)->(∀a∈d,e a.aq a.ad)->∀a∈jm apO c d,e a.aq a.ad
 |[],_,f,_=>f
 |b::d,c,f,g=>anX d (c:=dp apO c b) (Pf f (g b (by simp))) λa h=>g a (by simp[h])
theorem ant{c:Int->List aO->Prop}(d:∀b∈apO.ah,th aqZ b=ab->∀a∈tg apO aqj b,c a.aq a.ad):∀a∈nK apO aqZ aqj,c a.aq a.ad:=
 ans (b:=λout=>∀a∈out,c a.aq a.ad) (by simp) λb g e _ f=>anX _ f (d b g e)
theorem aol(f:ti apO aqs)(g:dq apO aqs aqj):∀(e:List aG)(_:∀r∈e,r∈apO.ah){out:List aw},dq apO aqs out->
 LeI apO out (e.foldl (mb apO aqZ aqj) out)/\∀r∈e,th aqZ r=ab->∀d∈tg apO aqj r,alh apO (e.foldl (mb apO aqZ aqj) out) d
 |[],_,out,_=>⟨.refl,by simp⟩
 |r::e,s,out,l=>by
  have n:=s r (by simp);have m:=(EB f g aqZ [r] (by simpa using n) l).1;obtain⟨h,q⟩:=aol f g e (by grind) m;rw[oJ];have j:∀b∈mb apO aqZ aqj out r,qx apO b:=λb a=>(m.ok b a).af;have i:LeI apO out (mb apO aqZ aqj out r)/\(th aqZ r=ab->∀d∈tg apO aqj r,alh apO (mb apO aqZ aqj out r) d):=by
   unfold mb;split
   ·rename_i c
    have p:0<=r.aq:=by
     simp only[th,bG,decide_eq_true_eq]at c;exact c.1
    have:=ana f.aV (tg apO aqj r) (λb a=>(l.ok b a).af) (λb a=>(PQ f g n p b a).af);exact⟨this.1,λ_=>this.2⟩
   ·rename_i c
    exact⟨.refl,λo=>absurd o c⟩
  refine⟨i.1.trans j h,λb a c d k=>?_⟩;rcases cf.1 a with rfl|a
  ·exact(i.2 c d k).trans j h
  ·exact q b a c d k
theorem aon(f:ti apO aqs){gs:List aw}(d:dq apO aqs aqj)(h:dq apO aqs gs)(l:∀c∈apO.ah,th aqZ c=ab->∀g∈tg apO aqj c,alh apO gs g):LeI apO (nK apO aqZ aqj) gs:=
 (ans (b:=λout=>dq apO aqs out/\LeI apO out gs) ⟨.nil apO aqs,by intro g d;cases d⟩ λc k j out e=>by
  have i:=PQ f d k (amL j);exact⟨EA f.aV _ e.1 i,aor f.aV h.fz (λb a=>(h.ok b a).af) _ (λb a=>(e.1.ok b a).af) (λb a=>(i b a).af) e.2 (l c k j)⟩).2
theorem anB(e:ti apO aqs)(d:dq apO aqs aqj):∀a∈apO.ah,th aqZ a=ab->∀b∈tg apO aqj a,alh apO (nK apO aqZ aqj) b:=
 (aol e d apO.ah (λ_ c=>c) (.nil apO aqs)).2
theorem aph(a:ti apO aqs)(q:amA apO){gs:List aw}(f:dq apO aqs aqj)(d:dq apO aqs gs)(p:LeI apO aqj gs)(r:∀c∈apO.ah,th aqZ c=ab->∀l∈c.ae,pc l=ab->Agr l.aq aqj gs):LeI apO (nK apO aqZ aqj) (nK apO aqZ gs):=by
 have s:=(EC a d aqZ).1;refine aon a f s λc b h i k=>?_;have e:=amL h;obtain⟨g,j,m,n,o⟩:=an8 a q f d p b e (r c b h) i k;exact(anB a d c b h g j).down a.aV (PQ a f b e i k).af (PQ a d b e g j).af m n o
def alj(c:aj)(b:List aw):Prop:=∀a∈b,¬amC c a
theorem aou(m:uM apO)(l:∀c∈aqj,qx apO c)(r:qx apO aqL)(g:alj apO aqj):alj apO (dp apO aqj aqL):=by
 rcases am0 apO aqj aqL with⟨i,d⟩|⟨i,⟨e,h,d,j,⟨b,k⟩|⟨f,b,k⟩⟩|⟨d,j⟩⟩
 ·grind
 ·simp_all
 ·rw[k]
  intro c a;rcases ak6 a with a|rfl
  ·exact g c a
  ·have p:=l _ (bs h) f (by rw[d];exact b)
   obtain⟨-,o,-,-⟩:=anL (m f (Bz b)) p (r f b);intro q;refine g aqj[e] (bs h) (amC.down (g:=⟨aqj[e].aq,aqj[e].ad,fy f [aqj[e].af,aqL.af]⟩) m (l _ (bs h)) rfl (λs n=>?_) q);rw[d,b]at n;cases n;exact o
 ·rw[j]
  intro c a;rcases H6.1 a with rfl|a
  ·exact i
  ·exact g c a
theorem am4(e:uM apO):∀(a:List aw){c:List aw},(∀f∈c,qx apO f)->(∀f∈a,qx apO f)->alj apO c->alj apO (jm apO c a)
 |[],_,_,_,d=>d
 |b::a,c,d,g,h=>am4 e a (Eu e d (g b (by simp))).2 (by grind) (aou e d (g b (by simp)) h)
theorem aoy{gs:List aw}(a:fY aqj)(k:LeI apO aqj gs)(d:Int):fS aqj d<=fS gs d:=by
 have l:((aqj.filter λb=>b.aq==d).map aw.ad).Nodup:=by
  rw[List.nodup_iff_pairwise_ne,TQ];refine anz (λ{f o} c e n m=>n ?_) ((aen a).filter _);have c:=tF.1 c;have e:=tF.1 e;exact Pr a f c.1 o e.1 (by simp_all) m
 have p:=BA l (a:=(gs.filter λb=>b.aq==d).map aw.ad) λf c=>by
  obtain⟨b,a,rfl⟩:=du.1 c;have a:=tF.1 a;obtain⟨g,h,i,j,-⟩:=k b a.1;exact du.2 ⟨g,tF.2 ⟨h,by simpa[i]using a.2⟩,j⟩
 simp_all[fS]
theorem anS{gs:List aw}(e:fY aqj)(d:LeI apO aqj gs)(f:jP gs=aa):jP aqj=false:=by
 unfold jP;rw[<-Kr,FE];rintro⟨a,b,c⟩;have b:a<Z aqj:=by simpa using b
 rw[si,bC b]at c;simp only[decide_eq_true_eq]at c;have g:=aej f aqj[a].aq;have h:=aoy e d aqj[a].aq;have i:fS (aqj.take (a+1)) aqj[a].aq<=fS aqj aqj[a].aq:=by
  unfold fS;exact List.Sublist.length_le ((List.take_sublist _ _).filter _)
 omega
theorem anW{d:aj}:∀(f:List aw){a:List aw},(∀c∈f,c.aq≠aqo)->Agr aqo (jm d a f) a
 |[],_,_=>rfl
 |b::f,a,k=>by
  have o:=anW (d:=d) f (a:=dp d a b) λc q=>k c (by simp[q]);have m:=k b (by simp);refine o.trans ?_;rcases am0 d a b with⟨-,i⟩|⟨-,⟨e,n,i,l,⟨p,j⟩|⟨r,p,j⟩⟩|⟨-,l⟩⟩
  ·rw[i]
  ·rw[j]
  ·rw[j]
   have g:¬(a[e].aq==aqo)=true:=by rw[i];simpa using m
   have h:a.filter (λc=>c.aq==aqo)=(a.take e).filter (λc=>c.aq==aqo)++(a.drop (e+1)).filter (λc=>c.aq==aqo):=by
    conv=>lhs;rw[<-vg e a,mQ n,Ty,List.filter_cons_of_neg (p:=λc:aw=>c.aq==aqo) g]
   rw[h,alc,if_pos n,Ty,List.filter_cons_of_neg (p:=λc:aw=>c.aq==aqo) (a:=⟨a[e].aq,a[e].ad,fy r [a[e].af,b.af]⟩) g]
  ·rw[l]
   have g:¬(b.aq==aqo)=true:=by simpa using m
   have h:a.filter (λc=>c.aq==aqo)=(a.take (kA a b (Z a))).filter (λc=>c.aq==aqo)++(a.drop (kA a b (Z a))).filter (λc=>c.aq==aqo):=by
    conv=>lhs;rw[<-vg (kA a b (Z a)) a,Ty]
   unfold j8;rw[h,Ty,List.filter_cons_of_neg (p:=λc:aw=>c.aq==aqo) g]
theorem anU:∀a∈nK apO aqZ aqj,a.aq∈aqZ:=
 ant (c:=λc _=>c∈aqZ) λg _ b a d=>by
  obtain⟨f,-,rfl⟩:=du.1 d;simp only[th,bG,List.contains_iff_mem]at b;exact b.2
def amE(e:aj)(b:List Int)(d gs:List aw):Prop:=∀c∈e.ah,th b c=ab->∀a∈c.ae,pc a=ab->a.aq∉b/\Agr a.aq d gs
theorem anQ(c:aqo∉aqZ):Agr aqo (iG apO aqZ aqj) aqj:=
 anW _ λb d a=>c (a▸anU b d)
theorem amE.next{gs:List aw}(a:amE apO aqZ aqj gs):amE apO aqZ (iG apO aqZ aqj) gs:=λg e c f d b=>
 ⟨(a g e c f d b).1,(anQ (a g e c f d b).1).trans (a g e c f d b).2⟩
theorem aog(a:ti apO aqs)(r:amA apO){gs:List aw}(c:dq apO aqs aqj)(d:dq apO aqs gs)(m:LeI apO aqj gs)(s:amE apO aqZ aqj gs)(b:∀f∈apO.ah,th aqZ f=ab->∀i∈tg apO gs f,alh apO gs i):LeI apO (iG apO aqZ aqj) gs:=by
 have t:=(EC a c aqZ).1;refine aor a.aV d.fz (λh b=>(d.ok h b).af) _ (λh b=>(c.ok h b).af) (λh b=>(t.ok h b).af) m λi p=>.inr ?_;refine aon a c d (λf e k g l=>?_) i p;have j:=amL k;obtain⟨n,w1,v,w,x⟩:=an8 a r c d m e j (λu q o=>(s f e k u q o).2) g l;exact(b f e k n w1).down a.aV (PQ a c e j g l).af (PQ a d e j n w1).af v w x
variable{aoO:Nat}{ar6:Option (List aw)}
theorem anr(c:ti apO aqs)(g:amA apO)(a:sn apO aqZ aoO aqj ar6){gs:List aw}(b:dq apO aqs aqj)(f:dq apO aqs gs)(d:LeI apO aqj gs)(l:jP gs=aa)(e:amE apO aqZ aqj gs)(h:∀ar6∈apO.ah,th aqZ ar6=ab->∀j∈tg apO gs ar6,alh apO gs j):
 ∃out,ar6=T out/\LeI apO out gs:=by
 induction a with
 |over aoO aqj a=>
  have k:=aog c g b f d e h;rw[anS (Il c b aqZ).1.fz k l]at a;cases a
 |stop aoO aqj a i=>exact⟨aqj,rfl,d⟩
 |next aoO aqj ar6 a i n m=>exact m (Il c b aqZ).1 (aog c g b f d e h) e.next
theorem amY(f:ti apO aqs)(c:sn apO aqZ aoO aqj ar6)(d:dq apO aqs aqj):∀gs,ar6=T gs->dq apO aqs gs/\LeI apO aqj gs/\jP gs=aa/\iG apO aqZ gs=gs:=by
 induction c with
 |over aoO aqj c=>grind
 |stop aoO aqj c g=>
  intro gs e;cases e
  exact⟨d,.refl,by grind,g⟩
 |next aoO aqj ar6 c g o n=>
  intro gs e;have h:=(Il f d aqZ).1;obtain⟨i,j,k⟩:=n h gs e;have m:=(EC f d aqZ).1;have l:=(ana f.aV (nK apO aqZ aqj) (λb a=>(d.ok b a).af) λb a=>(m.ok b a).af).1;exact⟨i,l.trans (λb a=>(h.ok b a).af) j,k⟩
theorem amM(i:ti apO aqs):∀{g:List (List Int)}{b:List aw}{e:Option (List aw)},ra apO g b e->dq apO aqs b->∀gs,e=T gs->dq apO aqs gs/\LeI apO b gs
 |[],b,e,a,f=>by cases a;intro gs d;cases d;exact⟨f,.refl⟩
 |c::g,b,e,a,f=>by
  intro gs d;cases a with
  |none _ _ o _ a=>cases d
  |cons _ _ o _ j _ a p=>
   obtain⟨h,k,-,-⟩:=amY i a f j rfl;obtain⟨l,m⟩:=amM i p h gs d;exact⟨l,k.trans (λq n=>(h.ok q n).af) m⟩
theorem aoK(f:nN apO):∀b∈apO.aW,∃d,apO.m[b.of.toNat]?=T d/\0<=b.of/\pb d b.gM=true:=by
 intro b g;have e:=JR (congrArg aj.aW f.2.2.2) b g;obtain⟨c,h,rfl⟩:=jS.1 g;have a:=f.2.1;simp only[po,bG,fi,la]at a;have a:=a.1.2 c h;rw[oz,bC h]at a;simp only[bG]at a;obtain⟨a,-⟩:=a;split at a
 ·rename_i d i
  simp only[bG,decide_eq_true_eq]at a;have j:apO.aW[c].of=dz apO apO.aW[c].aV:=(congrArg Fn.of e).symm;have k:apO.aW[c].gM=fe d apO.aW[c]:=by
   refine(congrArg Fn.gM e).symm.trans ?_;simp only[eQ,i,if_pos a]
  refine⟨d,by rw[j];exact i,by omega,?_⟩;rw[k];have:=a.2;simp only[e9,bG]at this;exact this.2
 ·cases a
theorem anN(c:nN apO):amA apO:=by
 intro a q G o I e E n;have A:apO.aW=apO.aW.map (eQ apO):=congrArg aj.aW c.2.2.2;have B:apO.d=apO.d.map (en apO):=congrArg aj.d c.2.2.2;have v:=congrArg aj.ah c.2.2.2;have y:dT apO []=⟨apO.m,apO.aW,apO.d,[]⟩:=by
  show(⟨apO.m,apO.aW.map (eQ apO),apO.d.map (en apO),[]⟩:aj)=_;grind
 have i:=JR v a q;obtain⟨l,-,-⟩:=c.2.2.1 a q;rw[y]at i l;have C:a.aq=kE ⟨apO.m,apO.aW,apO.d,[]⟩ a:=(congrArg aG.aq i).symm;have w:a.af.aQ=oA ⟨apO.m,apO.aW,apO.d,[]⟩ a:=(congrArg (λg:aG=>g.af.aQ) i).symm;have p:a.ar≠[]:=by grind[kE]
 obtain⟨k,j,z,-,-,-,-,r⟩:=IM l p;obtain⟨g,f,s,h⟩:=r o;have j:k<Z apO.d:=j;have f:=f;have t:a.af.aQ=g:=by rw[w,oA,if_neg p,if_neg (by omega),if_pos o,s]
 have u:a.aq=k:=by grind[kE]
 rw[t,ej,bC f]at n;cases n
 obtain⟨H,b,F,x⟩:=aoK c apO.aW[g] (bs f);rw[u,yf,JT j]at e;split at e
 ·cases e
 ·have h:=h
  rw[h]at b;have b:=b;rw[e]at b;cases b
  exact x
open Go.Law
theorem aoE{gs:List aw}(c:Agr aqN.aq aqj gs):e5 apO aqj aqx aqN=e5 apO gs aqx aqN:=by
 have d:∀b:List aw,b.filter (j9 apO aqN)=(b.filter λa=>a.aq==aqN.aq).filter (j9 apO aqN):=by
  intro b;rw[List.filter_filter]
  congr 1
  funext a
  unfold j9;cases a.aq==aqN.aq<;>simp
 have e:aqj.filter (j9 apO aqN)=gs.filter (j9 apO aqN):=by
  rw[d aqj,d gs];exact congrArg (List.filter (j9 apO aqN)) c
 have f:∀aqx,pe apO aqj aqx aqN=pe apO gs aqx aqN:=λaqx=>by
  unfold pe tb;simp only[c.find]
 unfold e5;rw[e,f]
theorem aoC{gs:List aw}(c:∀a∈aqw.ae,Agr a.aq aqj gs):fA apO aqj aqw=fA apO gs aqw:=by
 have b:kC apO aqj aqw.ae=kC apO gs aqw.ae:=by
  funext e f
  unfold kC;split
  ·rename_i a d
   congr 1
   funext b
   exact aoE (c a (sG d))
  ·rfl
 unfold fA;rw[b]
theorem aom{gs:List aw}(c:∀a∈apO.ah,th aqZ a=ab->∀i∈a.ae,Agr i.aq aqj gs):nK apO aqZ aqj=nK apO aqZ gs:=by
 have key:∀(b:List aG)(_:∀a∈b,a∈apO.ah)(out:List aw),b.foldl (mb apO aqZ aqj) out=b.foldl (mb apO aqZ gs) out:=by
  intro b;induction b with
  |nil=>simp
  |cons a b h=>
   intro d out;have e:mb apO aqZ aqj out a=mb apO aqZ gs out a:=by
    unfold mb;split
    ·rename_i f
     unfold tg;rw[aoC (c a (d a (by simp)) f)]
    ·rfl
   rw[oJ,oJ,e];exact h (λj g=>d j (by simp[g])) _
 exact key apO.ah (λ_ c=>c) []
theorem amN:∀{d e:List aw},d.Pairwise (λi j=>db i j<0)->e.Pairwise (λi j=>db i j<0)->(∀x,x∈d<->x∈e)->d=e
 |[],[],_,_,_=>rfl
 |[],f::e,_,_,b=>by have:=(b f).2 (by simp);cases this
 |x::d,[],_,_,b=>by have:=(b x).1 (by simp);cases this
 |x::d,f::e,g,h,b=>by
  rw[zU]at g h;have k:∀a:aw,¬db a a<0:=λa c=>by
   have:=(zj a a).2 ⟨rfl,rfl⟩;omega
  have l:x=f:=by
   rcases cf.1 ((b x).1 (by simp))with h1|h1
   ·exact h1
   ·rcases cf.1 ((b f).2 (by simp))with h2|h2
    ·exact h2.symm
    ·exact absurd (zk _ _ _ (g.1 f h2) (h.1 x h1)) (k x)
  subst l
  congr 1
  refine amN g.2 h.2 λa=>⟨λc=>?_,λc=>?_⟩
  ·rcases cf.1 ((b a).1 (by simp[c]))with rfl|h1
   ·exact absurd (g.1 a c) (k a)
   ·exact h1
  ·rcases cf.1 ((b a).2 (by simp[c]))with rfl|h1
   ·exact absurd (h.1 a c) (k a)
   ·exact h1
theorem aoc(v:uM apO){gs:List aw}(i:dq apO aqs aqj)(m:dq apO aqs gs)(t:LeI apO aqj gs)(u:LeI apO gs aqj):∀d∈aqj,d∈gs:=by
 intro d e;obtain⟨g,f,h,r,s⟩:=t d e;obtain⟨a,w1,w,x,y⟩:=u g f;have j:=Pr i.fz a w1 d e (w.trans h) (x.trans r);subst j;have j:g.af=a.af:=by
  cases b:e8 apO a.aq with
  |none=>rw[(i.ok a e).none b,(m.ok g f).none (by grind)]
  |some c=>
   obtain⟨z,n,o⟩:=qo ((i.ok a e).af c b);obtain⟨A,p,q⟩:=qo ((m.ok g f).af c (by rw[h];exact b));have k:=s c b;have l:=y c (by rw[h];exact b);rw[n,p]at k l⊢;rw[Pj (v c (Bz b)) q o l k]
 have:g=a:=by
  cases g;cases a
  simp_all
 grind
theorem aob(e:uM apO){gs:List aw}(a:dq apO aqs aqj)(b:dq apO aqs gs)(c:LeI apO aqj gs)(d:LeI apO gs aqj):aqj=gs:=
 amN (H4.1 a.fz) (H4.1 b.fz) λf=>⟨aoc e a b c d f,aoc e b a d c f⟩
def ael(a:List Int)(c:List aw):List aw:=c.filter λb=>a.contains b.aq
theorem ali:aqL∈ael aqZ aqj<->aqL∈aqj/\aqL.aq∈aqZ:=by
 simp[ael]
theorem dq.part(a:dq apO aqs aqj)(b:List Int):dq apO aqs (ael b aqj):=
 ⟨H4.2 ((H4.1 a.fz).filter _),λc d=>a.ok c (ali.1 d).1⟩
def ani(d:aj)(a:List Int):Prop:=∀c∈d.ah,th a c=ab->∀b∈c.ae,pc b=ab->b.aq∉a
theorem Agr.symm{gs:List aw}(a:Agr aqo aqj gs):Agr aqo gs aqj:=Eq.symm a
theorem anR(d:ti apO aqs)(c:dq apO aqs aqj):LeI apO aqj (iG apO aqZ aqj)/\∀e∈nK apO aqZ aqj,alh apO (iG apO aqZ aqj) e:=
 ana d.aV (nK apO aqZ aqj) (λb a=>(c.ok b a).af) λb a=>((EC d c aqZ).1.ok b a).af
theorem apc(b:ti apO aqs)(B:amA apO)(t:ani apO aqZ)(k:sn apO aqZ aoO aqj ar6)(c:dq apO aqs aqj)(s:∀a∈aqj,a.aq∈aqZ->AtF apO (nK apO aqZ aqj) a):
 ∀gs,ar6=T gs->ael aqZ gs=nK apO aqZ gs:=by
 induction k with
 |over aoO aqj k=>grind
 |stop aoO aqj k q=>
  intro gs x;cases x
  have n:=(EC b c aqZ).1;refine aob b.aV (c.part aqZ) n (λa f=>s a (ali.1 f).1 (ali.1 f).2) λa f=>?_;have h:=(anR b c).2 a f;rw[q]at h;have G:alj apO (nK apO aqZ aqj):=(ans (b:=λout=>dq apO aqs out/\alj apO out) ⟨.nil apO aqs,by intro a c;cases c⟩ λar6 j i out p=>by
   have u:=PQ b c j (amL i);exact⟨EA b.aV _ p.1 u,am4 b.aV _ (λe d=>(p.1.ok e d).af) (λe d=>(u e d).af) p.2⟩).2
  obtain⟨g,y,r,z,A⟩:=h.resolve_left (G a f);exact⟨g,ali.2 ⟨y,by rw[r];exact anU a f⟩,r,z,A⟩
 |next aoO aqj ar6 k q I F=>
  have h:=(Il b c aqZ).1;have C:amE apO aqZ aqj (iG apO aqZ aqj):=λar6 j i o m l=>⟨t ar6 j i o m l,(anQ (t ar6 j i o m l)).symm⟩;have n:=aph b B c h (anR b c).1 λar6 j i o m l=>(C ar6 j i o m l).2;have v:=(EC b c aqZ).1;have w:=(EC b h aqZ).1;refine F h (anY b.aV w.fz (λe d=>(w.ok e d).af) _ (λe d=>(c.ok e d).af) (λe d=>(v.ok e d).af) (λa f E=>?_) λa f _=>.inr (n a f))
  exact(s a f E).trans (λe d=>(v.ok e d).af) n
inductive amz(n:Nat)(D:cO):(Nat->Bool)->List (List Nat)->Prop
 |nil (done:Nat->Bool):amz n D done []
 |cons (done:Nat->Bool) (g:List Nat) (L:List (List Nat)) (h1:∀x∈g,x<n/\done x=aa) (h2:∀x∈g,∀b,b<n->D x b=ab->done b=ab\/b∈g) (h3:∀x∈g,∀y∈g,eY D x y=ab)
  (done':Nat->Bool) (h4:∀b,b<n->(done' b=ab<->done b=ab\/b∈g)) (t:amz n D done' L):amz n D done (g::L)
variable{aqT:cO}{aqf:Nat}
theorem anV(a:eY aqT aoO aqf=ab):eY aqT aqf aoO=true:=by
 simp only[eY,kg,beq_iff_eq,bG]at a⊢;grind
variable{aqq:Nat}
theorem anC(c:∀aoO aqf aqq,aqT aoO aqf=ab->aqT aqf aqq=ab->aqT aoO aqq=ab)(a:eY aqT aoO aqf=ab)(b:eY aqT aqf aqq=ab):eY aqT aoO aqq=true:=by
 simp only[eY,kg,beq_iff_eq,bG]at a b⊢;grind
theorem an5(i:∀b a r,aqT b a=ab->aqT a r=ab->aqT b r=ab):∀(k:Nat){done:Nat->Bool},(∀b a,b<aoO->a<aoO->eY aqT b a=ab->done b=ab->done a=ab)->amz aoO aqT done (nL aoO aqT k done)
 |0,done,_=>.nil _
 |k+1,done,s=>by
  rw[nL];split
  ·exact .nil _
  ·rename_i b v
   obtain⟨g,l,-⟩:=FD.1 v;have l:b<aoO:=by simpa using l
   simp only[ph,bG,jt,fi,la,kg]at g;have f:∀c,c∈(List.range aoO).filter (eY aqT b)<->c<aoO/\eY aqT b c=true:=by simp
   refine .cons _ _ _ (λc d=>?_) (λc d a j t=>?_) (λc d q p=>?_) (λa=>done a||eY aqT b a) (λa j=>?_) (an5 i k λc q d p u hd=>?_)
   ·obtain⟨m,e⟩:=(f c).1 d
    refine⟨m,?_⟩;rw[<-Kr];intro hd;rw[s c b m l (anV e) hd]at g;exact absurd g.1 (by simp)
   ·obtain⟨m,e⟩:=(f c).1 d
    have n:aqT b a=ab\/eY aqT b a=true:=by
     simp only[eY,kg,beq_iff_eq,bG]at e;rcases e with rfl|e
     ·exact .inl t
     ·exact .inl (i _ _ _ e.1 t)
    by_cases o:eY aqT b a=ab
    ·exact .inr ((f a).2 ⟨j,o⟩)
    ·have n:=n.resolve_right o
     rcases g.2 a j with(h|h)|h
     ·rw[n]at h;cases h
     ·exact .inl h
     ·exact absurd h o
   ·exact anC i (anV ((f c).1 d).2) ((f q).1 p).2
   ·simp[j]
   ·simp only[kg]at hd⊢
    rcases hd with hd|hd
    ·exact .inl (s c q d p u hd)
    ·exact .inr (anC i hd u)
variable{aqg aqR:Type}
theorem anM{f:List aqg->aqR->List aqg}{d:aqR->aqg->Prop}(g:∀e x a,a∈f e x<->a∈e\/d x a):∀(c:List aqR)(b:List aqg)(a:aqg),a∈c.foldl f b<->a∈b\/∃x∈c,d x a
 |[],b,a=>by simp
 |x::c,b,a=>by
  rw[oJ,anM g c,g];grind
theorem am1{b:Edge}:b∈kv apO<->∃a∈apO.ah,∃d∈a.ae,qs apO a d=ab/\b=((a.aq,d.aq),pc d):=by
 have f:∀a c e(b:Edge),b∈jD apO a c e<->b∈c\/(qs apO a e=ab/\b=((a.aq,e.aq),pc e)):=λa c e b=>by
  unfold jD;split<;>simp[*]
 have g:∀c a(b:Edge),b∈pd apO c a<->b∈c\/∃d∈a.ae,qs apO a d=ab/\b=((a.aq,d.aq),pc d):=λc a b=>anM (f a) _ c b;have:=anM g apO.ah [] b;simpa[kv]using this
theorem amV:sd apO aoO aqf=ab<->∃a∈kv apO,a.1.1=aoO/\a.1.2=aqf:=by
 simp[sd,qn]
theorem amF(a b:Nat)(e:sd apO a b=ab):a<Z apO.d/\b<Z apO.d:=by
 obtain⟨c,f,g,h⟩:=amV.1 e;have:=Bv c f;omega
theorem ano(d:aj):∀a b c,iF d a b=ab->iF d b c=ab->iF d a c=true:=by
 intro a b c e f;rw[iF,OE amF]at*;exact e.trans f
theorem ann(a:aj):amz (Z a.d) (iF a) (λ_=>aa) (pj (Z a.d) (iF a)):=
 an5 (ano a) _ (by simp)
variable{are:List (List Nat)}
theorem amz.later{done:Nat->Bool}(b:amz aoO aqT done are):∀g∈are,∀a∈g,a<aoO/\done a=false:=by
 induction b with
 |nil=>simp
 |cons done g are h m n l i o j=>
  intro k c a f;rcases cf.1 c with rfl|c
  ·exact h a f
  ·obtain⟨d,e⟩:=j k c a f
   refine⟨d,?_⟩;rw[<-Kr]at e⊢;exactλb=>e ((i a d).2 (.inl b))
theorem amW(a:sn apO aqZ aoO aqj ar6)(d:aqo∉aqZ):∀gs,ar6=T gs->Agr aqo gs aqj:=by
 induction a with
 |over aoO aqj a=>grind
 |stop aoO aqj a c=>intro gs b;cases b;rfl
 |next aoO aqj ar6 a c f e=>exactλgs b=>(e gs b).trans (anQ d)
theorem am2:∀{g:List (List Int)}{e:List aw}{f:Option (List aw)},ra apO g e f->∀{b:Int},(∀c∈g,b∉c)->∀gs,f=T gs->Agr b gs e
 |[],e,f,a,b,_=>by cases a;intro gs d;cases d;rfl
 |c::g,e,f,a,b,i=>by
  intro gs d;cases a with
  |none _ _ j _ a=>cases d
  |cons _ _ j _ h _ a k=>exact(am2 k (by grind) gs d).trans (amW a (i c (by simp)) h rfl)
theorem aoo(d:se apO=[]):∀b∈apO.ah,∀a∈b.ae,kX apO b a=false:=by
 have key:∀(c:List aG){f:List (Int×Int)},c.foldl (qu apO) f=[]->f=[]/\∀b∈c,∀a∈b.ae,kX apO b a=false:=by
  intro c;induction c with
  |nil=>simp
  |cons b c k=>
   intro f d;rw[oJ]at d;obtain⟨e,j⟩:=k d;unfold qu at e;split at e
   ·simp at e
   ·rename_i i
    rw[FF]at i;refine⟨e,λl g a h=>?_⟩;rcases cf.1 g with rfl|g
    ·simpa using i a h
    ·exact j l g a h
 exact(key apO.ah d).2
theorem aoB(h:aqw∈apO.ah)(g:aqN∈aqw.ae)(a:aqw.aq=aoO)(b:aqN.aq=aqf)(c:aoO<Z apO.d)(e:aqf<Z apO.d)(f:aqN.ak≠5):iF apO aoO aqf=true:=by
 rw[iF,D7];exact .gP _ _ (amV.2 ⟨_,am1.2 ⟨aqw,h,aqN,g,by simp[qs,ep,a,b,c,e,f],rfl⟩,a,b⟩)
def anE(d:aj)(a:List Int)(c:List aw):Prop:=∀b∈c,b.aq∉a
theorem anD(q:ti apO aqs){done:Nat->Bool}{g:List Nat}(o:∀b∈g,b<Z apO.d/\done b=aa)(p:∀b∈g,∀a,a<Z apO.d->iF apO b a=ab->done a=ab\/a∈g)(l:aqw∈apO.ah)(j:th (g.map Int.ofNat) aqw=ab)(k:aqN∈aqw.ae):
 aqN.aq= -1\/∃a:Nat,a<Z apO.d/\aqN.aq=a/\(done a=ab\/a∈g):=by
 have m:=(q.hG aqw l).lits aqN k;by_cases e:aqN.ak=5
 ·exact .inl (m.cmp e).2
 ·obtain⟨a,c,h,-⟩:=m.aq e
  refine .inr ⟨a,c,h,?_⟩;simp only[th,bG,decide_eq_true_eq,List.contains_iff_mem,du]at j;obtain⟨-,f,i,n⟩:=j;exact p f i a c (aoB l k n.symm h (o f i).1 c e)
theorem anO(z:ti apO aqs)(v:se apO=[]){g:List Nat}(k:∀j∈g,j<Z apO.d)(r:∀j∈g,∀w∈g,eY (iF apO) j w=ab):ani apO (g.map Int.ofNat):=by
 intro i u p a t m q;have n:=aoo v i u a t;simp only[th,bG,decide_eq_true_eq,List.contains_iff_mem,du]at p q;obtain⟨-,b,l,e⟩:=p;obtain⟨c,o,f⟩:=q;have h:a.ak≠5:=by
  intro h;simp[pc,h]at m
 have s:=r b l c o;have e:i.aq=(b:Int):=e.symm;have f:a.aq=(c:Int):=f.symm;have x:=k b l;have y:=k c o;have:kX apO i a=true:=by
  simp only[kX,qs,ep,e,f,m,HW,ej,ve,bG,decide_eq_true_eq,bne_iff_ne,ne_eq];refine⟨⟨(by omega),h⟩,?_⟩;simpa[eY]using s
 rw[this]at n;cases n
theorem amy{g:List Nat}:(aoO:Int)∈g.map Int.ofNat<->aoO∈g:=by
 simp[akR]
theorem apd(l:ti apO aqs)(x:amA apO)(W:se apO=[]){done:Nat->Bool}(X:amz (Z apO.d) (iF apO) done are):
 ∀{j c:List aw},ra apO (are.map (·.map Int.ofNat)) j (T c)->dq apO aqs j->∀g∈are,anE apO (g.map Int.ofNat) j->nK apO (g.map Int.ofNat) c=ael (g.map Int.ofNat) c:=by
 induction X with
 |nil=>grind
 |cons done g are u J K ac A G Y=>
  intro j c F C i q E;rw[eJ]at F;cases F with
  |cons _ _ af _ gs _ t r=>
   obtain⟨w,ae,-,ad⟩:=amY l t C gs rfl;rcases cf.1 q with rfl|q
   ·have R:=anO l W (λn m=>(u n m).1) K
    have U:=apc l x R t C (λf v h=>absurd h (E f v)) gs rfl;have later:∀a:Nat,a<Z apO.d->(done a=ab\/a∈i)->∀s∈are.map (·.map Int.ofNat),(a:Int)∉s:=by
     intro a e k s h L;obtain⟨z,M,rfl⟩:=du.1 h;have:=(G.later z M a (amy.1 L)).2;rw[(A a e).2 k]at this;cases this
    have p:∀a:Nat,a<Z apO.d->(done a=ab\/a∈i)->Agr (a:Int) c gs:=λa e k=>am2 r (later a e k) c rfl;have H:=aom λah V N y O=>by
     rcases anD l u J V N O with b|⟨a,e,b,k⟩
     ·rw[b]
      refine am2 r (λs h P=>?_) c rfl;obtain⟨z,-,rfl⟩:=du.1 h;obtain⟨n,-,m⟩:=du.1 P;simp at m
     ·rw[b];exact p a e k
    have I:ael (i.map Int.ofNat) c=ael (i.map Int.ofNat) gs:=by
     have Q:=(amM l r w c rfl).1;refine amN (H4.1 (Q.part _).fz) (H4.1 (w.part _).fz) λn=>?_;rw[ali,ali];refine and_congr_left λm=>?_;obtain⟨a,e,b⟩:=du.1 m;have b:=b.symm;have:=p a (u a e).1 (.inr e);have o:∀y:List aw,n∈y<->n∈y.filter λf=>f.aq==(a:Int):=by simp[b]
     rw[o c,o gs,show c.filter _=gs.filter _ from this]
    rw[H,I,U]
   ·refine Y r w i q λf v h=>?_
    obtain⟨a,e,b⟩:=du.1 h;have b:=b.symm;obtain⟨o,B⟩:=G.later i q a e;have S:(a:Int)∉g.map Int.ofNat:=λx=>by
     rw[(A a o).2 (.inr (amy.1 x))]at B;cases B
    have p:=amW t S gs rfl;have:f∈gs.filter λf=>f.aq==(a:Int):=by simp[v,b]
    rw[show gs.filter _=j.filter _ from p]at this;exact E f (tF.1 this).1 h
theorem aoi{e:List (List Int)}(a:ra apO e aqj (T arz))(l:∀b∈apO.ah,b.aq≠aqo):Agr aqo arz aqj:=by
 have o:∀(c:List Int)(gs:List aw),∀j∈nK apO c gs,j.aq≠aqo:=λc gs=>ant (c:=λq _=>q≠aqo) λb n _ j m=>by
  obtain⟨i,-,rfl⟩:=du.1 m;exact l b n
 have k:∀{c d aqj b},sn apO c d aqj b->∀gs,b=T gs->Agr aqo gs aqj:=by
  intro c d aqj b a;induction a with
  |over d aqj a=>simp
  |stop d aqj a i=>intro gs f;cases f;rfl
  |next d aqj b a i p h=>exactλgs f=>(h gs f).trans (anW _ (o _ _))
 generalize g:T arz=s at a;induction a with
 |nil aqj=>cases g;rfl
 |none c e d aqj a=>cases g
 |cons c e d aqj gs b a p h=>exact(h g).trans (k a gs rfl)
def TyA(h:aj)(f:Int)(g:List aO):Prop:=∀c,h.d[f.toNat]?=T c->∀(a:Nat)(e:aO)(b:Int),g[a]?=T e->c.bb[a]?=T b->e.ty=b
structure amZ(p:aj)(fB:List aO)(fs:List aw):Prop where
 v:dq p fB fs
 ty:∀f∈fs,TyA p f.aq f.ad
 nb:alj p fs
theorem an9(y:nN apO)(o:jk apO aqj=ab):amZ apO (pa apO aqj) aqj/\∀a∈aqj,∀g∈a.ad,qX g=true:=by
 have w:=JW y o;rw[jk,fi]at o;have v:∀a∈aqj,qw apO a=true:=by
  intro a f;obtain⟨c,i,rfl⟩:=jS.1 f;have:=o c (by simpa using i);rw[lL,bC i]at this;simp only[bG]at this;exact this.1
 have p:∀a∈aqj,∃e,apO.d[a.aq.toNat]?=T e/\(∀(c:Nat)(g:aO),a.ad[c]?=T g->qX g=ab/\∀l,e.bb[c]?=T l->g.ty=l)/\xE apO e a=true:=by
  intro a f;have m:=v a f;simp only[qw,bG]at m;have h:=m.2;split at h
  ·cases h
  ·rename_i e k
   simp only[v5,bG,beq_iff_eq,fi,la]at h;refine⟨e,k,λc g n=>?_,h.2⟩;obtain⟨i,t⟩:=e6.1 n;have b:=h.1.2 c i;have q:c<Z e.bb:=by omega
   rw[uJ,n,bC q]at b;simp only[bG,beq_iff_eq]at b;refine⟨b.1,λl r=>?_⟩;rw[bC q]at r;cases r
   exact b.2
 refine⟨⟨w,λa f e k c g l m h=>?_,λa f=>?_⟩,λa f g n=>?_⟩
 ·obtain⟨A,s,b,-⟩:=p a f
  rw[k]at s;cases s;exact(b c g m).2 l h
 ·rintro⟨z,j,t⟩
  obtain⟨e,k,-,b⟩:=p a f;rw[yf]at j;have u:hK apO a.aq=e.of:=by unfold hK;rw[k]
  rw[u]at j;unfold xE at b;split at j
  ·cases j
  ·rename_i x
   rw[if_neg x,j]at b;simp only[bG,decide_eq_true_eq,bne_iff_ne,ne_eq]at b;omega
 ·obtain⟨c,i,rfl⟩:=jS.1 n
  obtain⟨e,-,b,-⟩:=p a f;exact(b c _ (bC i)).1
variable{aqG:List Nat}
theorem apg(j:ti apO aqs)(A:amA apO)(aL:se apO=[]){out:List aw}(aB:jP aqj=aa)(s:dq apO aqs out)(ak:LeI apO out aqj)(p:∀H:Int,H∉aqG.map Int.ofNat->Agr H out aqj)(aQ:LeI apO (nK apO (aqG.map Int.ofNat) out) out){done:Nat->Bool}(aU:amz (Z apO.d) (iF apO) done are):
 ∀{e:List aw},ra apO (are.map (·.map Int.ofNat)) e (T aqj)->dq apO aqs e->aqG∈are->anE apO (aqG.map Int.ofNat) e->∀a∈aqj,a.aq∈aqG.map Int.ofNat->AtF apO out a:=by
 induction aU with
 |nil=>intro e _ _ ad;cases ad
 |cons done g are w Q R a9 x G a0=>
  intro e E n r J;have M:=E;rw[eJ]at E;cases E with
  |cons _ _ be _ gs _ v L=>
   obtain⟨ah,-,-,-⟩:=amY j v n gs rfl;rcases cf.1 r with rfl|r
   ·obtain⟨bb,y⟩:=amM j M n aqj rfl
    have mem:∀{a:aw}{m o:List aw},Agr a.aq m o->a∈m->a∈o:=λ{a m o} b n=>by
     have:a∈m.filter λh=>h.aq==a.aq:=by simp[n]
     rw[show m.filter _=o.filter _ from b]at this;exact(tF.1 this).1
    have ac:LeI apO e out:=λa l=>by
     obtain⟨h,a2,O,a3,a4⟩:=y a l;refine⟨h,mem (Agr.symm (p h.aq (by rw[O];exact J a l))) a2,O,a3,a4⟩
    have au:=anO j aL (λh i=>(w h i).1) R;have ar:amE apO (aqG.map Int.ofNat) e out:=λF t q N K k=>by
     have C:=au F t q N K k;refine⟨C,?_⟩;have l:Agr N.aq aqj e:=by
      refine am2 M (λP f=>?_) aqj rfl;rw[eJ]at f;rcases cf.1 f with rfl|f
      ·exact C
      ·obtain⟨u,z,rfl⟩:=du.1 f
       intro B;rcases anD j w Q t q K with b|⟨c,U,b,W⟩
       ·obtain⟨h,-,i⟩:=du.1 B
        rw[b]at i;simp at i
       ·rw[b]at B
        have:=(G.later u z c (amy.1 B)).2;rw[(x c U).2 W]at this;cases this
     exact l.symm.trans (p _ C).symm
    obtain⟨bf,b,ae⟩:=anr j A v n s ac (anS s.fz ak aB) ar λF t q a X=>by
     exact(anB j s F t q a X).trans (λh i=>((EC j s _).1.ok h i).af) aQ
    cases b
    intro a l Y;refine ae a ?_;obtain⟨c,k,b⟩:=du.1 Y;have b:=b.symm;have i:Agr a.aq aqj gs:=by
     rw[b];refine am2 L (λP f V=>?_) aqj rfl;obtain⟨u,z,rfl⟩:=du.1 f;have:=(G.later u z c (amy.1 V)).2;rw[(x c (w c k).1).2 (.inr k)]at this;cases this
    exact mem i l
   ·refine a0 L ah r λa y f=>?_
    obtain⟨c,k,b⟩:=du.1 f;have b:=b.symm;obtain⟨S,I⟩:=G.later aqG r c k;have ax:(c:Int)∉g.map Int.ofNat:=λA=>by
     rw[(x c S).2 (.inr (amy.1 A))]at I;cases I
    have p:=amW v ax gs rfl;have:a∈gs.filter λa=>a.aq==(c:Int):=by simp[y,b]
    rw[show gs.filter _=e.filter _ from p]at this;exact J a (tF.1 this).1 f
open Go.Proofs
variable{apE apQ aqp:AV}
theorem r10:qQX 10 [apE,apQ,aqp] 0x26540166014e13e12e11e15e06600750451fe1013e2be04620e1013e004801013e00ee210e6411e220e60ee1eebd0eeb0042012013e911e504641013e004801013e058126e50211fe1124e426e416eb40390829e230fe11ee000750410e15e1013e21e0412e01013e06d250eeb413e416e111ce001ce20e0217e64b1de111ce001ce1ce0217e619e415e0018e7412e04721e17e230042012013e911e5043210ee866000eedca512030e0d80e926e10211be1ee1be001be1ee1be09924e20e14e091fe26e33004b092013e911e0029e7423e0d702921e14e07921e26e3340490810e07921e22e330fe004181013e4504901013ec004b01013e0ee09801921e1ae3310e13e0d501921e17e33bb40390814e330fe05a030e2ae643ce108323100174100102c00010201d050842310e017e4021fe61415eb0c60414e [.x2 λa b=>jM (.int .i64) (nv a 5),.B .rem 2 0]:=
 ru Tryz.func10 (an 0x84010002000100040200004001003ffcf 0x840100020001000402000040010000000 [9] [(16,1)] [] []) []
theorem r25:qQQ 25 [apE] 0x7100102a000102a00010240d080147e67415e0ee01d05080146e62415e0ee0130e60415eb0414e:=
 ru Tryz.func25 (am 7 0) []
theorem r31:qQQ 31 [apE,apQ] 0x122007c0007202711e00974017e014721e4a0321e7234029780fe05a0007a4100102c000102c000102017ea021ae67415e10e017e0119e64415e10e017e0413d6bb8f50415eb0414e:=
 ru Tryz.func31 (am 0x2001100037 0x2001100000) []
theorem r32:qQQ 32 [apE,apQ] 0x1220270001202611e3050220327312207603120a28e326e1021b0b3324e2ae8c31fe40001202411e100102c20010201d9d0321e3d18e10eb4029b80feab4029580fe0531ee31ee:=
 ru Tryz.func32 (an 0x4000411f3 0x400041000 [] [(4,3),(5,3)] [] []) []
noncomputable def amD(a:aj):Bool:=iH a&&(Z (nA a):Int)==0&&(Z (se a):Int)==0
variable{apN:Bool}
theorem k25(a:aj)(g:dW a)(d:Z a.ah<=20)(h:∀i∈a.ah,j6 i)(e:nN a->ky a):PR C 25 [.agg (cP aa apN a)] (.bool (amD a)):=by
 refine r25.pr ?_;simp only[dS,Q,fQ,bo,G];refine f (afx a g) (aZ (λb=>?_) (λb=>bE (by rw[amD,b]<;>rfl)));refine f (Ot a d h) ?_;simp only[a8,c9,Q];refine aZ (λc=>?_) (λc=>bE (by rw[amD,b,c]<;>rfl));refine f (O4 a (e (QM.1 b)) d) ?_;simp only[a8,c9,Q];exact gU (by rw[amD,b,c]<;>rfl)
noncomputable def amG(a:aj)(b:List aw):Bool:=r9 a b 3000&&amD a&&jk a b&&b.all (oB a)
variable{aqi:Bool}
theorem k31(b:aj)(c:List aw)(o:dW b)(n:Sm c)(w:∀v∈c,eO v.ad):PR C 31 [.agg (cP aa apN b),eS aqi (cF aa) c] (.bool (amG b c)):=by
 refine r31.pr ?_;simp only[dS,Q,fQ];refine eh (N:=[]) (!(r9 b c 3000&&amD b&&jk b c)) (λH j=>?_) ?_
 ·refine f (acP b c 3000 (by omega) o n) ?_
  simp only[bD,Q];refine dx (λe=>?_) (λe=>kB j (by simp_all));have e:r9 b c 3000=true:=by simpa using e
  have s:=Ce e;obtain⟨B,z,-⟩:=Cd s;refine f (k25 b o z B (SW s)) ?_;simp only[bD,Q];refine dx (λh=>?_) (λh=>kB j (by simp_all));have h:amD b=true:=by simpa using h
  have E:nN b:=by
   simp only[amD,bG]at h;exact QM.1 h.1.1
  refine f (adS b c o (SM E) n w) ?_;simp only[bD,Q];exact kB j (by simp_all)
 simp only[G];refine c8 (λe=>bE (by rw[amG,e]<;>rfl)) (λe=>?_);have x:jk b c=true:=by
  simp only[bG]at e;exact e.2
 have y:=aiO x;refine et (U:=Z c) (c:=λk=>[ff,I k]) (λk=>(c.take k).all (oB b)=ab) (by simp) rfl (λk g l t j=>?_) (λl t=>?_)
 ·obtain⟨u,q,m⟩:=y _ (bs g)
  have r:oB b c[k]=b.d[u].fI:=by
   unfold oB;rw[m,ej,bC q]
  simp only[i,G,a8,A,Q,a,g,decide_true,a6,aH,iy,aJ,aC g (hE _ _),p5,m,aC q (hD _ _),AP,bD];refine a7 ?_;refine c8 (λp=>bE ?_) (λp=>?_)
  ·rw[amG,e,cu,List.all_eq_false]
   exact⟨_,bs g,by rw[r,p];simp⟩
  ·rw[n.inc g,Q]
   refine j ?_;rw[mD g,l,r,p]<;>rfl
 ·simp only[i,G,a8,A,Q,a,ca,decide_false]
  refine bq (hR ?_);rw[dB]at l;rw[amG,e,l]<;>rfl
theorem aoe(a:List aw):NB (eS aa (cF aa) a):=rA (λb=>.cons _ _ (.int _ _) (.cons _ _ (zE _) (.cons _ _ (.int _ _) .nil))) a
theorem aoZ(b:Int)(a:List aw):NB (.aE [eS aa (cF aa) a,I b]):=.aE _ (.cons _ _ (aoe a) (.cons _ _ (.int _ _) .nil))
theorem aof(a:Option (List aw)):NB (BL a):=by
 cases a<;>exact aoZ _ _
structure amK(p:aj)(fs:List aw):Prop where
 r9:r9 p fs 3000=ab
 q3:qi p fs
 val:nN p
 uns:nA p=[]
 str:se p=[]
 form:jk p fs=ab
 fI:fs.all (oB p)=ab
theorem aoG(a:amG apO aqj=ab):amK apO aqj:=by
 simp only[amG,amD,bG,beq_iff_eq]at a;obtain⟨⟨⟨b,⟨c,f⟩,g⟩,d⟩,e⟩:=a;exact⟨b,Ce b,QM.1 c,wF (by omega),wF (by omega),d,e⟩
theorem aoR(i:eP C)(j:wA C)(l:x5 C)(a:amK apO aqj)(h:dW apO)(d:∀k∈aqj,eO k.ad):
 ∃b,ra apO (xV apO) aqj b/\(∀gs,b=T gs->dq apO (pa apO aqj) gs/\jP gs=aa)/\PR C 23 [.agg (cP aa apN apO),eS aqi (cF aa) aqj] (BL b):=by
 obtain⟨p,-,o⟩:=Cd a.q3;have f:=JV a.r9 a.val h d a.uns;have e:=JW a.val a.form;have r:=a.q3.facts;obtain⟨b,g,m⟩:=PT f.v (xV apO) e (Io (by omega));have n:qH apO aqj=true:=by
  rw[qH,a.form,a.fI,QM.2 a.val]<;>rfl
 refine⟨b,g,m,jr i j l (V:=apN) (F:=aqi) (bp:=false) apO aqj h (by unfold Sm;omega) d (BL b) (λc=>by rw[n]at c;cases c) λ_=>?_⟩;exact⟨o,p,SW a.q3 a.val,λc=>absurd a.uns c,λ_ c=>absurd a.str c,λ_ _=>⟨_,b,f,e,by omega,g,rfl⟩⟩
theorem ao4(c:aoO<Z aqj):ael aqZ (aqj.take (aoO+1))=if aqZ.contains aqj[aoO].aq=ab then ael aqZ (aqj.take aoO)++[aqj[aoO]]else ael aqZ (aqj.take aoO):=by
 rw[ael,hX c,Ty];by_cases a:aqZ.contains aqj[aoO].aq=ab
 ·rw[if_pos a,List.filter_cons_of_pos (p:=λb:aw=>aqZ.contains b.aq) a]<;>rfl
 ·rw[if_neg a,List.filter_cons_of_neg (p:=λb:aw=>aqZ.contains b.aq) a]
  simp[ael]
theorem ao2(b:List Int)(a:List aw):Z (ael b a)<=Z a:=vh ..
theorem k32(d:List aw)(e:List Int)(B:Z d<=1000000)(y:Z e<=1000000):PR C 32 [eS apN (cF aa) d,eS aqi cI e] (eS aa (cF aa) (ael e d)):=by
 refine r32.pr ?_;simp only[eA,dZ,c3,de,fm,gz];refine bB (z:=Nat) (λc=>[.q 1 (Z (ael e (d.take c))) 0 (Z (ael e (d.take c))),I c]) (λc=>aY [.arr 0 3 [],.arr 0 3 []] 1 3 (cF aa) (Z (ael e (d.take c))) (ael e (d.take c))) (λc=>Z d -c) (λc=>c<=Z d) 0 (by simp) ?_ (by simp[ael]) (by simp[ael,aY]);intro c z w u;have t:=ao2 e (d.take c);rw[gb]at t;simp only[i,G,a8,A,Q,a];refine b (λh=>?_) (λh=>?_)
 ·have h:c<Z d:=by simpa using h
  have k:=u (c+1) h (by omega);rw[ao4 h]at k;rw[bo];generalize ael e (d.take c)=m at*;generalize n:aY [Obj.arr 0 3 [],Obj.arr 0 3 []] 1 3 (cF aa) (Z m) m=o at*;have r:∀f(j:f<Z e),(e.take (f+1)).contains d[c].aq=((e.take f).contains d[c].aq||e[f]==d[c].aq):=λf j=>by
   rw[hX j,hY];simp only[List.contains_iff_mem,c5,lV,kg,beq_iff_eq];exact or_congr_right eq_comm
  refine et (U:=Z e) (c:=λf=>[.bool ((e.take f).contains d[c].aq),I f]) (λ_=>True) trivial (by simp) (λf j _ p s=>?_) (λ_ p=>?_)
  ·simp only[i,G,a8,A,Q,a,j,decide_true]
   refine a7 ?_;refine eh (N:=o) ((e.take (f+1)).contains d[c].aq) (λE l=>?_) ?_
   ·rw[r f j]at l
    refine dx (λg=>?_) (λg=>kB l (by rw[g]<;>rfl));simp only[aC j (g4 _),aH,j4,aC h (hE _ _),a6,p5,c9,Q,aJ];exact kB l (by rw[g]<;>rfl)
   ·simp only[G]
    rw[ba,Q];exact s trivial
  ·simp only[i,G,a8,A,Q,a,ca,decide_false,dB]
   refine bq ?_;refine b (λg=>?_) (λg=>?_)
   ·rw[if_pos g]at k
    simp only[aC h (hE _ _),my,Q,acF];rw[<-n];refine xq (a2:=cF aa) (by simp) rfl (by omega) ?_;rw[ba,Q];rw[fb,gz]at k⊢;exact k
   ·rw[if_neg (by rw[g];decide),n]at k
    rw[ba,Q];exact k
 ·have:c=Z d:=by simp at h;omega
  subst this;rw[dB];exact fx (oo (by simp)) (by simp)
theorem anq(a:nN apO)(f:aqw∈apO.ah)(q:aoO<Z apO.d)(j:aqw.aq=aoO):apO.d[aoO].fI=false:=by
 have n:apO.aW=apO.aW.map (eQ apO):=congrArg aj.aW a.2.2.2;have o:apO.d=apO.d.map (en apO):=congrArg aj.d a.2.2.2;have h:dT apO []=⟨apO.m,apO.aW,apO.d,[]⟩:=by
  show(⟨apO.m,apO.aW.map (eQ apO),apO.d.map (en apO),[]⟩:aj)=_;grind
 have c:=JR (congrArg aj.ah a.2.2.2) aqw f;obtain⟨e,-,-⟩:=a.2.2.1 aqw f;rw[h]at c e;have p:aqw.aq=kE ⟨apO.m,apO.aW,apO.d,[]⟩ aqw:=(congrArg aG.aq c).symm;have i:aqw.ar≠[]:=by grind[kE]
 obtain⟨b,r,k,g,-⟩:=IM e i;have l:aqw.aq=b:=by grind[kE]
 have:aoO=b:=by omega
 subst this;exact g
theorem anJ(b:aoO<Z apO.d)(a:aqL.aq=aoO):oB apO aqL=apO.d[aoO].fI:=by
 unfold oB;rw[a,ej,bC b]
theorem aoz(a:iF apO aoO aqf=ab):∃b∈apO.ah,b.aq=aoO:=by
 have key:∀c,sd apO aoO c=ab->∃b∈apO.ah,b.aq=aoO:=λc a=>by
  obtain⟨g,e,d,-⟩:=amV.1 a;obtain⟨b,f,h,-,-,rfl⟩:=am1.1 e;exact⟨b,f,d⟩
 rw[iF,OE amF]at a;cases a with
 |gP _ _ a=>exact key _ a
 |step _ c _ a i=>exact key _ a
theorem amz.xK{done:Nat->Bool}(b:amz aoO aqT done are):∀g∈are,∀f∈g,∀h∈g,eY aqT f h=true:=by
 induction b with
 |nil=>simp
 |cons done g are j k c i l m d=>
  intro e a;rcases cf.1 a with rfl|a
  ·exact c
  ·exact d e a
theorem an4(f:amK apO aqj){g:List Nat}(k:g∈pj (Z apO.d) (iF apO))(o:aoO∈g)(t:aoO<Z apO.d)(p:apO.d[aoO].fI=aa):anE apO (g.map Int.ofNat) aqj:=by
 intro e r q;obtain⟨a,i,c⟩:=du.1 q;have c:e.aq=(a:Int):=c.symm;have l:=ann apO;have j:=(l.later g k a i).1;have b:=fi.1 f.fI e r;rw[anJ j c]at b;by_cases h:a=aoO
 ·subst h
  rw[p]at b;cases b
 ·have m:=l.xK g k a i aoO o
  simp only[eY,kg,beq_iff_eq,bG]at m;obtain⟨u,s,n⟩:=aoz (m.resolve_left h).1;have:=anq f.val s j n;rw[b]at this;cases this
theorem anK:∀(k:Nat){done:Nat->Bool},∀g∈nL aoO aqT k done,∃a,a<aoO/\g=(List.range aoO).filter (eY aqT a)
 |0,_,g,h=>by cases h
 |k+1,done,g,h=>by
  rw[nL]at h;split at h
  ·cases h
  ·rename_i a b
   rcases cf.1 h with rfl|h
   ·exact⟨a,by simpa using(FD.1 b).2.1,rfl⟩
   ·exact anK k g h
theorem an7(e:∀a c d,aqT a c=ab->aqT c d=ab->aqT a d=ab){g:List Nat}(b:∃a,a<aoO/\g=(List.range aoO).filter (eY aqT a))(h:aqf∈g):g=(List.range aoO).filter (eY aqT aqf):=by
 obtain⟨a,i,rfl⟩:=b;have f:eY aqT a aqf=true:=(tF.1 h).2;refine List.filter_congr λj _=>?_;rw[hY];exact⟨λb=>anC e (anV f) b,λb=>anC e f b⟩
theorem aok(n:∀a c m,aqT a c=ab->aqT c m=ab->aqT a m=ab){done:Nat->Bool}:∀(k a:Nat),a<aoO->done a=aa->Z ((List.range aoO).filter λb=> !done b&&(b==a||aqT a b))<=k->∃c,c<aoO/\ph aoO aqT done c=ab
 |0,a,g,e,o=>by
  have:a∈(List.range aoO).filter λb=> !done b&&(b==a||aqT a b):=by simp[g,e]
  rw[wF (Nat.le_zero.1 o)]at this;cases this
 |k+1,a,g,e,o=>by
  by_cases j:ph aoO aqT done a=ab
  ·exact⟨a,g,j⟩
  ·simp only[ph,e,mR,cu,Kr,List.all_eq_false,la,kg,jt,not_or]at j
   obtain⟨c,p,⟨d,i⟩,f⟩:=j;have d:aqT a c=true:=by simpa using d
   have i:done c=false:=by simpa using i
   have f:¬eY aqT a c=true:=by rw[f];simp
   have q:¬aqT c a=true:=λh=>f (by simp[eY,d,h]);have r:¬a=c:=λh=>f (by simp[eY,h]);refine aok n k c p i ?_;have s:=aeK (b9:=λb=> !done b&&(b==c||aqT c b)) (lq:=λb=> !done b&&(b==a||aqT a b)) (λb l=>by
    simp only[bG,kg,beq_iff_eq]at l⊢;refine⟨l.1,.inr ?_⟩;rcases l.2 with rfl|h
    ·exact d
    ·exact n _ _ _ d h) (a:=List.range aoO) (c:=a) (by simpa using g) (by simp[e]) (by
    have:¬a=c:=r;simp[e,this,q])
   omega
theorem aod(l:∀a b i,aqT a b=ab->aqT b i=ab->aqT a i=ab):∀(k:Nat){done:Nat->Bool},Z ((List.range aoO).filter λc=> !done c)<=k->∀a,a<aoO->done a=aa->∃g∈nL aoO aqT k done,a∈g
 |0,done,m,a,d,e=>by
  have:a∈(List.range aoO).filter λc=> !done c:=by simp[d,e]
  rw[wF (Nat.le_zero.1 m)]at this;cases this
 |k+1,done,m,a,d,e=>by
  rw[nL];split
  ·rename_i n
   obtain⟨b,h,t⟩:=aok l _ a d e (di _);rw[FF]at n;exact absurd t (n b (by simpa using h))
  ·rename_i b h
   obtain⟨j,f,-⟩:=FD.1 h;have f:b<aoO:=by simpa using f
   have q:done b=false:=by
    simp only[ph,bG,jt]at j;exact j.1
   by_cases o:eY aqT b a=ab
   ·exact⟨(List.range aoO).filter (eY aqT b),List.mem_cons_self,by simp[d,o]⟩
   ·have u:=aeK (b9:=λc=> !(done c||eY aqT b c)) (lq:=λc=> !done c) (λc p=>by
     simp only[jt,Kw]at p⊢;exact p.1) (a:=List.range aoO) (c:=b) (by simpa using f) (by simp[q]) (by simp[eY])
    obtain⟨g,r,s⟩:=aod l k (done:=λc=>done c||eY aqT b c) (by omega) a d (by
     rw[e];simpa using o)
    exact⟨g,List.mem_cons_of_mem _ r,s⟩
theorem anG(a:aj)(b:aoO<Z a.d):∃g∈pj (Z a.d) (iF a),aoO∈g:=
 aod (ano a) _ (iU (vh ..) (by simp)) aoO b rfl
def aeh(a:aj)(c:Nat):aj:=⟨a.m,a.aW,a.d,a.ah.filter λb=> !(b.aq==(c:Int))&&S (0<=b.aq)⟩
theorem ae6:aqw∈(aeh apO aoO).ah<->aqw∈apO.ah/\aqw.aq≠aoO/\0<=aqw.aq:=by
 simp[aeh]
theorem ank(c:fY aqj)(d:fY arz)(b:∀a:aw,a.aq=aqo->(a∈aqj<->a∈arz)):Agr aqo aqj arz:=by
 refine amN ((H4.1 c).filter _) ((H4.1 d).filter _) λa=>?_;rw[tF,tF];exact and_congr_left λe=>b a (by simpa using e)
theorem Agr.mem(d:Agr aqL.aq aqj arz):aqL∈aqj<->aqL∈arz:=by
 have a:∀b:List aw,aqL∈b<->aqL∈b.filter λc=>c.aq==aqL.aq:=by simp
 rw[a aqj,a arz,show aqj.filter _=arz.filter _ from d]
theorem aos:∀(d:List aw){c:List aw},fY d->alj apO d->(∀a∈c,∀e∈d,¬(a.aq=e.aq/\a.ad=e.ad))->∀a,a∈jm apO c d<->a∈c\/a∈d
 |[],c,_,_,_,a=>by simp[jm]
 |b::d,c,q,k,j,a=>by
  have n:jm apO c (b::d)=jm apO (dp apO c b) d:=rfl;have g:dp apO c b=j8 c b:=by
   rcases am0 apO c b with⟨g,-⟩|⟨-,⟨t,s,f,p,-⟩|⟨-,f⟩⟩
   ·exact absurd g (k b (by simp))
   ·exact absurd ⟨f,p⟩ (j c[t] (bs s) b (by simp))
   ·exact f
  have h:=H4.1 q;rw[zU]at h;rw[n,g,aos d (H4.2 h.2) (λo r=>k o (by simp[r])) (λa i e m l=>?_) a,H6,cf]
  ·grind
  ·rcases H6.1 i with rfl|i
   ·have f:=h.1 e m
    have:=(zj a e).2 l;omega
   ·exact j a i e (by simp[m]) l
theorem apb{a:List aw->Prop}(d:∀aqj,a aqj->a (iG apO aqZ aqj))(g:sn apO aqZ aoO aqj ar6):a aqj->∀b,ar6=T b->a b:=by
 induction g with
 |over aoO aqj d=>intro _ b c;cases c
 |stop aoO aqj d c=>intro e b f;cases f;exact e
 |next aoO aqj j i c k h=>exactλe=>h (d _ e)
theorem amH(k:∀d∈(aeh apO aoO).ah,∀c∈d.ae,c.aq≠aoO)(l:aqf≠aoO):(sd apO aqf aqq=ab<->sd (aeh apO aoO) aqf aqq=ab)/\(sd apO aqf aqq=ab->aqq≠aoO):=by
 have key:∀a:Edge,a.1.1=(aqf:Int)->(a∈kv apO<->a∈kv (aeh apO aoO)):=λa i=>by
  rw[am1,am1];constructor
  ·rintro⟨d,h,c,g,b,rfl⟩
   have i:d.aq=aqf:=i;exact⟨d,ae6.2 ⟨h,by omega,by omega⟩,c,g,b,rfl⟩
  ·rintro⟨d,h,c,g,b,rfl⟩
   exact⟨d,(ae6.1 h).1,c,g,b,rfl⟩
 refine⟨?_,λj=>?_⟩
 ·rw[amV,amV]
  exact⟨λ⟨a,b,e,f⟩=>⟨a,(key a e).1 b,e,f⟩,λ⟨a,b,e,f⟩=>⟨a,(key a e).2 b,e,f⟩⟩
 ·obtain⟨a,b,e,f⟩:=amV.1 j
  obtain⟨d,h,c,g,-,rfl⟩:=am1.1 ((key a e).1 b);have f:c.aq=aqq:=f;have:=k d h c g;intro a;rw[f,a]at this;exact this rfl
theorem amB(c:∀l∈(aeh apO aoO).ah,∀k∈l.ae,k.aq≠aoO)(b:aqf≠aoO):(iF apO aqf aqq=ab<->iF (aeh apO aoO) aqf aqq=ab)/\(iF apO aqf aqq=ab->aqq≠aoO):=by
 have h:iF apO aqf aqq=ab<->nD (sd apO) aqf aqq:=by rw[iF,OE amF]
 have i:iF (aeh apO aoO) aqf aqq=ab<->nD (sd (aeh apO aoO)) aqf aqq:=by
  rw[iF];exact OE (eT:=sd (aeh apO aoO)) amF aqf aqq
 have e:nD (sd apO) aqf aqq->nD (sd (aeh apO aoO)) aqf aqq/\aqq≠aoO:=λa=>by
  induction a with
  |gP aqf aqq a=>exact⟨.gP _ _ ((amH c b).1.1 a),(amH c b).2 a⟩
  |step aqf d aqq a _ f=>
   have:=f ((amH c b).2 a);exact⟨.step _ _ _ ((amH c b).1.1 a) (this (by rw[iF,OE amF]) (by rw[iF];exact OE (eT:=sd (aeh apO aoO)) amF d aqq)).1,(this (by rw[iF,OE amF]) (by rw[iF];exact OE (eT:=sd (aeh apO aoO)) amF d aqq)).2⟩
 have j:nD (sd (aeh apO aoO)) aqf aqq->nD (sd apO) aqf aqq:=λa=>by
  clear h i e;induction a with
  |gP aqf aqq a=>exact .gP _ _ ((amH c b).1.2 a)
  |step aqf d aqq a _ f=>exact .step _ _ _ ((amH c b).1.2 a) (f ((amH c b).2 ((amH c b).1.2 a)))
 rw[h,i];exact⟨⟨λa=>(e a).1,j⟩,λa=>(e a).2⟩
theorem aoY(b:amK apO aqj)(c:ti apO aqs)(p:ra apO (xV apO) aqj (T arz))(m:dq apO aqs aqj):∀a∈apO.ah,0<=a.aq->∀d∈tg apO arz a,alh apO arz d:=by
 intro a f q d r;have o:=(amM c p m arz rfl).1;obtain⟨t,e,j,-⟩:=(c.hG a f).head q;obtain⟨g,n,l⟩:=anG apO e;have s:=apd c (anN b.val) b.str (ann apO) p m g n (an4 b n l e (anq b.val f e j));have k:=anB c o a f (aqZ:=g.map Int.ofNat) (by simp[th,j,akR,l]) d r;rw[s]at k;exact k.trans (λi h=>(o.ok i (ali.1 h).1).af) λi h=>⟨i,(ali.1 h).1,rfl,rfl,.refl⟩
theorem apj(a:∀h∈(aeh apO aoO).ah,∀g∈h.ae,g.aq≠aoO)(c:aqf≠aoO):(List.range (Z apO.d)).filter (eY (iF apO) aqf)=(List.range (Z apO.d)).filter (eY (iF (aeh apO aoO)) aqf):=by
 refine List.filter_congr λi _=>?_;rw[hY];simp only[eY,kg,beq_iff_eq,bG];refine or_congr_right ⟨λ⟨b,e⟩=>⟨(amB a c).1.1 b,(amB a ((amB a c).2 b)).1.1 e⟩,λ⟨b,e⟩=>?_⟩;have f:=(amB a c).1.2 b;exact⟨f,(amB a ((amB a c).2 f)).1.2 e⟩
theorem an2(b:dq apO aqs aqj)(c:dq apO aqs arz):Agr (-1) aqj arz:=by
 refine ank b.fz c.fz λd g=>⟨λa=>?_,λa=>?_⟩
 ·obtain⟨e,-,f,-⟩:=(b.ok d a).fJ;omega
 ·obtain⟨e,-,f,-⟩:=(c.ok d a).fJ;omega
section
variable{p:aj}{fB:List aO}{v:Nat}{fs m:List aw}
theorem ao1(A:amK p fs)(w:ti p fB)(x:ti (aeh p v) fB)(J:∀r∈(aeh p v).ah,∀n∈r.ae,n.aq≠v)(ar:ra p (xV p) fs (T m))(X:dq p fB fs)(bi:jP m=aa)
 {done:Nat->Bool}{g:List Nat}(L:∀a∈g,a<Z p.d/\done a=aa)(aU:∀a∈g,∀q,q<Z p.d->iF (aeh p v) a q=ab->done q=ab\/q∈g)(bz:∀a∈g,∀o∈g,eY (iF (aeh p v)) a o=ab)(cg:∃i,i<Z p.d/\g=(List.range (Z p.d)).filter (eY (iF (aeh p v)) i))
 {C:List aw}(F:dq p fB C)(cn:LeI p C m)(cJ:alj p C)(a2:∀i:Nat,i<Z p.d->done i=ab->i≠v->Agr (i:Int) C m)(bm:aqw∈(aeh p v).ah)(be:th (g.map Int.ofNat) aqw=ab){r:Option (List aw)}(h:sn (aeh p v) (g.map Int.ofNat) aoO C r):
 v∉g/\∃f,r=T f/\dq p fB f/\LeI p f m/\alj p f/\∀i∈g,Agr (i:Int) f m:=by
 have s:=(amM w ar X m rfl).1;have P:∀{r},r∈(aeh p v).ah->r∈p.ah:=λh=>(ae6.1 h).1;obtain⟨H,M,e0⟩:∃H∈g,aqw.aq=(H:Int):=by
  simp only[th,bG,List.contains_iff_mem,du]at be;obtain⟨-,i,t,j⟩:=be;exact⟨i,t,j.symm⟩
 have V:=(L H M).1;have N:H≠v:=λj=>(ae6.1 bm).2.1 (by rw[e0,j]);have ax:v∉g:=λc6=>by
  have:=bz H M v c6;simp only[eY,kg,beq_iff_eq,bG]at this;rcases this with j|⟨h,-⟩
  ·exact N j
  ·exact(amB J N).2 ((amB J N).1.2 h) rfl
 have Y:g∈pj (Z p.d) (iF p):=by
  obtain⟨bw,a9,bL⟩:=anG p V;have R:=an7 (ano p) (anK _ bw a9) bL;have U:=an7 (ano (aeh p v)) cg M;rw[U,<-apj J N,<-R];exact a9
 have br:=ann p;have cK:ani p (g.map Int.ofNat):=anO w A.str (λa e=>(L a e).1) (br.xK g Y);have bg:ani (aeh p v) (g.map Int.ofNat):=λr l=>cK r (P l);have cs:amA (aeh p v):=λr l=>anN A.val r (P l);have au:dq (aeh p v) fB C:=⟨F.fz,λb c=>⟨(F.ok b c).fJ,(F.ok b c).fB,(F.ok b c).af,(F.ok b c).none⟩⟩;have cA:dq (aeh p v) fB m:=⟨s.fz,λb c=>⟨(s.ok b c).fJ,(s.ok b c).fB,(s.ok b c).af,(s.ok b c).none⟩⟩
 obtain⟨f,j,ad⟩:=anr x cs h au cA cn bi (λr l k n u E=>⟨bg r l k n u E,by
  rcases anD x L aU l k u with j|⟨q,bS,j,hd⟩
  ·rw[j];exact an2 F s
  ·rw[j]
   rcases hd with hd|hd
   ·exact a2 q bS hd λQ=>J r l n u (by rw[j,Q])
   ·exact absurd (by rw[j];exact amy.2 hd) (bg r l k n u E)⟩) λr l k b c=>aoY A w ar X r (P l) (ae6.1 l).2.2 b c
 subst j;obtain⟨G,dH,-,b9⟩:=amY x h au f rfl;have y:dq p fB f:=⟨G.fz,λb c=>⟨(G.ok b c).fJ,(G.ok b c).fB,(G.ok b c).af,(G.ok b c).none⟩⟩;have bf:alj p f:=(apb (a:=λa=>dq (aeh p v) fB a/\alj (aeh p v) a) (λa e=>⟨(Il x e.1 _).1,am4 x.aV _ (λo z=>(e.1.ok o z).af) (λo z=>((EC x e.1 _).1.ok o z).af) e.2⟩) h ⟨au,cJ⟩ f rfl).2;refine⟨ax,f,rfl,y,ad,bf,?_⟩
 have c0:∀i:Int,i∉g.map Int.ofNat->Agr i f C:=λi t=>amW h t f rfl;have b3:fY (ael (g.map Int.ofNat) f):=(y.part _).fz;have B:=aos (apO:=p) (ael (g.map Int.ofNat) f) (c:=m.filter λb=> !(g.map Int.ofNat).contains b.aq) b3 (λb c=>bf b (ali.1 c).1) (λa e o z dm=>by
  have I:=(tF.1 e).2;have a0:=(ali.1 z).2;rw[<-dm.1]at a0;simp only[jt,<-Kr,List.contains_iff_mem]at I;exact I a0)
 have O:dq p fB (jm p (m.filter λb=> !(g.map Int.ofNat).contains b.aq) (ael (g.map Int.ofNat) f)):=
  EA w.aV _ ⟨H4.2 ((H4.1 s.fz).filter _),λb c=>s.ok b (tF.1 c).1⟩ λb c=>y.ok b (ali.1 c).1
 generalize jm p (m.filter λb=> !(g.map Int.ofNat).contains b.aq) (ael (g.map Int.ofNat) f)=out at*;have B:∀a,a∈out<->(a∈m/\a.aq∉g.map Int.ofNat)\/(a∈f/\a.aq∈g.map Int.ofNat):=λa=>by
  rw[B a,tF,ali];simp only[jt,<-Kr,List.contains_iff_mem]
 have a3:∀i:Int,i∉g.map Int.ofNat->Agr i out m:=λi t=>ank O.fz s.fz λa e=>by
  rw[B a,e];simp[t]
 have ci:∀i∈g,Agr (i:Int) out f:=λi t=>ank O.fz y.fz λa e=>by
  have:a.aq∈g.map Int.ofNat:=by rw[e];exact amy.2 t
  rw[B a];simp only[this,not_true,and_false,false_or,and_true]
 have cq:LeI p out m:=λa e=>by
  rcases(B a).1 e with h|h
  ·exact⟨a,h.1,rfl,rfl,.refl⟩
  ·exact ad a h.1
 have c2:LeI p (nK p (g.map Int.ofNat) out) out:=by
  have R:nK p (g.map Int.ofNat) out=nK p (g.map Int.ofNat) f:=aom λr l k n u=>by
   have bp:r∈(aeh p v).ah:=by
    simp only[th,bG,decide_eq_true_eq,List.contains_iff_mem]at k;refine ae6.2 ⟨l,λj=>ax ?_,k.1⟩;rw[j]at k;exact amy.1 k.2
   rcases anD x L aU bp k u with j|⟨q,E,j,hd⟩
   ·rw[j];exact an2 O y
   ·rw[j]
    by_cases W:q∈g
    ·exact ci q W
    ·have a4:(q:Int)∉g.map Int.ofNat:=λh=>W (amy.1 h)
     have bH:=a2 q E (hd.resolve_right W) λQ=>J r bp n u (by rw[j,Q]);exact(a3 _ a4).trans (bH.symm.trans (c0 _ a4).symm)
  intro b c;have ce:=anU b c;rw[R]at c;have b4:alh p f b:=by
   have U:nK p (g.map Int.ofNat) f=nK (aeh p v) (g.map Int.ofNat) f:=by
    unfold nK aeh;rw[List.foldl_filter]
    congr 1
    funext a r
    unfold mb;by_cases ac:(!(r.aq==(v:Int))&&S (0<=r.aq))=ab
    ·rw[if_pos ac]<;>rfl
    ·rw[if_neg ac,if_neg]
     intro k;simp only[th,bG,decide_eq_true_eq,List.contains_iff_mem]at k;refine ac ?_;simp only[bG,jt,beq_eq_false_iff_ne,ne_eq,decide_eq_true_eq];refine⟨λj=>ax ?_,k.1⟩;rw[j]at k;exact amy.1 k.2
   rw[U]at c;have:=(anR x G).2 b c;rw[b9]at this;exact this
  rcases b4 with⟨n,u,E⟩|⟨a,dD,bu,dF,dG⟩
  ·
   have ds:alj p (nK p (g.map Int.ofNat) f):=(ans (b:=λout=>dq p fB out/\alj p out) ⟨.nil p fB,by intro b c;cases c⟩ λr l k out ak=>by
    have bb:=PQ w y l (amL k);exact⟨EA w.aV _ ak.1 bb,am4 w.aV _ (λa e=>(ak.1.ok a e).af) (λa e=>(bb a e).af) ak.2⟩).2
   exact absurd ⟨n,u,E⟩ (ds b c)
  ·exact⟨a,(B a).2 (.inr ⟨dD,by rw[bu];exact ce⟩),bu,dF,dG⟩
 have b2:=anq A.val (P bm) V e0;have co:=apg w (anN A.val) A.str bi O cq a3 c2 br ar X Y (an4 A Y M V b2);have c1:ael (g.map Int.ofNat) f=ael (g.map Int.ofNat) m:=aob w.aV (y.part _) (s.part _) (λa e=>by
  obtain⟨o,aB,K,aL,aQ⟩:=ad a (ali.1 e).1;exact⟨o,ali.2 ⟨aB,by rw[K];exact(ali.1 e).2⟩,K,aL,aQ⟩) λa e=>by
  obtain⟨o,aB,K,aL,aQ⟩:=co a (ali.1 e).1 (ali.1 e).2;have z:o.aq∈g.map Int.ofNat:=by rw[K];exact(ali.1 e).2
  exact⟨o,ali.2 ⟨(((B o).1 aB).resolve_left λh=>h.2 z).1,z⟩,K,aL,aQ⟩
 intro i t;refine ank y.fz s.fz λa e=>?_;have dl:a.aq∈g.map Int.ofNat:=by rw[e];exact amy.2 t
 have I:∀n:List aw,a∈n<->a∈ael (g.map Int.ofNat) n:=λn=>by rw[ali];simp[dl]
 rw[I f,I m,c1]
theorem ao3(N:amK p fs)(ad:ti p fB)(bp:ti (aeh p v) fB)(bm:∀o∈(aeh p v).ah,∀b3∈o.ae,b3.aq≠v)(L:ra p (xV p) fs (T m))(J:dq p fB fs)(ac:jP m=aa)(bg:alj p fs)(bz:v<Z p.d)(bH:p.d[v].fI=aa)
 {s:Option (List aw)}(br:ra (aeh p v) (xV (aeh p v)) fs s):s=T (m.filter λB=> !(B.aq==(v:Int))):=by
 obtain⟨V,bf⟩:=amM ad L J m rfl
 have key:∀{done:Nat->Bool}{t:List (List Nat)},amz (Z p.d) (iF (aeh p v)) done t->(∀g∈t,∃a,a<Z p.d/\g=(List.range (Z p.d)).filter (eY (iF (aeh p v)) a))->∀{i:List aw}{s:Option (List aw)},ra (aeh p v) (t.map (·.map Int.ofNat)) i s->dq p fB i->LeI p i m->alj p i->(∀a:Nat,a<Z p.d->done a=ab->a≠v->Agr (a:Int) i m)->(∀a:Nat,a<Z p.d->done a=aa->Agr (a:Int) i fs)->(∀h∈i,h.aq≠v)->
  ∃r,s=T r/\dq p fB r/\(∀a:Nat,a<Z p.d->a≠v->(done a=ab\/∃g∈t,a∈g)->Agr (a:Int) r m)/\∀h∈r,h.aq≠v:=by
  intro done t bw;induction bw with
  |nil done=>
   intro _ i s q z _ _ C _ E;cases q
   exact⟨i,rfl,z,λa b k n=>C a b (n.resolve_right (by simp)) k,E⟩
  |cons done g t I a0 a2 ce w b4 b2=>
   intro S i s q z K W C P E;have Q:∀{F:Nat}{o:Option (List aw)},sn (aeh p v) (g.map Int.ofNat) F i o->∃f,o=T f/\dq p fB f/\LeI p f m/\alj p f/\(∀a∈g,a≠v->Agr (a:Int) f m)/\(∀a:Int,a∉g.map Int.ofNat->Agr a f i)/\∀h∈f,h.aq≠v:=by
    intro F o c;by_cases j:∃o∈(aeh p v).ah,th (g.map Int.ofNat) o=ab
    ·obtain⟨cg,bu,be⟩:=j
     obtain⟨bL,f,e,af,ak,ar,au⟩:=ao1 N ad bp bm L J ac I a0 a2 (S g (by simp)) z K W C bu be c;refine⟨f,e,af,ak,ar,λa b _=>au a b,λa b=>amW c b f e,λh j l=>?_⟩;have bS:h.aq∉g.map Int.ofNat:=by rw[l];exactλc=>bL (amy.1 c)
     exact E h ((amW c bS f e).mem.1 j) l
    ·have bi:nK (aeh p v) (g.map Int.ofNat) i=[]:=Tx.2 λB a4=>ant (c:=λ_ _=>False) (λo q bb B _=>j ⟨o,q,bb⟩) B a4
     have Y:iG (aeh p v) (g.map Int.ofNat) i=i:=by unfold iG;rw[bi]<;>rfl
     have bv:∃f,o=T f/\f=i:=by
      cases c with
      |over _ _ c=>rw[Y,anS z.fz K ac]at c;cases c
      |stop _ _ c e=>exact⟨i,rfl,rfl⟩
      |next _ _ _ c e b4=>exact absurd Y e
     obtain⟨f,e,rfl⟩:=bv;refine⟨f,e,z,K,W,λa b k=>?_,λa _=>rfl,E⟩;have a3:=P a (I a b).1 (I a b).2;refine a3.trans (aoi L λo q l=>j ⟨o,ae6.2 ⟨q,by omega,by omega⟩,?_⟩).symm;simp[th,l,akR,b]
   rw[eJ]at q;cases q with
   |none _ _ F _ c=>
    obtain⟨f,e,-⟩:=Q c;cases e
   |cons _ _ F _ f _ c q=>
    obtain⟨ci,e,ax,aB,aL,aQ,O,aU⟩:=Q c;cases e
    have X:∀{a:Nat},a∉g->(a:Int)∉g.map Int.ofNat:=λb c=>b (amy.1 c);obtain⟨r,e,A,G,H⟩:=b2 (λM y=>S M (by simp[y])) q ax aB aL (λa b n k=>by
     by_cases x:a∈g
     ·exact aQ a x k
     ·exact(O _ (X x)).trans (C a b (((w a b).1 n).resolve_right x) k)) (λa b n=>by
     have x:a∉g:=λc=>by rw[(w a b).2 (.inr c)]at n;cases n
     refine(O _ (X x)).trans (P a b ?_);rw[<-Kr]at n⊢;exactλc=>n ((w a b).2 (.inl c))) aU
    refine⟨r,e,A,λa b k n=>G a b k ?_,H⟩;rcases n with n|⟨M,y,R⟩
    ·exact .inl ((w a b).2 (.inl n))
    ·rcases cf.1 y with rfl|y
     ·exact .inl ((w a b).2 (.inr R))
     ·exact .inr ⟨M,y,R⟩
 obtain⟨r,e,A,G,H⟩:=key (ann (aeh p v)) (λg a9=>anK _ g a9) br J bf bg (by simp) (λ_ _ _=>rfl) λh j e=>by
  have:=fi.1 N.fI h j;rw[anJ bz e,bH]at this;cases this
 rw[e]
 congr 1
 refine amN (H4.1 A.fz) ((H4.1 V.fz).filter _) λh=>?_;have U:∀{a:Nat},a<Z p.d->h.aq=a->a≠v->(h∈r<->h∈m):=λ{a} b l k=>by
  have:=G a b k (.inr (anG (aeh p v) (aoO:=a) b));rw[<-l]at this;exact this.mem
 rw[tF];constructor
 ·intro j
  obtain⟨a,b,l,-⟩:=(A.ok h j).fJ;have u:=H h j;have k:a≠v:=λc=>u (by rw[l,c]);exact⟨(U b l k).1 j,by simpa using u⟩
 ·rintro⟨j,u⟩
  obtain⟨a,b,l,-⟩:=(V.ok h j).fJ;have u:h.aq≠v:=by simpa using u
  have k:a≠v:=λc=>u (by rw[l,c]);exact(U b l k).2 j
end
section
variable{p:aj}{v:Nat}
theorem apa(a:zl p aqw):zl (aeh p v) aqw:=
 ⟨λc b=>⟨(a.lits c b).ak,(a.lits c b).cmp,(a.lits c b).aq,(a.lits c b).gN,(a.lits c b).bind⟩,a.one,a.head,a.none,a.const,a.aB,a.fn,a.kinds⟩
theorem am3:Z (aeh p v).ah<=Z p.ah:=vh ..
theorem aoh(a:ti p aqs):ti (aeh p v) aqs:=
 ⟨a.aV,a.aet,λc b=>apa (a.hG c (ae6.1 b).1),λc b=>a.safe c (ae6.1 b).1,λc b=>a.uP c (ae6.1 b).1,iU am3 a.ah,a.d,λc b=>a.q3 c (ae6.1 b).1⟩
theorem aoj(a:dW p):dW (aeh p v):=
 ⟨a.m,a.aV,a.aW,a.fn,a.d,a.q0,by have:=am3 (p:=p) (v:=v);have:=a.ah;unfold Sm at*;omega,λc b=>a.hG c (ae6.1 b).1⟩
theorem aoX(a:mK p aqs):mK (aeh p v) aqs:=
 ⟨aoh a.v,aoj a.uT,a.BC,a.zo,λc b=>a.tq c (ae6.1 b).1,λc b=>a.aeG c (ae6.1 b).1,a.bb⟩
theorem an6(a:dq p aqs aqj):dq (aeh p v) aqs aqj:=
 ⟨a.fz,λb c=>⟨(a.ok b c).fJ,(a.ok b c).fB,(a.ok b c).af,(a.ok b c).none⟩⟩
theorem apl(j:nN p):nN (aeh p v):=by
 obtain⟨c,k,l,e⟩:=j;refine⟨?_,k,λb a=>l b (ae6.1 a).1,?_⟩
 ·have:=am3 (p:=p) (v:=v)
  simp only[p8,ek,bG,decide_eq_true_eq,fi]at c⊢;exact⟨c.1,by omega,λb a=>c.2.2 b (ae6.1 a).1⟩
 ·have f:p.aW=p.aW.map (eQ p):=congrArg aj.aW e
  have g:p.d=p.d.map (en p):=congrArg aj.d e;have h:=JR (congrArg aj.ah e);have i:(aeh p v).ah.map (eH (dT p []))=(aeh p v).ah:=by
   conv=>rhs;rw[<-List.map_id (aeh p v).ah]
   exact rO λb a=>h b (ae6.1 a).1
  show aeh p v=⟨p.m,p.aW.map (eQ p),p.d.map (en p),(aeh p v).ah.map (eH (dT p []))⟩;rw[i,<-f,<-g];rfl
theorem apk(e:nA p=[]):nA (aeh p v)=[]:=by
 have g:=(SU e).2;have key:∀(a:List aG)(c:List (Int×Int)),(∀b∈a,uD b=ab)->a.foldl q4 c=c:=by
  intro a;induction a with
  |nil=>exactλ_ _=>rfl
  |cons b a i=>
   intro c d;rw[oJ,q4,if_pos (d b (by simp))];exact i c λj h=>d j (by simp[h])
 exact key _ _ λb f=>g b (ae6.1 f).1
theorem api(f:∀a∈(aeh p v).ah,∀b∈a.ae,b.aq≠v)(o:se p=[]):se (aeh p v)=[]:=by
 have w:=aoo o;have s:∀a∈(aeh p v).ah,∀b∈a.ae,kX (aeh p v) a b=false:=λa n b u=>by
  rw[<-Kr];intro e;have i:=w a (ae6.1 n).1 b u;simp only[kX,bG]at e;have t:qs p a b=true:=e.1.1;have m:a.aq.toNat≠v:=λz=>by
   have:=ae6.1 n;omega
  have x:HW p a.aq.toNat b.aq.toNat=true:=by
   have j:=e.2;simp only[HW,kg,beq_iff_eq,bG]at j⊢;refine j.imp id λ⟨q,r⟩=>?_;have k:=(amB f m).1.2 q;exact⟨k,(amB f ((amB f m).2 k)).1.2 r⟩
  rw[kX,t,e.1.2,x]at i;cases i
 have key:∀(c:List aG)(d:List (Int×Int)),(∀a∈c,∀b∈a.ae,kX (aeh p v) a b=aa)->c.foldl (qu (aeh p v)) d=d:=by
  intro c;induction c with
  |nil=>exactλ_ _=>rfl
  |cons a c y=>
   intro d l;have:a.ae.find? (kX (aeh p v) a)=none:=by
    rw[FF];exactλh g=>by rw[l a (by simp) h g];simp
   rw[oJ,qu,this];exact y d λh g=>l h (by simp[g])
 exact key _ _ s
end
theorem aox(c:0<aqf):aS .s .rem (I (aoO:Int)) (I (aqf:Int))=T (I ((aoO%aqf:Nat):Int)):=by
 have a:(aoO:Int).tmod aqf=((aoO%aqf:Nat):Int):=(Int.ofNat_tmod aoO aqf).symm;have b:(aqf:Int)≠0:=by omega
 simp only[aS,if_true,jv,if_neg b,a]
def qVN(a:List aG):AV:=if Z a=0 then .ai else .q 0 (Z a -1) 0 (Z a)
variable{aro:List aG}{arc:AV -> List Obj -> Prop}
theorem apR(c:(Z aro+1)*128<=2^47)(a:arc (qVN (aro++[aqw])) (mJ [] 9 (aP aa) (aro++[aqw]))):
 cc (cx 9 128 (qVN aro) (.sl aa [aP aa aqw]) (mJ [] 9 (aP aa) aro)) arc:=by
 have d:Z (aP aa aqw)=9:=rfl;by_cases b:Z aro=0
 ·have:aro=[]:=by grind
  simp_all[qVN,mJ,cx,hQ,AV.isNil]
 ·refine bj ?_ a
  have e:([]++[Obj.arr (Z aro -1) 9 (aro.map (aP aa))])[0]?=T (.arr (Z aro -1) 9 (aro.map (aP aa))):=by simp
  grind[qVN,mJ,cx,hQ,AV.isNil]
variable{apF:List Obj}
theorem ao6(f:(aeh apO aoO).ah=aro)(e:∀b,(mJ [] 9 (aP aa) aro)[0]?=T b->apF[0]?=T b):aI apF .cm (AV.pl (.agg [eS aa (bn aa) apO.m,eS aa (b8 aa) apO.aW,eS aa (bF aa) apO.d,qVN aro])) (.agg (cP aa ab (aeh apO aoO))):=by
 refine .agg _ _ _ (.cons _ _ _ _ _ (Im.snap (by simp)) (.cons _ _ _ _ _ (Im.snap (by simp)) (.cons _ _ _ _ _ (Im.snap (by simp)) (.cons _ _ _ _ _ ?_ (.nil _)))));have c:eS ab (aP aa) (aeh apO aoO).ah=eS ab (aP aa) aro:=by rw[f]
 rw[c];unfold qVN;by_cases a:Z aro=0
 ·rw[if_pos a]
  have:aro=[]:=by grind
  subst this;exact .ai _ _
 ·rw[if_neg a]
  refine l7 (U:=9) (e _ ?_) (by simp);simp[mJ,a]
def amu(b:Nat)(a:aG):Bool:= !(a.aq==(b:Int))&&S (0<=a.aq)
theorem aoU(b:aqf<Z aro):(aro.take (aqf+1)).filter (amu aoO)=if amu aoO aro[aqf]=ab then(aro.take aqf).filter (amu aoO)++[aro[aqf]]else(aro.take aqf).filter (amu aoO):=by
 rw[hX b,Ty];by_cases a:amu aoO aro[aqf]=ab
 ·rw[if_pos a,List.filter_cons_of_pos a]<;>rfl
 ·rw[if_neg a,List.filter_cons_of_neg a];simp
theorem ao8:(List.range (aqf+1)).filter (λa=> !(a==aoO))=if aqf=aoO then(List.range aqf).filter (λa=> !(a==aoO))else(List.range aqf).filter (λa=> !(a==aoO))++[aqf]:=by
 rw[wJ,Ty];by_cases b:aqf=aoO
 ·rw[if_pos b,List.filter_cons_of_neg (by simp[b])];simp
 ·rw[if_neg b,List.filter_cons_of_pos (by simp[b])]<;>rfl
theorem k10(R:eP C)(U:wA C)(W:x5 C)(c:aj)(p:List aw)(ax:UInt8)(O:dW c)(N:Sm p)(M:∀t∈p,eO t.ad):PR C 10 [.agg (cP aa apN c),eS aqi (cF aa) p,.int .u8 (ax.toNat:Int)] (.bool ab):=by
 refine r10.pr ?_;have au:∀n,aR 4 ab (.aK aa (cP aa apN c) 0) n=T (.agg (cP aa apN c)):=λ_=>rfl;refine aD (dD:=.aK aa (cP aa apN c) 0) rfl ?_;refine f (Jg R U W) ?_;refine eh (N:=[]) (!(amG c p&& !((Z c.d:Int)==0))) (λy r=>?_) ?_
 ·try simp only[au,Q]
  refine f (k31 c p O N M) ?_;rw[bD,Q];refine dx (λh=>?_) (λh=>kB r (by simp_all));have h:amG c p=true:=by simpa using h
  simp only[a6,aH,iy,aJ,Q,a8,c9];exact kB r (by rw[h];simp)
 simp only[G];refine c8 (λ_=>.bool _ _) (λh=>?_);simp only[bG,jt,beq_eq_false_iff_ne,ne_eq]at h;obtain⟨h,ak⟩:=h;have ak:0<Z c.d:=by omega
 have l:=aoG h;simp only[AW,Mt,Q,a6,aH,iy,aJ,a8,aox ak];have bb:ax.toNat%Z c.d<Z c.d:=Nat.mod_lt _ ak;generalize ax.toNat%Z c.d=g at*
 try simp only[au,Q]
 refine aD (dD:=cP aa apN c) rfl (aD (dD:=.ai) rfl ?_);have d1:=l.q3.ah;refine bB (z:=Nat) (λe=>[ff,I e,eS aa (bn aa) c.m,eS aa (b8 aa) c.aW,eS aa (bF aa) c.d,qVN ((c.ah.take e).filter (amu g))]) (λe=>mJ [] 9 (aP aa) ((c.ah.take e).filter (amu g))) (λe=>Z c.ah -e) (λe=>e<=Z c.ah/\∀o∈(c.ah.take e).filter (amu g),∀K∈o.ae,K.aq≠g) 0 (by simp) ?_;rintro e ⟨bS,F⟩ bi J;have bH:=vh (amu g) (c.ah.take e)
 rw[gb]at bH;simp only[i,G,a6,aH,mz,aJ,a8,A,Q,a];refine b (λh=>?_) (λh=>?_)
 ·have h:e<Z c.ah:=by simpa using h
  have u:=λbL=>J (e+1) ⟨h,bL⟩ (by omega);rw[aoU h]at u;clear J;generalize aU:(c.ah.take e).filter (amu g)=s at*;generalize aQ:mJ [] 9 (aP aa) s=bg at*;have dm:=l.q3.ae _ (bs h);rw[bo];simp only[aC h (kQ _ _),a6,aH,xh,Q,aJ,c9,A];generalize H:c.ah[e]=o at*;refine pg (N:=bg) (!amu g o) [eS aa (bn aa) c.m,eS aa (b8 aa) c.aW,eS aa (bF aa) c.d,qVN s] (λy r=>?_) ?_
  ·have V:(!amu g o)=(o.aq==(g:Int)||S (o.aq<0)):=by
    unfold amu;cases dl:o.aq==(g:Int)with
    |true=>rfl
    |false=>simp only[mR,cu,kh];rw[<-decide_not];congr 1;simp
   rw[V]at r;exact dx (λj=>xJ r (by rw[j]<;>rfl)) (λj=>xJ r (by rw[j]<;>rfl))
  simp only[G,i];refine c8 (λr=>?_) (λr=>?_)
  ·rw[if_neg (by rw[r];decide)]at u
   rw[ba,Q,aQ]at*;exact u F
  ·rw[if_pos r]at u
   refine et (U:=Z o.ae) (c:=λy=>[ff,I y,eS aa (bn aa) c.m,eS aa (b8 aa) c.aW,eS aa (bF aa) c.d,qVN s]) (λy=>∀z(L:z<Z o.ae),z<y->o.ae[z].aq≠g) (by simp) rfl (λy a0 ar bm b3=>?_) (λar bm=>?_)
   ·simp only[i,G,aC h (kQ _ _),H,a6,aH,od,a8,A,Q,a,a0,decide_true,aC a0 (h9 _ _),uf,aJ,mz,c9]
    refine a7 ?_;refine b (λ_=>.bool _ _) (λj=>?_);rw[ba,Q];refine b3 λz L dG=>?_;by_cases bp:z=y
    ·subst bp
     simpa using j
    ·exact ar z L (by omega)
   ·simp only[i,G,aC h (kQ _ _),H,a6,aH,od,a8,A,Q,a,ca,decide_false,aJ,mz,kR]
    refine bq ?_;refine aD (dD:=.sl aa [aP aa o]) rfl ?_;rw[<-aQ];refine apR (by omega) ?_;have bz:lX (qVN (s++[o]))=T (qVN (s++[o])):=by
     simp[qVN,lX,AV.bP]
    rw[bz,Q,ba,Q];refine u λc0 x=>?_;rcases c5.1 x with x|x
    ·exact F c0 x
    ·rw[lV]at x
     subst x;intro K N;obtain⟨z,L,rfl⟩:=jS.1 N;exact ar z L L
 ·have:e=Z c.ah:=by simp at h;omega
  subst this;clear J;rw[dB]at F⊢;have a4:(aeh c g).ah=c.ah.filter (amu g):=rfl;rw[<-a4]at F;have aU:=a4;generalize c.ah.filter (amu g)=s at*;have bu:∀bf,(mJ [] 9 (aP aa) s)[0]?=T bf->(mJ [] 9 (aP aa) s)[0]?=T bf:=λ_ h=>h;have b4:=ao6 aU bu;generalize mJ [] 9 (aP aa) s=n at*;simp only[a6,aH,iy,aJ,Q,aC bb (hD _ _),AP];refine b (λ_=>.bool _ _) (λcA=>?_)
  obtain⟨cK,cq,cg,V⟩:=aoR R U W (apN:=apN) (aqi:=aqi) l O M;obtain⟨cs,-,co⟩:=Cd l.q3;have E:=JV l.r9 l.val O M l.uns;have ac:=JW l.val l.form;have ds:=l.q3.facts;have X:=SW l.q3 l.val;have a3:=aoh (v:=g) E.v;have cJ:=apl (v:=g) l.val;obtain⟨P,a9,-⟩:=PT a3 (xV (aeh c g)) (an6 ac) (Io (by omega));have ci:qH (aeh c g) p=true:=by
   rw[qH,QM.2 cJ,show jk (aeh c g) p=jk c p from rfl,l.form,show(p.all (oB (aeh c g)))=p.all (oB c)from rfl,l.fI]<;>rfl
  have aL:=jr R U W (V:=true) (F:=aqi) (bp:=false) (aeh c g) p (aoj O) N M (BL P) (λj=>by rw[ci]at j;cases j) λ_=>
   ⟨iU am3 co,λo H=>cs o (ae6.1 H).1,⟨iU am3 X.1,λo H=>X.2.1 o (ae6.1 H).1,X.2.2⟩,λj=>absurd (apk l.uns) j,λ_ j=>absurd (api F l.str) j,λ_ _=>⟨_,P,aoX E,an6 ac,by omega,a9,rfl⟩⟩
  have be:bR n .cm ([.agg [eS aa (bn aa) c.m,eS aa (b8 aa) c.aW,eS aa (bF aa) c.d,qVN s],eS aqi (cF aa) p].map AV.pl) [.agg (cP aa ab (aeh c g)),eS aqi (cF aa) p]:=.cons _ _ _ _ _ b4 (.cons _ _ _ _ _ (Im.snap (by simp)) (.nil _))
  try simp only[au,Q]
  refine f V ?_;cases cK with
  |none=>
   refine aD (dD:=eS aa (cF aa) ([]:List aw)) rfl (aD (dD:=I 2) rfl ?_);refine ea _ aL be (aof _) ?_;have x:∃(K:List aw)(j:Int),BL P=.aE [eS aa (cF aa) K,I j]:=by cases P<;>exact⟨_,_,rfl⟩
   obtain⟨K,j,x⟩:=x;rw[x];refine aD (dD:=eS aa (cF aa) K) rfl (aD (dD:=I j) rfl ?_);simp only[cd,Q];refine a7 ?_;refine pg (N:=n) ab [eS aa (bn aa) c.m,eS aa (b8 aa) c.aW,eS aa (bF aa) c.d,qVN s] (λy r=>?_) (.bool _ _);refine aZ (λ_=>?_) (λh=>by cases h);simp only[c9,Q];exact xJ r (by decide)
  |some B=>
   obtain⟨af,a2⟩:=cg B rfl;obtain⟨b2,-⟩:=an9 l.val l.form;have b9:=ao3 l E.v a3 F cq ac a2 b2.nb bb cA a9;subst b9;have d2:=af.small E.v a2;refine aD (dD:=eS aa (cF aa) B) rfl (aD (dD:=I 0) rfl ?_);refine ea _ aL be (aof _) ?_;refine aD (dD:=eS aa (cF aa) (B.filter λt=> !(t.aq==(g:Int)))) rfl (aD (dD:=I 0) rfl ?_);simp only[cd,Q];refine bq ?_;refine bj rfl ?_;have bw:=λe=>ao8 (aoO:=g) (aqf:=e)
   have d0:=E.v.d;refine bB (z:=Nat) (λe=>[.q (Z n) (Z ((List.range e).filter λk=> !(k==g))) 0 (Z ((List.range e).filter λk=> !(k==g))),I e,eS aa (bn aa) c.m,eS aa (b8 aa) c.aW,eS aa (bF aa) c.d,qVN s]) (λe=>aY (n++[.arr 0 1 []]) (Z n) 1 cN (Z ((List.range e).filter λk=> !(k==g))) ((List.range e).filter λk=> !(k==g))) (λe=>Z c.d -e) (λe=>e<=Z c.d) 0 (by simp) ?_ (by simp) (by simp[aY])
   intro e bS bi J;have dD:Z ((List.range e).filter λk=> !(k==g))<=e:=by simpa using vh (λk=> !(k==g)) (List.range e)
   simp only[i,G,a6,aH,iy,aJ,a8,A,Q,a];refine b (λh=>?_) (λh=>?_)
   ·have h:e<Z c.d:=by simpa using h
    have u:=J (e+1) h (by omega);rw[bw e]at u;rw[bo];simp only[cd,Q];refine b (λj=>?_) (λj=>?_)
    ·have j:¬e=g:=λh=>by rw[h]at j;simp at j
     rw[if_neg j]at u;refine aD (dD:=.sl aa [cN e]) rfl ?_;refine xq (a2:=cN) (by simp) rfl (by omega) ?_;simp only[G,i];rw[ba,Q];rw[fb,gz]at u⊢;exact u
    ·have j:e=g:=by
      refine yl λdH=>?_;have:((e:Int) !=(g:Int))=true:=by rw[bne_iff_ne];omega
      rw[this]at j;cases j
     rw[if_pos j]at u;simp only[G,i];rw[ba,Q];exact u
   ·have:e=Z c.d:=by simp at h;omega
    subst this;clear J;generalize br:(List.range (Z c.d)).filter (λk=> !(k==g))=w at*;have ce:(aY (n++[.arr 0 1 []]) (Z n) 1 cN (Z w) w)[Z n]?=T (.arr (Z w) 1 (w.map cN)):=oo (by simp);generalize aY (n++[.arr 0 1 []]) (Z n) 1 cN (Z w) w=aB at*;have g3:aI aB .cm (AV.q (Z n) (Z w) 0 (Z w)) (eS ab cI (w.map Int.ofNat)):=by
     rw[<-QN];exact l7 ce (by simp)
    have cn:ael (w.map Int.ofNat) B=B.filter λt=> !(t.aq==(g:Int)):=by
     unfold ael;refine List.filter_congr λt Y=>?_;obtain⟨k,bv,j,-⟩:=(af.ok t Y).fJ;rw[j,<-br,hY,List.contains_iff_mem,amy,tF];simp only[la,bv,true_and,jt,beq_eq_false_iff_ne,ne_eq];omega
    refine pg (N:=aB) ab [eS aa (bn aa) c.m,eS aa (b8 aa) c.aW,eS aa (bF aa) c.d,qVN s] (λy r=>?_) (.bool _ _);refine aZ (λ_=>?_) (λh=>by cases h);simp only[c9,Q];refine aZ (λ_=>?_) (λh=>by simp at h);refine ea _ (k32 (apN:=false) (aqi:=true) B (w.map Int.ofNat) (by omega) (by rw[kd];omega)) (.cons _ _ _ _ _ (Im.snap (by simp)) (.cons _ _ _ _ _ g3 (.nil _))) (aoe _) ?_
    have dF:=vh (λt:aw=> !(t.aq==(g:Int))) B;rw[cn];refine f (Bb _ _ (by unfold Sm;omega) (λt Y=>(dq.re E af.ok t (tF.1 Y).1).1)) ?_;exact xJ r (by simp)
open Go.Proofs.YtmkbfepnleajhaaGreatDoor Go.Deep
variable{ar7:Program}{aqF:World}{aqO:Nat -> Bool}
theorem ao7{f:TypeId×Value->aqg}(j:ar7.underlying aoO=T (.int .u8)):Rd aqg f ar7 aqF aqO aoO 1 cU (λ_=>True):=by
 refine⟨(by simp[cU]),λc l m p a _=>?_⟩;cases c with
 |zero=>simp[DataW.trod]at a
 |succ c=>
  unfold DataW.trod at a;simp only[j]at a;split at a<;>rename_i d<;>first|(cases a;done)|(cases d;done)|skip
  cases d
  rename_i o b;split at a
  ·rename_i i
   obtain⟨rfl,k⟩:=i;have n:0<=b/\b<256:=by
    have g:IntKind.u8.min=0:=by decide
    have h:IntKind.u8.max=255:=by decide
    simp only[Lit.wf,bG,decide_eq_true_eq,g,h]at k;omega
   have e:((UInt8.ofNat b.toNat).toNat:Int)=b:=by
    rw[UInt8.toNat_ofNat_of_lt' (by show b.toNat<256;omega)];omega
   refine⟨UInt8.ofNat b.toNat,?_,trivial⟩;unfold cU;rw[e];exact .cons _ _ _ _ (.int _ _) .nil
  ·cases a
section
variable{H:Type}{enc:TypeId×Value->H}{w:World}{sp:Nat->Bool}
theorem rt5:jA H enc w sp 5 1 cU (λ_=>True):=ao7 (by kernel_rfl)
end
theorem aoJ(c:aj)(a:List aw)(d:UInt8)(i:dW c)(h:Sm a)(g:∀e∈a,eO e.ad):∃b,jz a1 G0 10 [.agg (cP aa apN c),eS aqi (cF aa) a,.int .u8 (d.toNat:Int)] [] (.bool ab) b:=by
 obtain⟨k,b,f,j⟩:=k10 aju ajx ajw (apN:=apN) (aqi:=aqi) c a d i h g;cases j
 exact⟨b,f⟩
open Go.ChangeShapes Go.WideShapes Go.ChangeAt Go.RowKit
theorem ajV:∃a,a1.underlying 27=T (.struct a):=by
 simp
theorem Tk:a1.underlying 4=T .bool:=by kernel_rfl
variable{aqI:Value}
theorem ajW{W:World}{base:Nat}(b:Value.okWide a1 W .any base 27 aqI):∃a,aqI=.agg a:=by
 grind[ajV,Value.okWide]
theorem ajX{W:World}{base:Nat}(a:Value.okWide a1 W .any base 28 aqI):bU aqI.cells=[aqI]:=by
 unfold Value.okWide at a;rw[sE]at a;simp only[Cell.okWide,sE,Cell.ok]at a;cases aqI<;>first|rfl|grind
theorem ao0{W:World}{base:Nat}(a:Value.okWide a1 W .any base 5 aqI):bU aqI.cells=[aqI]:=by
 have b:a1.underlying 5=T (.int .u8):=by kernel_rfl
 unfold Value.okWide at a;rw[b]at a;simp only[Cell.okWide,b,Cell.ok]at a;cases aqI<;>first|rfl|grind
theorem ajY(b:Type)(c:TypeId×Value->b)(W:World)(base:Nat)(args:Array Value)(i gs:List (DataW b))(C:List MemPlace)
 (g:∀(A:Nat) h a,Tryz.f10.params[A]?=T h->args[A]?=T a->Value.okWide a1 W .any base h a)
 (k:DataW.Whole c a1 (bU Tryz.f10.params) Rows.snapshotPartsSpec.vars aa W (bU args) i gs C)(Z:Rows.uptoSmall b (i++gs)=ab)(L:laidMetH a1 Rows.snapshotPartsUptoRow.laid W):
 Calls a1 10 args W λj q=>∃a,j=.returned a/\Rows.snapshotPartsSpec.post c a1 Tryz.f10 aa ab aa aa W args a q:=by
 have v:=k;have ac:=k.lt;obtain⟨aB,br,u,Q,rfl,bf,bg⟩:=k;have t:DataW.TrodAll c a1 W 0 (λ_=>ab) ab (bU Tryz.f10.params) (bU args) i aB:=u;rw[Tryz.params10]at t g;obtain⟨v0,v1,v2,E,F,G,aL,aQ,aU,rfl,rfl,rfl,I,J,K⟩:=trodAll_three t;obtain⟨rfl,rfl⟩:=trodVars_none Q;have S:Rows.uptoBulkAll [E,F,G]<=1048576:=by
  have:=of_decide_eq_true Z;simpa using this
 simp only[Rows.uptoBulkAll]at S;obtain⟨s,rfl⟩:=ajW (g 0 27 v0 rfl rfl);have U:=ajX (g 1 28 v1 rfl rfl);have V:=ao0 (g 2 5 v2 rfl rfl);obtain⟨ar,a0⟩:=I;obtain⟨au,a2⟩:=J;obtain⟨ax,a3⟩:=K;obtain⟨o,z,af⟩:=(ab1 (H:=b) (enc:=c) (w:=W) (sp:=λ_=>ab) (λ_=>rfl) aa aa).2 ar _ _ _ a0 (by omega);obtain⟨p,e,ad,ah⟩:=(ab3 (H:=b) (enc:=c) (w:=W) (sp:=λ_=>ab) (λ_=>rfl) aa aa).2 au _ _ _ a2 (by omega)
 obtain⟨r,w,-⟩:=(rt5 (H:=b) (enc:=c) (w:=W) (sp:=λ_=>ab)).2 ax _ _ _ a3 (by omega);rw[U]at e;rw[V]at w;have N:R (E0 W) (.agg (cP aa aa o)) (.agg s):=by
  have Y:∀a∈cP aa aa o,a.bP=true:=by simp[cP,AV.bP,eS]
  refine .agg _ _ z ?_;have one:∀{vs:List AV}{f:List Value},RL (E0 W) vs f->(∀a∈vs,a.bP=ab)->∀n∈f,n.oneCell'=true:=by
   intro vs f d;induction vs generalizing f with
   |nil=>intro _ n ak;cases d;simp at ak
   |cons a vs bi=>
    cases d with
    |cons _ n _ f aq y=>
     intro l p e;rcases cf.1 e with rfl|e
     ·exact aq.Ab (l _ (by simp))
     grind
  exact one z Y
 have O:R (E0 W) (eS aa (cF aa) p) v1:=by
  cases e with
  |cons _ _ _ _ d _=>exact d
 have P:R (E0 W) (.int .u8 (r.toNat:Int)) v2:=by
  cases w with
  |cons _ _ _ _ d _=>exact d
 obtain⟨a9,-,X⟩:=aoJ (apN:=false) (aqi:=false) o p r af (Sm.of ad) ah;have l:=X (E0 W) [.agg s,v1,v2] (abE W) (λ_=>rfl) rfl (.cons _ _ _ _ N (.cons _ _ _ _ O (.cons _ _ _ _ P .nil))) (ajU (show laidMetH a1 g2.laid W from L));refine l.mono λj q x=>?_;cases j with
 |returned a=>
  obtain⟨a4,rfl,H,-,-,M⟩:=x;obtain rfl:a=.bool true:=by cases M;rfl
  simp only[rP]at v ac;refine⟨_,rfl,ajC (i:=aL++aQ++aU) (j:=[]) v (λ_ _ _=>trodAll_cons_mk (shut_bool Tk _) trodAll_mk0) (λm ae=>?_) (λ_ _=>rfl) (by simp) (ajz H _) (by grind[ajB]) (ok_one (by kernel_rfl) rfl (okWide_bool_mk Tk _))⟩;exact Th ajE ajF (λh y=>by rw[Tryz.params10]at y;revert h;decide) u (by grind[ajA]) ae
 |_=>exact x.elim
end AM
end Go
