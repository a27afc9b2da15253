/- The law SnapshotFixedUptoCardSaid: part 8 of 9 of the proof. No condition. -/
import Derived.Test.YtmkbfepnleajhaaGreatDoorXg
set_option maxRecDepth 100000
open List renaming length->Z,mem_or_eq_of_mem_set->ak6,set_eq_take_append_cons_drop->alc
open Option renaming some->T,none->D
open Bool renaming true->ab,false->aa,not_eq_true->Kr
open Decidable renaming decide->S
open Array renaming toList->bU
open Go.Proofs.Tryz renaming prog->a1
open Go.Proofs.YtmkbfepnleajhaaGreatDoor.Rows renaming snapshotModelMatchesReferenceUptoRow->g2
open Int renaming ofNat_inj->akR
namespace Go
namespace AM
def LeEl(c:aj)(b d e:Int):Prop:=∀a,e8 c b=T a->dK a d.toNat e.toNat=ab
variable{alj:aj}{amD anq:Int}
theorem LeEl.refl:LeEl alj amD anq anq:=λa _=>ad9 a _
def AtF(b:aj)(gs:List aw)(a:aw):Prop:=∃g∈gs,g.aq=a.aq/\g.ad=a.ad/\LeEl b a.aq a.af g.af
def BotF(c:aj)(a:aw):Prop:=∃b,e8 c a.aq=T b/\a.af=fy b []
def CovF(b:aj)(gs:List aw)(a:aw):Prop:=BotF b a\/AtF b gs a
def LeI(c:aj)(b gs:List aw):Prop:=∀a∈b,AtF c gs a
variable{amy:List aw}
theorem LeI.refl:LeI alj amy amy:=λa b=>⟨a,b,rfl,rfl,.refl⟩
theorem LeEl.trans{c d:Int}(h:∀a,e8 alj amD=T a->eF a c=ab)(e:LeEl alj amD anq c)(f:LeEl alj amD c d):LeEl alj amD anq d:=λa b=>by
 obtain⟨i,rfl,g⟩:=qo (h a b);exact aea g (e a b) (f a b)
variable{ann:aw}
theorem AtF.trans{gs:List aw}(i:∀g∈gs,qx alj g)(d:AtF alj gs ann)(e:LeI alj gs amy):AtF alj amy ann:=by
 obtain⟨g,b,a,f,h⟩:=d;obtain⟨k,w1,m,n,c⟩:=e g b;refine⟨k,w1,m.trans a,n.trans f,h.trans (λl j=>i g b l (by rw[a];exact j)) ?_⟩;rw[a]at c;exact c
variable{aoL:List aw}
theorem LeI.trans{gs:List aw}(e:∀g∈gs,qx alj g)(b:LeI alj amy gs)(c:LeI alj gs aoL):LeI alj amy aoL:=λa d=>(b a d).trans e c
variable{anI:bM}
theorem lub0_le(a:eu anI=0)(h:eF anI amD=ab)(c:dK anI amD.toNat (fy anI []).toNat=ab):amD=fy anI []:=by
 obtain⟨i,e,f,g⟩:=aed a;obtain⟨d,rfl,b⟩:=qo h;rw[e]at c⊢;have:=Pj a b f c (g d b);rw[this]
theorem BotF.down(h:uM alj){g:aw}(f:qx alj ann)(i:g.aq=ann.aq)(c:LeEl alj ann.aq ann.af g.af)(e:BotF alj g):BotF alj ann:=by
 obtain⟨b,a,d⟩:=e;rw[i]at a;refine⟨b,a,lub0_le (h b (Bz a)) (f b a) ?_⟩;rw[<-d];exact c b a
theorem CovF.down(c:uM alj){g:aw}(h:qx alj ann)(i:qx alj g)(a:g.aq=ann.aq)(f:g.ad=ann.ad)(d:LeEl alj ann.aq ann.af g.af)(b:CovF alj amy g):CovF alj amy ann:=by
 rcases b with b|⟨j,w1,l,m,e⟩
 ·exact .inl (b.down c h a d)
 ·refine .inr ⟨j,w1,l.trans a,m.trans f,d.trans (λk c=>i k (by rw[a];exact c)) ?_⟩
  rw[a]at e;exact e
theorem CovF.trans{gs:List aw}(c:∀g∈gs,qx alj g)(a:CovF alj gs ann)(b:LeI alj gs amy):CovF alj amy ann:=
 a.imp id λa=>a.trans c b
theorem lub2_le(f:eu anI=0)(t:eF anI amD=ab)(a:eF anI anq=ab):
 eF anI (fy anI [amD,anq])=ab/\dK anI amD.toNat (fy anI [amD,anq]).toNat=ab/\dK anI anq.toNat (fy anI [amD,anq]).toNat=ab/\
 ∀b,eF anI b=ab->dK anI amD.toNat b.toNat=ab->dK anI anq.toNat b.toNat=ab->dK anI (fy anI [amD,anq]).toNat b.toNat=true:=by
 obtain⟨k,rfl,h⟩:=qo t;obtain⟨l,rfl,i⟩:=qo a;obtain⟨j,g,o,p,q⟩:=aec f h i;rw[g];refine⟨Et o,p,q,λb u r s=>?_⟩;obtain⟨w,rfl,v⟩:=qo u;have a:0<=qm (Z anI.au) (dK anI) λc=>S ((c:Int)∈[(k:Int),(l:Int)]):=by
  have d:=Ph f h i;unfold lK at d;simp only[Kw,decide_eq_false_iff_not,Int.not_lt]at d;exact d.2
 obtain⟨c,m,-,-,n⟩:=Pk a;have e:(j:Int)=c:=by
  rw[<-g,<-m];simp_all[fy,Et]
 have e:j=c:=by omega
 subst e;refine n w v λanq _ a=>?_;have a:anq=k\/anq=l:=by simp at a;omega
 rcases a with rfl|rfl
 ·exact r
 ·exact s
theorem addFact_cases(f:aj)(b:List aw)(a:aw):
 (BotF f a/\dp f b a=b)\/(¬BotF f a/\(
  (∃c,∃d:c<Z b,b[c].aq=a.aq/\b[c].ad=a.ad/\(e8 f a.aq=D/\dp f b a=b\/∃g,e8 f a.aq=T g/\dp f b a=b.set c ⟨b[c].aq,b[c].ad,fy g [b[c].af,a.af]⟩))\/
  ((∀e∈b,¬(e.aq=a.aq/\e.ad=a.ad))/\dp f b a=j8 b a))):=by
 have n:∀e:aw,gW a.aq a.ad e=ab<->e.aq=a.aq/\e.ad=a.ad:=by simp[gW]
 have o:b.findIdx? (gW a.aq a.ad)=D->∀e∈b,¬(e.aq=a.aq/\e.ad=a.ad):=λd e t s=>by
  rw[wK]at d;have:=d e t;rw[(n e).2 s]at this;cases this
 have p:∀c,b.findIdx? (gW a.aq a.ad)=T c->∃d:c<Z b,b[c].aq=a.aq/\b[c].ad=a.ad:=λc d=>by
  obtain⟨h,j,-⟩:=nW.1 d;exact⟨h,(n _).1 j⟩
 unfold dp;cases m:e8 f a.aq with
 |none=>
  have i:¬BotF f a:=by rintro⟨g,d,-⟩;rw[m]at d;cases d
  refine .inr ⟨i,?_⟩;cases k:b.findIdx? (gW a.aq a.ad)with
  |none=>exact .inr ⟨o k,by simp⟩
  |some c=>
   obtain⟨h,j,l⟩:=p c k;exact .inl ⟨c,h,j,l,.inl ⟨rfl,by simp⟩⟩
 |some g=>
  by_cases i:a.af=fy g []
  ·exact .inl ⟨⟨g,m,i⟩,by simp[i]⟩
  ·have r:¬BotF f a:=by
    rintro⟨u,d,q⟩;rw[m]at d;cases d;exact i q
   refine .inr ⟨r,?_⟩;simp only[i,if_false];cases k:b.findIdx? (gW a.aq a.ad)with
   |none=>exact .inr ⟨o k,rfl⟩
   |some c=>
    obtain⟨h,j,l⟩:=p c k;exact .inl ⟨c,h,j,l,.inr ⟨g,rfl,by simp only[bC h]⟩⟩
theorem addFact_up(g:uM alj)(s:∀h∈amy,qx alj h)(r:qx alj ann):LeI alj amy (dp alj amy ann)/\CovF alj (dp alj amy ann) ann:=by
 rcases addFact_cases alj amy ann with⟨n,a⟩|⟨n,⟨k,f,a,e,⟨b,i⟩|⟨d,b,i⟩⟩|⟨a,e⟩⟩
 ·rw[a];exact⟨.refl,.inl n⟩
 ·rw[i]
  refine⟨.refl,.inr ⟨amy[k],bs f,a,e,λd g=>?_⟩⟩;rw[b]at g;cases g
 ·rw[i]
  have q:eF d amy[k].af=true:=s _ (bs f) d (by rw[a];exact b);obtain⟨v,o,p,-⟩:=lub2_le (g d (Bz b)) q (r d b);refine⟨λh j=>?_,.inr ⟨_,List.mem_set f _,a,e,λu c=>?_⟩⟩
  ·obtain⟨l,t,rfl⟩:=jS.1 j
   by_cases m:k=l
   ·subst m
    refine⟨_,List.mem_set f _,rfl,rfl,λu c=>?_⟩;rw[a,b]at c;cases c;exact o
   ·refine⟨amy[l],?_,rfl,rfl,.refl⟩
    refine jS.2 ⟨l,by simpa using t,?_⟩;rw[List.getElem_set_ne m]
  ·rw[b]at c;cases c
   exact p
 ·rw[e]
  exact⟨λh j=>⟨h,H6.2 (.inr j),rfl,rfl,.refl⟩,.inr ⟨ann,H6.2 (.inl rfl),rfl,rfl,.refl⟩⟩
theorem addFact_leastQ(E:uM alj){i:Int->Prop}{gs:List aw}(z:fY gs)(B:∀a∈amy,qx alj a)(C:∀a∈gs,qx alj a)(A:qx alj ann)(h:∀a∈amy,i a.aq->AtF alj gs a)(q:i ann.aq->CovF alj gs ann):∀a∈dp alj amy ann,i a.aq->AtF alj gs a:=by
 rcases addFact_cases alj amy ann with⟨m,b⟩|⟨m,⟨k,r,b,n,⟨c,o⟩|⟨f,c,o⟩⟩|⟨b,n⟩⟩
 ·rw[b];exact h
 ·rw[o];exact h
 ·rw[o]
  intro a e d;rcases ak6 e with e|rfl
  ·exact h a e d
  ·have d:i amy[k].aq:=d
   obtain⟨g,w,p,x,y⟩:=(q (b▸d)).resolve_left m;obtain⟨l,w1,s,t,G⟩:=h amy[k] (bs r) d;have u:l=g:=Pr z l w1 g w (by rw[s,p,b]) (by rw[t,x,n]);subst u;refine⟨l,w1,s,t,λF j=>?_⟩;have j:e8 alj amy[k].aq=T F:=j;rw[b,c]at j;cases j;have v:eF f amy[k].af=true:=B _ (bs r) f (by rw[b];exact c);exact(lub2_le (E f (Bz c)) v (A f c)).2.2.2 _ (C l w1 f (by rw[p];exact c)) (G f (by rw[b];exact c)) (y f c)
 ·rw[n]
  intro a e d;rcases H6.1 e with rfl|e
  ·exact(q d).resolve_left m
  ·exact h a e d
theorem unionF_up(h:uM alj):∀(a:List aw){c:List aw},(∀d∈c,qx alj d)->(∀d∈a,qx alj d)->LeI alj c (jm alj c a)/\∀e∈a,CovF alj (jm alj c a) e
 |[],c,_,_=>⟨.refl,by simp⟩
 |b::a,c,i,g=>by
  have f:=(Eu h i (g b (by simp))).2;obtain⟨l,m⟩:=addFact_up h i (g b (by simp));obtain⟨j,n⟩:=unionF_up h a f λd o=>g d (by simp[o]);have k:jm alj c (b::a)=jm alj (dp alj c b) a:=rfl;rw[k];refine⟨l.trans f j,λe hf=>?_⟩;rcases cf.1 hf with rfl|hf
  ·exact m.trans f j
  ·exact n e hf
theorem unionF_leastQ(i:uM alj){g:Int->Prop}{gs:List aw}(k:fY gs)(l:∀a∈gs,qx alj a):∀(c:List aw){d:List aw},(∀a∈d,qx alj a)->(∀a∈c,qx alj a)->(∀a∈d,g a.aq->AtF alj gs a)->(∀e∈c,g e.aq->CovF alj gs e)->∀a∈jm alj d c,g a.aq->AtF alj gs a
 |[],d,_,_,f,_=>f
 |b::c,d,f,h,m,j=>unionF_leastQ i k l c (Eu i f (h b (by simp))).2 (λa o=>h a (by simp[o]))
  (addFact_leastQ i k f l (h b (by simp)) m (j b (by simp))) λe n=>j e (by simp[n])
theorem unionF_least(l:uM alj){gs:List aw}(h:fY gs)(k:∀a∈gs,qx alj a)(b:List aw)(e:∀a∈amy,qx alj a)(i:∀a∈b,qx alj a)(f:LeI alj amy gs)(g:∀c∈b,CovF alj gs c):LeI alj (jm alj amy b) gs:=
 λa d=>unionF_leastQ (g:=λ_=>True) l h k b e i (λa d _=>f a d) (λc j _=>g c j) a d trivial
def SimE(f:aj)(e:Int)(a b:aX):Prop:=b.ax=a.ax/\b.bl=a.bl/\b.m=a.m/\∃c:List (Int×Int),a.au=c.map Prod.fst/\b.au=c.map Prod.snd/\∀d∈c,LeEl f e d.1 d.2
variable{amN anT:aX}
theorem getE_sim(b:anT.ax=amN.ax)(c:anT.bl=amN.bl)(a:aM):bW anT a=bW amN a:=by
 unfold bW;rw[b,c]
theorem tupE_sim(b:anT.ax=amN.ax)(c:anT.bl=amN.bl)(a:List aM):eG anT a=eG amN a:=by
 unfold eG;simp only[getE_sim b c]
theorem putV_sim(c:SimE alj amD amN anT)(a:aM)(b:aO):SimE alj amD (fT amN a b) (fT anT a b):=by
 obtain⟨d,e,f,g⟩:=c;exact⟨by simp[fT,d],by simp[fT,e],by simp[fT,f],g⟩
theorem withE_sim{i:aj}{h:Int}:∀(c:List aM)(vs:List aO){e d f:aX},SimE i h e d->hU e c vs=T f->∃j,hU d c vs=T j/\SimE i h f j
 |[],vs,e,d,f,b,a=>by
  simp only[hU,eK]at a⊢;subst a;exact⟨d,rfl,b⟩
 |t::c,[],e,d,f,b,a=>by simp[hU]at a
 |t::c,l::vs,e,d,f,b,a=>by
  rw[hU]at a;rw[hU,getE_sim b.1 b.2.1];split at a
  ·rename_i g
   rw[if_pos g];split at a
   ·rename_i k
    rw[if_pos k];exact withE_sim c vs b a
   ·cases a
  ·rename_i g
   rw[if_neg g];exact withE_sim c vs (putV_sim b t l) a
theorem bindE_sim(c:SimE alj amD amN anT)(a:Lit){b:Int}(k:a.bind≠[]->LeEl alj amD anq b):SimE alj amD (jq amN a anq) (jq anT a b):=by
 unfold jq;split
 ·exact c
 ·rename_i j
  obtain⟨d,e,f,n,g,h,i⟩:=c;refine⟨d,e,by simp[f],n++[(anq,b)],by simp[g],by simp[h],?_⟩;simp only[c5,lV];rintro m (l|rfl)
  ·exact i m l
  ·exact k j
theorem eqE_sim(a:SimE alj amD amN anT)(b:Lit):SimE alj amD (g7 amN b) (g7 anT b):=by
 unfold g7;split
 ·rename_i c d _
  simp only[getE_sim a.1 a.2.1];split
  ·split
   ·exact putV_sim a _ _
   ·split
    ·exact putV_sim a _ _
    ·exact a
  ·exact a
 ·exact a
def Agr(b:Int)(c gs:List aw):Prop:=c.filter (λa=>a.aq==b)=gs.filter (λa=>a.aq==b)
theorem Agr.find{gs:List aw}(c:Agr amD amy gs)(args:List aO):amy.find? (gW amD args)=gs.find? (gW amD args):=by
 have key:∀b:List aw,b.find? (gW amD args)=(b.filter λa=>a.aq==amD).find? (gW amD args):=by
  intro b;rw[List.find?_filter]
  congr 1
  funext a
  unfold gW;cases a.aq==amD<;>simp
 rw[key amy,key gs,c]
theorem leqP_mono{h e:Int}(a:sg alj amD anq h=ab)(n:∀c,e8 alj amD=T c->eF c e=ab)(k:LeEl alj amD h e)(l:e8 alj amD≠D):sg alj amD anq e=true:=by
 obtain⟨c,b⟩:=Option.ne_none_iff_exists'.1 l;have i:=k c b;have j:=n c b;unfold sg at a⊢;unfold e8 at b;cases g:alj.d[amD.toNat]? with
 |none=>rw[g]at a;cases a
 |some o=>
  rw[g]at a b;simp only at a b⊢;by_cases f:o.of<0
  ·rw[if_pos f]at b;cases b
  ·rw[if_neg f]at b
   rw[b]at a⊢;simp only[ox,bG,beq_iff_eq]at a⊢;obtain⟨p,rfl,m⟩:=qo a.1.2;exact⟨⟨⟨a.1.1.1,a.1.1.2⟩,j⟩,aea m a.2 i⟩
variable{amM:aG}{ano:Lit}
theorem ext_mono(q:PJ alj amM ano){gs:List aw}(v:∀g∈gs,qx alj g)(w:LeI alj amy gs)(p:pc ano=ab->Agr ano.aq amy gs){r:aX}(e:SimE alj amM.aq amN anT)(b:r∈e5 alj amy amN ano):
 ∃G∈e5 alj gs anT ano,SimE alj amM.aq r G:=by
 unfold e5 at b⊢;by_cases c:(ano.ak==1||ano.ak==3)=ab
 ·rw[if_pos c]at b⊢
  obtain⟨s,f,b⟩:=yj.1 b;obtain⟨f,a⟩:=tF.1 f;obtain⟨g,m,n,t,o⟩:=w s f;unfold nJ at b;obtain⟨H,y,rfl⟩:=dg.1 b;obtain⟨E,z,d⟩:=withE_sim _ _ e y;unfold j9 at a;simp only[bG,beq_iff_eq,kg,bne_iff_ne,ne_eq]at a;refine⟨jq E ano g.af,yj.2 ⟨g,tF.2 ⟨m,?_⟩,?_⟩,bindE_sim d ano λu=>?_⟩
  ·unfold j9
   simp only[bG,beq_iff_eq,kg,bne_iff_ne,ne_eq];refine⟨n.trans a.1,?_⟩;by_cases k:ano.ak=3
   ·obtain⟨A,x,-⟩:=q.gN (.inl k)
    refine .inr (leqP_mono (a.2.resolve_left λe=>e k) (λi h=>v g m i (by rw[n,a.1];exact h)) ?_ (by rw[x];simp));rw[<-a.1];exact o
   ·exact .inl k
  ·unfold nJ
   rw[t,z]<;>rfl
  ·obtain⟨-,-,A,B,C⟩:=q.bind u
   intro i h;refine o i ?_;rw[a.1,B,<-C,h]
 ·rw[if_neg c]at b⊢
  split at b
  ·rename_i a
   have d:=eqE_sim e ano;simp only[lV]at b;subst b;refine⟨g7 anT ano,?_,d⟩;rw[if_pos]
   ·simp
   ·simp only[kg,beq_iff_eq,not_or]at c
    unfold pe at a⊢;rw[tupE_sim d.1 d.2.1];rw[if_neg c.1]at a⊢;by_cases j:ano.ak=2
    ·rw[if_pos j]at a⊢
     rw[<-(p (by simp[pc,j])).find];exact a
    ·rw[if_neg j]at a⊢
     by_cases l:(ano.ak==3||ano.ak==4)=ab
     ·rw[if_pos l]at a⊢
      have F:ano.ak=4:=by simpa[c.2]using l
      unfold tb at a⊢;rw[<-(p (by simp[pc,F])).find];exact a
     ·rw[if_neg l]at a⊢
      exact a
  ·cases b
theorem dfs_mono{c:aj}{q:aG}{l gs:List aw}(m:∀g∈gs,qx c g)(n:LeI c l gs){d:List Lit}(p:∀b∈d,PJ c q b)(o:∀b∈d,pc b=ab->Agr b.aq l gs):
 ∀(e:List Nat){h f k:aX},SimE c q.aq h f->k∈kY c l d e h->∃r∈kY c gs d e f,SimE c q.aq k r
 |[],h,f,k,j,a=>by
  simp only[kY,lV]at a⊢;subst a;exact⟨f,rfl,j⟩
 |i::e,h,f,k,j,a=>by
  rw[kY]at a⊢;split at a
  ·rename_i b t
   have s:b∈d:=sG t;obtain⟨A,w,a⟩:=TJ.1 a;obtain⟨z,x,u⟩:=ext_mono (p b s) m n (o b s) j w;obtain⟨r,y,v⟩:=dfs_mono m n p o e u a;exact⟨r,TJ.2 ⟨z,x,y⟩,v⟩
  ·exact dfs_mono m n p o e j a
def MonP(b:aj):Prop:=∀a∈b.ah,0<=a.aq->a.af.ak=3->∀d,e8 b a.aq=T d->∀c,b.aW[a.af.aQ.toNat]?=T c->pb d c.gM=ab
theorem latE_sim(b:SimE alj amD amN anT)(a:k):LeEl alj amD (jO amN a) (jO anT a):=by
 obtain⟨-,-,c,j,d,e,f⟩:=b;unfold jO;rw[c,d,e];split
 ·rename_i h _
  simp only[oM,zS];cases g:j[h]? with
  |none=>exact .refl
  |some i=>exact f i (sG g)
 ·exact .refl
theorem head_mono(m:MonP alj)(n:amM∈alj.ah)(o:zl alj amM)(g:0<=amM.aq)(b:SimE alj amM.aq amN anT)(k:amM.af.ak=3->∀a,e8 alj amM.aq=T a->eF a (jO amN amM.af.aB)=ab/\eF a (jO anT amM.af.aB)=ab):
 (iR alj amM anT).aq=(iR alj amM amN).aq/\(iR alj amM anT).ad=(iR alj amM amN).ad/\LeEl alj (iR alj amM amN).aq (iR alj amM amN).af (iR alj amM anT).af:=by
 refine⟨rfl,tupE_sim b.1 b.2.1 _,?_⟩;show LeEl alj amM.aq (nI alj amM amN) (nI alj amM anT);unfold nI;split
 ·exact .refl
 ·split
  ·exact latE_sim b _
  ·split
   ·rename_i c
    intro a d;obtain⟨e,x,f,y,u,v,w⟩:=o.fn g c;have i:=m amM n g c a d alj.aW[e] (by rw[f];simp);obtain⟨p,q⟩:=k c a d;have h:=latE_sim b amM.af.aB a d;obtain⟨r,j,s⟩:=qo p;obtain⟨t,v1,v2⟩:=qo q;have l:alj.aW[amM.af.aQ.toNat]?=T alj.aW[e]:=by rw[f];simp
    rw[l,j,v1];rw[j,v1]at h;simp only[pb,bG,fi,la,kg,jt]at i;exact(i.2 r s t v2).resolve_left (by simpa using h)
   ·exact .refl
variable{amI:List aO}
theorem heads_mono(d:ti alj amI)(y:MonP alj){gs:List aw}(p:dq alj amI amy)(i:dq alj amI gs)(x:LeI alj amy gs)(b:amM∈alj.ah)(v:0<=amM.aq)(z:∀r∈amM.ae,pc r=ab->Agr r.aq amy gs):
 ∀a∈tg alj amy amM,∃g∈tg alj gs amM,g.aq=a.aq/\g.ad=a.ad/\LeEl alj a.aq a.af g.af:=by
 intro a w;obtain⟨o,h,rfl⟩:=du.1 w;have e:=d.hG amM b;have j:=d.safe amM b;have v1:=Ii e j (p.meet d b) (λa c=>(p.ok a c).af) o h;simp only[uD,bG]at j;obtain⟨C,q⟩:=rM.1 j.1.1;rw[PI q]at h;obtain⟨f,k,B⟩:=dfs_mono (c:=alj) (q:=amM) (λg c=>(i.ok g c).af) x e.lits z C (h:=e0) (f:=e0) ⟨rfl,rfl,rfl,[],rfl,rfl,by simp⟩ h;rw[<-PI q]at k;have v2:=Ii e (d.safe amM b) (i.meet d b) (λa c=>(i.ok a c).af) f k
 refine⟨iR alj amM f,du.2 ⟨f,k,rfl⟩,head_mono y b e v B λs E A=>?_⟩;obtain⟨F,l,t⟩:=v1.au _ (Ez v1.zm (v1.m (.inr s)));obtain⟨G,n,u⟩:=v2.au _ (Ez v2.zm (v2.m (.inr s)));rw[A]at l n;cases l;cases n
 exact⟨t,u⟩
variable{anG:List Int}
theorem stepR_least(e:ti alj amI){gs:List aw}(f:dq alj amI amy)(g:dq alj amI gs):∀(c:List aG)(_:∀r∈c,r∈alj.ah){out:List aw},dq alj amI out->LeI alj out gs->
 (∀r∈c,th anG r=ab->∀m∈tg alj amy r,CovF alj gs m)->LeI alj (c.foldl (mb alj anG amy) out) gs
 |[],_,out,_,d,_=>d
 |r::c,j,out,k,d,i=>by
  have l:=j r (by simp);rw[oJ];refine stepR_least e f g c (λb a=>j b (by simp[a])) (EB e f anG [r] (by simpa using l) k).1 ?_ λb a=>i b (by simp[a]);unfold mb;split
  ·rename_i h
   have n:0<=r.aq:=by
    simp only[th,bG,decide_eq_true_eq]at h;exact h.1
   exact unionF_least e.aV g.fz (λb a=>(g.ok b a).af) _ (λb a=>(k.ok b a).af) (λb a=>(PQ e f l n b a).af) d (i r (by simp) h)
  ·exact d
theorem stepR_up(f:ti alj amI)(g:dq alj amI amy):∀(e:List aG)(_:∀r∈e,r∈alj.ah){out:List aw},dq alj amI out->
 LeI alj out (e.foldl (mb alj anG amy) out)/\∀r∈e,th anG r=ab->∀d∈tg alj amy r,CovF alj (e.foldl (mb alj anG amy) out) d
 |[],_,out,_=>⟨.refl,by simp⟩
 |r::e,l,out,m=>by
  have o:=l r (by simp);have n:dq alj amI (mb alj anG amy out r):=(EB f g anG [r] (by simpa using o) m).1;obtain⟨h,s⟩:=stepR_up f g e (λb a=>l b (by simp[a])) n;rw[oJ];have j:∀b∈mb alj anG amy out r,qx alj b:=λb a=>(n.ok b a).af;have i:LeI alj out (mb alj anG amy out r)/\(th anG r=ab->∀d∈tg alj amy r,CovF alj (mb alj anG amy out r) d):=by
   unfold mb;split
   ·rename_i c
    have q:0<=r.aq:=by
     simp only[th,bG,decide_eq_true_eq]at c;exact c.1
    have:=unionF_up f.aV (tg alj amy r) (λb a=>(m.ok b a).af) (λb a=>(PQ f g o q b a).af);exact⟨this.1,λ_=>this.2⟩
   ·rename_i c
    exact⟨.refl,λp=>absurd p c⟩
  refine⟨i.1.trans j h,λb a c d k=>?_⟩;rcases cf.1 a with rfl|a
  ·exact(i.2 c d k).trans j h
  ·exact s b a c d k
theorem step_least(f:ti alj amI){gs:List aw}(b:dq alj amI amy)(e:dq alj amI gs)(a:∀d∈alj.ah,th anG d=ab->∀c∈tg alj amy d,CovF alj gs c):LeI alj (nK alj anG amy) gs:=
 stepR_least f b e alj.ah (λ_ a=>a) (.nil alj amI) (by intro c b;cases b) a
theorem step_up(e:ti alj amI)(d:dq alj amI amy):∀a∈alj.ah,th anG a=ab->∀b∈tg alj amy a,CovF alj (nK alj anG amy) b:=
 (stepR_up e d alj.ah (λ_ c=>c) (.nil alj amI)).2
theorem inC_pos(a:th anG amM=ab):0<=amM.aq:=by
 simp only[th,bG,decide_eq_true_eq]at a;exact a.1
theorem step_mono(a:ti alj amI)(q:MonP alj){gs:List aw}(f:dq alj amI amy)(d:dq alj amI gs)(p:LeI alj amy gs)(r:∀c∈alj.ah,th anG c=ab->∀l∈c.ae,pc l=ab->Agr l.aq amy gs):LeI alj (nK alj anG amy) (nK alj anG gs):=by
 have s:=(EC a d anG).1;refine step_least a f s λc b h i k=>?_;have e:=inC_pos h;obtain⟨g,j,m,n,o⟩:=heads_mono a q f d p b e (r c b h) i k;exact(step_up a d c b h g j).down a.aV (PQ a f b e i k).af (PQ a d b e g j).af m n o
def NoBot(c:aj)(b:List aw):Prop:=∀a∈b,¬BotF c a
theorem addFact_nb(m:uM alj)(l:∀g∈amy,qx alj g)(r:qx alj ann)(b:NoBot alj amy):NoBot alj (dp alj amy ann):=by
 rcases addFact_cases alj amy ann with⟨j,c⟩|⟨j,⟨e,i,c,k,⟨d,h⟩|⟨f,d,h⟩⟩|⟨c,k⟩⟩
 ·rw[c];exact b
 ·rw[h];exact b
 ·rw[h]
  intro g a;rcases ak6 a with a|rfl
  ·exact b g a
  ·have p:eF f amy[e].af=true:=l _ (bs i) f (by rw[c];exact d)
   obtain⟨-,o,-,-⟩:=lub2_le (m f (Bz d)) p (r f d);intro q;refine b amy[e] (bs i) (BotF.down (g:=⟨amy[e].aq,amy[e].ad,fy f [amy[e].af,ann.af]⟩) m (l _ (bs i)) rfl (λs n=>?_) q);rw[c,d]at n;cases n;exact o
 ·rw[k]
  intro g a;rcases H6.1 a with rfl|a
  ·exact j
  ·exact b g a
theorem unionF_nb(g:uM alj):∀(c:List aw){d:List aw},(∀a∈d,qx alj a)->(∀a∈c,qx alj a)->NoBot alj d->NoBot alj (jm alj d c)
 |[],_,_,_,e=>e
 |b::c,d,e,f,h=>unionF_nb g c (Eu g e (f b (by simp))).2 (λa i=>f a (by simp[i])) (addFact_nb g e (f b (by simp)) h)
theorem unionF_agr{d:aj}:∀(f:List aw){a:List aw},(∀c∈f,c.aq≠amD)->Agr amD (jm d a f) a
 |[],_,_=>rfl
 |b::f,a,k=>by
  have o:=unionF_agr (d:=d) f (a:=dp d a b) λc q=>k c (by simp[q]);have m:=k b (by simp);refine o.trans ?_;rcases addFact_cases d a b with⟨-,i⟩|⟨-,⟨e,n,i,l,⟨p,j⟩|⟨r,p,j⟩⟩|⟨-,l⟩⟩
  ·rw[i]
  ·rw[j]
  ·rw[j]
   have g:¬(a[e].aq==amD)=true:=by rw[i];simpa using m
   have h:a.filter (λc=>c.aq==amD)=(a.take e).filter (λc=>c.aq==amD)++(a.drop (e+1)).filter (λc=>c.aq==amD):=by
    conv=>lhs;rw[<-vg e a,mQ n,Ty,List.filter_cons_of_neg (p:=λc:aw=>c.aq==amD) g]
   rw[h,alc,if_pos n,Ty,List.filter_cons_of_neg (p:=λc:aw=>c.aq==amD) (a:=⟨a[e].aq,a[e].ad,fy r [a[e].af,b.af]⟩) g]
  ·rw[l]
   have g:¬(b.aq==amD)=true:=by simpa using m
   have h:a.filter (λc=>c.aq==amD)=(a.take (kA a b (Z a))).filter (λc=>c.aq==amD)++(a.drop (kA a b (Z a))).filter (λc=>c.aq==amD):=by
    conv=>lhs;rw[<-vg (kA a b (Z a)) a,Ty]
   unfold j8;rw[h,Ty,List.filter_cons_of_neg (p:=λc:aw=>c.aq==amD) g]
theorem step_pred:∀a∈nK alj anG amy,a.aq∈anG:=by
 have key:∀(f:List aG){out:List aw},(∀a∈out,a.aq∈anG)->∀a∈f.foldl (mb alj anG amy) out,a.aq∈anG:=by
  intro f;induction f with
  |nil=>intro out b;exact b
  |cons j f e=>
   intro out b;rw[oJ];refine e ?_;unfold mb;split
   ·rename_i i
    have m:j.aq∈anG:=by
     simp only[th,bG,List.contains_iff_mem]at i;exact i.2
    have h:∀a∈tg alj amy j,a.aq∈anG:=λa c=>by
     obtain⟨k,-,rfl⟩:=du.1 c;exact m
    generalize tg alj amy j=d at h;clear e i;induction d generalizing out with
    |nil=>exact b
    |cons g d e=>
     have k:jm alj out (g::d)=jm alj (dp alj out g) d:=rfl;rw[k];refine e ?_ λa c=>h a (by simp[c]);exactλa c=>Pf (M:=alj) (b:=λl _=>l∈anG) b (h g (by simp)) a c
   ·exact b
 exact key alj.ah (by simp)
def NegA(e:aj)(b:List Int)(d gs:List aw):Prop:=∀c∈e.ah,th b c=ab->∀a∈c.ae,pc a=ab->a.aq∉b/\Agr a.aq d gs
theorem next_agr(c:amD∉anG):Agr amD (iG alj anG amy) amy:=
 unionF_agr _ λb d a=>c (a▸step_pred b d)
theorem NegA.next{gs:List aw}(a:NegA alj anG amy gs):NegA alj anG (iG alj anG amy) gs:=λg e c f d b=>
 ⟨(a g e c f d b).1,(next_agr (a g e c f d b).1).trans (a g e c f d b).2⟩
variable{aeh:Nat}{ao0:Option (List aw)}
theorem runC_end(g:ti alj amI)(a:sn alj anG aeh amy ao0)(e:dq alj amI amy):∀gs,ao0=T gs->dq alj amI gs/\LeI alj amy gs/\jP gs=aa/\iG alj anG gs=gs:=by
 induction a with
 |over aeh amy a=>intro gs b;cases b
 |stop aeh amy a b=>
  intro gs f;cases f
  exact⟨e,.refl,by rw[b]at a;exact a,b⟩
 |next aeh amy ao0 a b o n=>
  intro gs f;have h:=(Il g e anG).1;obtain⟨i,j,k⟩:=n h gs f;have m:=(EC g e anG).1;have l:=(unionF_up g.aV (nK alj anG amy) (λd c=>(e.ok d c).af) λd c=>(m.ok d c).af).1;exact⟨i,l.trans (λd c=>(h.ok d c).af) j,k⟩
theorem runM_ok(i:ti alj amI):∀{g:List (List Int)}{b:List aw}{e:Option (List aw)},ra alj g b e->dq alj amI b->∀gs,e=T gs->dq alj amI gs/\LeI alj b gs
 |[],b,e,a,f=>by cases a;intro gs d;cases d;exact⟨f,.refl⟩
 |c::g,b,e,a,f=>by
  intro gs d;cases a with
  |none _ _ o _ a=>cases d
  |cons _ _ o _ j _ a p=>
   obtain⟨h,k,-,-⟩:=runC_end i a f j rfl;obtain⟨l,m⟩:=runM_ok i p h gs d;exact⟨l,k.trans (λq n=>(h.ok q n).af) m⟩
theorem fn_mono(g:nN alj):∀b∈alj.aW,∃d,alj.m[b.of.toNat]?=T d/\0<=b.of/\pb d b.gM=true:=by
 intro b h;have f:=JR (congrArg aj.aW g.2.2.2) b h;obtain⟨c,i,rfl⟩:=jS.1 h;have a:=g.2.1;simp only[po,bG,fi,la]at a;have a:=a.1.2 c i;rw[oz,bC i]at a;simp only[bG]at a;obtain⟨a,-⟩:=a;split at a
 ·rename_i d j
  simp only[bG,decide_eq_true_eq]at a;have e:alj.aW[c].of=dz alj alj.aW[c].aV:=(congrArg Fn.of f).symm;have k:alj.aW[c].gM=fe d alj.aW[c]:=by
   refine(congrArg Fn.gM f).symm.trans ?_;simp only[eQ,j,if_pos a]
  refine⟨d,by rw[e];exact j,by rw[e];exact a.1,?_⟩;rw[k];have:=a.2;simp only[e9,bG]at this;exact this.2
 ·cases a
theorem mon_of(e:nN alj):MonP alj:=by
 intro a q H o I g F n;have B:alj.aW=alj.aW.map (eQ alj):=congrArg aj.aW e.2.2.2;have C:alj.d=alj.d.map (en alj):=congrArg aj.d e.2.2.2;have v:=congrArg aj.ah e.2.2.2;have y:dT alj []=⟨alj.m,alj.aW,alj.d,[]⟩:=by
  show(⟨alj.m,alj.aW.map (eQ alj),alj.d.map (en alj),[]⟩:aj)=_;grind
 have j:=JR v a q;obtain⟨l,-,-⟩:=e.2.2.1 a q;rw[y]at j l;have E:a.aq=kE ⟨alj.m,alj.aW,alj.d,[]⟩ a:=(congrArg aG.aq j).symm;have w:a.af.aQ=oA ⟨alj.m,alj.aW,alj.d,[]⟩ a:=(congrArg (λb:aG=>b.af.aQ) j).symm;have p:a.ar≠[]:=by grind[kE]
 obtain⟨f,k,A,-,-,-,-,r⟩:=IM l p;obtain⟨b,h,s,i⟩:=r o;have k:f<Z alj.d:=k;have h:b<Z alj.aW:=h;have t:a.af.aQ=b:=by rw[w,oA,if_neg p,if_neg (by omega),if_pos o,s]
 have u:a.aq=f:=by grind[kE]
 rw[t,ej,bC h]at n;cases n
 obtain⟨z,c,G,x⟩:=fn_mono e alj.aW[b] (bs h);rw[u,yf,JT k]at g;split at g
 ·cases g
 ·have i:alj.aW[b].of=alj.d[f].of:=i
  rw[i]at c;have c:alj.m[alj.d[f].of.toNat]?=T z:=c;rw[g]at c;cases c
  exact x
theorem LeI.fB{gs:List aw}(e:LeI alj amy gs):∀a∈amy,∀b∈a.ad,b∈pa alj gs:=λa f b h=>by
 obtain⟨g,c,-,d,-⟩:=e a f;exact aiV c (d▸h)
open Go.Law
theorem ext_agr{gs:List aw}(c:Agr ano.aq amy gs):e5 alj amy amN ano=e5 alj gs amN ano:=by
 have d:∀b:List aw,b.filter (j9 alj ano)=(b.filter λa=>a.aq==ano.aq).filter (j9 alj ano):=by
  intro b;rw[List.filter_filter]
  congr 1
  funext a
  unfold j9;cases a.aq==ano.aq<;>simp
 have e:amy.filter (j9 alj ano)=gs.filter (j9 alj ano):=by
  rw[d amy,d gs];exact congrArg (List.filter (j9 alj ano)) c
 have f:∀amN,pe alj amy amN ano=pe alj gs amN ano:=λamN=>by
  unfold pe tb;simp only[c.find]
 unfold e5;rw[e,f]
theorem envs_agr{gs:List aw}(c:∀a∈amM.ae,Agr a.aq amy gs):fA alj amy amM=fA alj gs amM:=by
 have b:kC alj amy amM.ae=kC alj gs amM.ae:=by
  funext e f
  unfold kC;split
  ·rename_i a d
   congr 1
   funext b
   exact ext_agr (c a (sG d))
  ·rfl
 unfold fA;rw[b]
theorem step_agr{gs:List aw}(c:∀a∈alj.ah,th anG a=ab->∀i∈a.ae,Agr i.aq amy gs):nK alj anG amy=nK alj anG gs:=by
 have key:∀(b:List aG)(_:∀a∈b,a∈alj.ah)(out:List aw),b.foldl (mb alj anG amy) out=b.foldl (mb alj anG gs) out:=by
  intro b;induction b with
  |nil=>intro _ out;rfl
  |cons a b h=>
   intro d out;have e:mb alj anG amy out a=mb alj anG gs out a:=by
    unfold mb;split
    ·rename_i f
     unfold tg;rw[envs_agr (c a (d a (by simp)) f)]
    ·rfl
   rw[oJ,oJ,e];exact h (λj g=>d j (by simp[g])) _
 exact key alj.ah (λ_ c=>c) []
theorem asc_ext:∀{d e:List aw},d.Pairwise (λi j=>db i j<0)->e.Pairwise (λi j=>db i j<0)->(∀x,x∈d<->x∈e)->d=e
 |[],[],_,_,_=>rfl
 |[],f::e,_,_,b=>by have:=(b f).2 (by simp);cases this
 |x::d,[],_,_,b=>by have:=(b x).1 (by simp);cases this
 |x::d,f::e,g,h,b=>by
  rw[zU]at g h;have k:∀a:aw,¬db a a<0:=λa c=>by
   have:=(zj a a).2 ⟨rfl,rfl⟩;omega
  have l:x=f:=by
   rcases cf.1 ((b x).1 (by simp))with h1|h1
   ·exact h1
   ·rcases cf.1 ((b f).2 (by simp))with h2|h2
    ·exact h2.symm
    ·exact absurd (zk _ _ _ (g.1 f h2) (h.1 x h1)) (k x)
  subst l
  congr 1
  refine asc_ext g.2 h.2 λa=>⟨λc=>?_,λc=>?_⟩
  ·rcases cf.1 ((b a).1 (by simp[c]))with rfl|h1
   ·exact absurd (g.1 a c) (k a)
   ·exact h1
  ·rcases cf.1 ((b a).2 (by simp[c]))with rfl|h1
   ·exact absurd (h.1 a c) (k a)
   ·exact h1
theorem le_mem(v:uM alj){gs:List aw}(i:dq alj amI amy)(m:dq alj amI gs)(t:LeI alj amy gs)(u:LeI alj gs amy):∀c∈amy,c∈gs:=by
 intro c h;obtain⟨g,e,f,r,s⟩:=t c h;obtain⟨a,w1,w,x,y⟩:=u g e;have j:a=c:=Pr i.fz a w1 c h (w.trans f) (x.trans r);subst j;have j:g.af=a.af:=by
  cases b:e8 alj a.aq with
  |none=>rw[(i.ok a h).none b,(m.ok g e).none (by rw[f];exact b)]
  |some d=>
   obtain⟨z,n,o⟩:=qo ((i.ok a h).af d b);obtain⟨A,p,q⟩:=qo ((m.ok g e).af d (by rw[f];exact b));have k:=s d b;have l:=y d (by rw[f];exact b);rw[n,p]at k l⊢;rw[Pj (v d (Bz b)) q o l k]
 have:g=a:=by
  cases g;cases a
  simp_all
 exact this▸e
theorem le_anti(e:uM alj){gs:List aw}(a:dq alj amI amy)(b:dq alj amI gs)(c:LeI alj amy gs)(d:LeI alj gs amy):amy=gs:=
 asc_ext (H4.1 a.fz) (H4.1 b.fz) λf=>⟨le_mem e a b c d f,le_mem e b a d c f⟩
def partF(a:List Int)(c:List aw):List aw:=c.filter λb=>a.contains b.aq
theorem mem_part:ann∈partF anG amy<->ann∈amy/\ann.aq∈anG:=by
 simp[partF]
theorem dq.part(a:dq alj amI amy)(b:List Int):dq alj amI (partF b amy):=
 ⟨H4.2 ((H4.1 a.fz).filter _),λc d=>a.ok c (mem_part.1 d).1⟩
def NegC(d:aj)(a:List Int):Prop:=∀c∈d.ah,th a c=ab->∀b∈c.ae,pc b=ab->b.aq∉a
theorem Agr.symm{gs:List aw}(a:Agr amD amy gs):Agr amD gs amy:=Eq.symm a
theorem next_up(d:ti alj amI)(c:dq alj amI amy):LeI alj amy (iG alj anG amy)/\∀e∈nK alj anG amy,CovF alj (iG alj anG amy) e:=
 unionF_up d.aV (nK alj anG amy) (λb a=>(c.ok b a).af) λb a=>((EC d c anG).1.ok b a).af
theorem runC_part(e:ti alj amI)(F:MonP alj)(w:NegC alj anG)(h:sn alj anG aeh amy ao0)(d:dq alj amI amy)(u:∀a∈amy,a.aq∈anG->AtF alj (nK alj anG amy) a):
 ∀gs,ao0=T gs->partF anG gs=nK alj anG gs:=by
 induction h with
 |over aeh amy h=>intro gs m;cases m
 |stop aeh amy h m=>
  intro gs A;cases A
  have q:=(EC e d anG).1;refine le_anti e.aV (d.part anG) q (λa f=>u a (mem_part.1 f).1 (mem_part.1 f).2) λa f=>?_;have j:=(next_up e (anG:=anG) d).2 a f;rw[m]at j;have H:NoBot alj (nK alj anG amy):=by
   have key:∀(l:List aG)(_:∀ao0∈l,ao0∈alj.ah){out:List aw},dq alj amI out->NoBot alj out->NoBot alj (l.foldl (mb alj anG amy) out):=by
    intro l;induction l with
    |nil=>intro _ out _ h;exact h
    |cons ao0 l s=>
     intro v out x p;rw[oJ];have i:=v ao0 (by simp);refine s (λc b=>v c (by simp[b])) (EB e d anG [ao0] (by simpa using i) x).1 ?_;unfold mb;split
     ·rename_i k
      exact unionF_nb e.aV _ (λc b=>(x.ok c b).af) (λc b=>(PQ e d i (inC_pos k) c b).af) p
     ·exact p
   exact key alj.ah (λ_ h=>h) (.nil alj amI) (by intro a d;cases d)
  obtain⟨g,B,t,C,E⟩:=j.resolve_left (H a f);exact⟨g,mem_part.2 ⟨B,by rw[t];exact step_pred a f⟩,t,C,E⟩
 |next aeh amy ao0 h m J s=>
  have j:=(Il e d anG).1;have p:NegA alj anG amy (iG alj anG amy):=λao0 i k r o n=>⟨w ao0 i k r o n,(next_agr (w ao0 i k r o n)).symm⟩;have q:=step_mono e F d j (next_up e d).1 (anG:=anG) λao0 i k r o n=>(p ao0 i k r o n).2;have y:=(EC e d anG).1;have z:=(EC e j anG).1
  refine s j (unionF_leastQ (g:=(· ∈anG)) e.aV z.fz (λc b=>(z.ok c b).af) _ (λc b=>(d.ok c b).af) (λc b=>(y.ok c b).af) (λa f G=>?_) λa f _=>.inr (q a f));exact(u a f G).trans (λc b=>(y.ok c b).af) q
inductive Topo(n:Nat)(D:cO):(Nat->Bool)->List (List Nat)->Prop
 |nil (done:Nat->Bool):Topo n D done []
 |cons (done:Nat->Bool) (g:List Nat) (L:List (List Nat)) (h1:∀x∈g,x<n/\done x=aa) (h2:∀x∈g,∀b,b<n->D x b=ab->done b=ab\/b∈g) (h3:∀x∈g,∀y∈g,eY D x y=ab)
  (done':Nat->Bool) (h4:∀b,b<n->(done' b=ab<->done b=ab\/b∈g)) (t:Topo n D done' L):Topo n D done (g::L)
variable{anL:cO}{alm:Nat}
theorem tog_symm(a:eY anL aeh alm=ab):eY anL alm aeh=true:=by
 simp only[eY,kg,beq_iff_eq,bG]at a⊢;grind
variable{amG:Nat}
theorem tog_trans(c:∀aeh alm amG,anL aeh alm=ab->anL alm amG=ab->anL aeh amG=ab)(a:eY anL aeh alm=ab)(b:eY anL alm amG=ab):eY anL aeh amG=true:=by
 simp only[eY,kg,beq_iff_eq,bG]at a b⊢;grind
theorem comps_topo(i:∀b a r,anL b a=ab->anL a r=ab->anL b r=ab):∀(k:Nat){done:Nat->Bool},(∀b a,b<aeh->a<aeh->eY anL b a=ab->done b=ab->done a=ab)->Topo aeh anL done (nL aeh anL k done)
 |0,done,_=>.nil _
 |k+1,done,s=>by
  rw[nL];split
  ·exact .nil _
  ·rename_i b v
   obtain⟨g,l,-⟩:=FD.1 v;have l:b<aeh:=by simpa using l
   simp only[ph,bG,jt,fi,la,kg]at g;have f:∀c,c∈(List.range aeh).filter (eY anL b)<->c<aeh/\eY anL b c=true:=by simp
   refine .cons _ _ _ (λc d=>?_) (λc d a j t=>?_) (λc d q p=>?_) (λa=>done a||eY anL b a) (λa j=>?_) (comps_topo i k λc q d p u hd=>?_)
   ·obtain⟨m,e⟩:=(f c).1 d
    refine⟨m,?_⟩;rw[<-Kr];intro hd;rw[s c b m l (tog_symm e) hd]at g;exact absurd g.1 (by simp)
   ·obtain⟨m,e⟩:=(f c).1 d
    have n:anL b a=ab\/eY anL b a=true:=by
     simp only[eY,kg,beq_iff_eq,bG]at e;rcases e with rfl|e
     ·exact .inl t
     ·exact .inl (i _ _ _ e.1 t)
    by_cases o:eY anL b a=ab
    ·exact .inr ((f a).2 ⟨j,o⟩)
    ·have n:=n.resolve_right o
     rcases g.2 a j with(h|h)|h
     ·rw[n]at h;cases h
     ·exact .inl h
     ·exact absurd h o
   ·exact tog_trans i (tog_symm ((f c).1 d).2) ((f q).1 p).2
   ·simp[j]
   ·simp only[kg]at hd⊢
    rcases hd with hd|hd
    ·exact .inl (s c q d p u hd)
    ·exact .inr (tog_trans i hd u)
theorem dep_trans(c:aj):∀a b e,iF c a b=ab->iF c b e=ab->iF c a e=true:=by
 have j:∀a b,sd c a b=ab->a<Z c.d/\b<Z c.d:=λa b f=>by
  simp only[sd,qn,kh,List.any_map,FE,Function.comp,bG,beq_iff_eq]at f;obtain⟨i,k,g,h⟩:=f;have:=Bv i k;omega
 intro a b e g h;rw[iF,OE j]at*;exact g.trans h
theorem comps_topoP(a:aj):Topo (Z a.d) (iF a) (λ_=>aa) (pj (Z a.d) (iF a)):=
 comps_topo (dep_trans a) _ (by simp)
variable{anZ:List (List Nat)}
theorem Topo.later{done:Nat->Bool}(b:Topo aeh anL done anZ):∀g∈anZ,∀a∈g,a<aeh/\done a=false:=by
 induction b with
 |nil=>simp
 |cons done g anZ h m n l i o j=>
  intro k c a f;rcases cf.1 c with rfl|c
  ·exact h a f
  ·obtain⟨d,e⟩:=j k c a f
   refine⟨d,?_⟩;rw[<-Kr]at e⊢;exactλb=>e ((i a d).2 (.inl b))
theorem runC_agr(a:sn alj anG aeh amy ao0)(d:amD∉anG):∀gs,ao0=T gs->Agr amD gs amy:=by
 induction a with
 |over aeh amy a=>intro gs b;cases b
 |stop aeh amy a b=>intro gs c;cases c;rfl
 |next aeh amy ao0 a b f e=>exactλgs c=>(e gs c).trans (next_agr d)
theorem runM_agr:∀{g:List (List Int)}{e:List aw}{f:Option (List aw)},ra alj g e f->∀{b:Int},(∀c∈g,b∉c)->∀gs,f=T gs->Agr b gs e
 |[],e,f,a,b,_=>by cases a;intro gs d;cases d;rfl
 |c::g,e,f,a,b,h=>by
  intro gs d;cases a with
  |none _ _ k _ a=>cases d
  |cons _ _ k _ i _ a l=>exact(runM_agr l (λc j=>h c (by simp[j])) gs d).trans (runC_agr a (h c (by simp)) i rfl)
theorem strata_nil(a:se alj=[]):∀c∈alj.ah,∀b∈c.ae,kX alj c b=false:=by
 have key:∀(d:List aG){e:List (Int×Int)},d.foldl (qu alj) e=[]->e=[]/\∀c∈d,∀b∈c.ae,kX alj c b=false:=by
  intro d;induction d with
  |nil=>intro e a;exact⟨a,by simp⟩
  |cons c d k=>
   intro e a;rw[oJ]at a;obtain⟨f,j⟩:=k a;unfold qu at f;split at f
   ·simp at f
   ·rename_i i
    rw[FF]at i;refine⟨f,λl g b h=>?_⟩;rcases cf.1 g with rfl|g
    ·simpa using i b h
    ·exact j l g b h
 exact(key alj.ah a).2
theorem edge_dep(v:amM∈alj.ah)(u:ano∈amM.ae)(l:amM.aq=aeh)(m:ano.aq=alm)(q:aeh<Z alj.d)(r:alm<Z alj.d)(t:ano.ak≠5):iF alj aeh alm=true:=by
 have e:qs alj amM ano=true:=by simp[qs,ep,l,m,q,r,t]
 have s:((amM.aq,ano.aq),pc ano)∈kv alj:=by
  have n:∀(c:List Lit)(b:List Edge),(∀a∈b,a∈c.foldl (jD alj amM) b)/\(ano∈c->((amM.aq,ano.aq),pc ano)∈c.foldl (jD alj amM) b):=by
   intro c;induction c with
   |nil=>simp
   |cons i c f=>
    intro b;rw[oJ];have k:∀a∈b,a∈jD alj amM b i:=by intro a e;unfold jD;split<;>simp[e]
    refine⟨λa e=>(f _).1 a (k a e),λh=>?_⟩;rcases cf.1 h with rfl|h
    ·exact(f _).1 _ (by simp[jD,e])
    ·exact(f _).2 h
  have o:∀(c:List aG)(b:List Edge),(∀a∈b,a∈c.foldl (pd alj) b)/\(amM∈c->((amM.aq,ano.aq),pc ano)∈c.foldl (pd alj) b):=by
   intro c;induction c with
   |nil=>simp
   |cons i c f=>
    intro b;rw[oJ];have k:∀a∈b,a∈pd alj b i:=by
     intro a e;unfold pd;have:∀(g:List Lit)(j:List Edge),a∈j->a∈g.foldl (jD alj i) j:=by
      intro g;induction g with
      |nil=>exactλ_ h=>h
      |cons w g f=>
       intro j p;rw[oJ];refine f _ ?_;unfold jD;split<;>simp[p]
     exact this _ _ e
    refine⟨λa e=>(f _).1 a (k a e),λh=>?_⟩;rcases cf.1 h with rfl|h
    ·exact(f _).1 _ ((n _ _).2 u)
    ·exact(f _).2 h
  exact(o alj.ah []).2 v
 rw[iF,D7];refine .gP _ _ ?_;simp only[sd,qn,kh,List.any_map,FE,Function.comp,bG,beq_iff_eq];exact⟨_,s,l,m⟩
def Fresh(d:aj)(a:List Int)(c:List aw):Prop:=∀b∈c,b.aq∉a
theorem topo_body(q:ti alj amI){done:Nat->Bool}{g:List Nat}(o:∀b∈g,b<Z alj.d/\done b=aa)(p:∀b∈g,∀a,a<Z alj.d->iF alj b a=ab->done a=ab\/a∈g)(l:amM∈alj.ah)(j:th (g.map Int.ofNat) amM=ab)(k:ano∈amM.ae):
 ano.aq= -1\/∃a:Nat,a<Z alj.d/\ano.aq=a/\(done a=ab\/a∈g):=by
 have m:=(q.hG amM l).lits ano k;by_cases e:ano.ak=5
 ·exact .inl (m.cmp e).2
 ·obtain⟨a,c,h,-⟩:=m.aq e
  refine .inr ⟨a,c,h,?_⟩;simp only[th,bG,decide_eq_true_eq,List.contains_iff_mem,du]at j;obtain⟨-,f,i,n⟩:=j;exact p f i a c (edge_dep l k n.symm h (o f i).1 c e)
theorem negC_of(z:ti alj amI)(v:se alj=[]){g:List Nat}(k:∀j∈g,j<Z alj.d)(r:∀j∈g,∀w∈g,eY (iF alj) j w=ab):NegC alj (g.map Int.ofNat):=by
 intro i u p a t m q;have n:=strata_nil v i u a t;simp only[th,bG,decide_eq_true_eq,List.contains_iff_mem,du]at p q;obtain⟨-,b,l,e⟩:=p;obtain⟨c,o,f⟩:=q;have h:a.ak≠5:=by
  intro h;simp[pc,h]at m
 have s:=r b l c o;have e:i.aq=(b:Int):=e.symm;have f:a.aq=(c:Int):=f.symm;have x:=k b l;have y:=k c o;have:kX alj i a=true:=by
  simp only[kX,qs,ep,e,f,m,HW,ej,ve,bG,decide_eq_true_eq,bne_iff_ne,ne_eq];refine⟨⟨⟨⟨by omega,by omega⟩,by omega,by omega⟩,h⟩,?_⟩;simpa[eY]using s
 rw[this]at n;cases n
theorem mem_ofNat{g:List Nat}:(aeh:Int)∈g.map Int.ofNat<->aeh∈g:=by
 simp[akR]
theorem runM_fix(m:ti alj amI)(x:MonP alj)(X:se alj=[]){done:Nat->Bool}(Y:Topo (Z alj.d) (iF alj) done anZ):
 ∀{j b:List aw},ra alj (anZ.map (·.map Int.ofNat)) j (T b)->dq alj amI j->∀g∈anZ,Fresh alj (g.map Int.ofNat) j->nK alj (g.map Int.ofNat) b=partF (g.map Int.ofNat) b:=by
 induction Y with
 |nil=>intro j b _ _ g M;cases M
 |cons done g anZ u J K ad A G ac=>
  intro j b F C i q E;rw[eJ]at F;cases F with
  |cons _ _ ah _ gs _ t r=>
   obtain⟨w,af,-,ae⟩:=runC_end m t C gs rfl;rcases cf.1 q with rfl|q
   ·have S:=negC_of m X (λk n=>(u k n).1) K
    have V:=runC_part m x S t C (λf v h=>absurd h (E f v)) gs rfl;have later:∀a:Nat,a<Z alj.d->(done a=ab\/a∈i)->∀s∈anZ.map (·.map Int.ofNat),(a:Int)∉s:=by
     intro a e l s h L;obtain⟨z,N,rfl⟩:=du.1 h;have:=(G.later z N a (mem_ofNat.1 L)).2;rw[(A a e).2 l]at this;cases this
    have p:∀a:Nat,a<Z alj.d->(done a=ab\/a∈i)->Agr (a:Int) b gs:=λa e l=>runM_agr r (later a e l) b rfl;have H:nK alj (i.map Int.ofNat) b=nK alj (i.map Int.ofNat) gs:=step_agr λak W O y P=>by
     rcases topo_body m u J W O P with c|⟨a,e,c,l⟩
     ·rw[c]
      refine runM_agr r (λs h Q=>?_) b rfl;obtain⟨z,-,rfl⟩:=du.1 h;obtain⟨k,-,n⟩:=du.1 Q;simp at n
     ·rw[c];exact p a e l
    have I:partF (i.map Int.ofNat) b=partF (i.map Int.ofNat) gs:=by
     have R:=(runM_ok m r w b rfl).1;refine asc_ext (H4.1 (R.part _).fz) (H4.1 (w.part _).fz) λk=>?_;rw[mem_part,mem_part];refine and_congr_left λn=>?_;obtain⟨a,e,c⟩:=du.1 n;have c:k.aq=(a:Int):=c.symm;have:=p a (u a e).1 (.inr e);have o:∀y:List aw,k∈y<->k∈y.filter λf=>f.aq==(a:Int):=by simp[c]
     rw[o b,o gs,show b.filter _=gs.filter _ from this]
    rw[H,I,V]
   ·refine ac r w i q λf v h=>?_
    obtain⟨a,e,c⟩:=du.1 h;have c:f.aq=(a:Int):=c.symm;obtain⟨o,B⟩:=G.later i q a e;have U:(a:Int)∉g.map Int.ofNat:=λx=>by
     rw[(A a o).2 (.inr (mem_ofNat.1 x))]at B;cases B
    have p:=runC_agr t U gs rfl;have:f∈gs.filter λf=>f.aq==(a:Int):=by simp[v,c]
    rw[show gs.filter _=j.filter _ from p]at this;exact E f (tF.1 this).1 h
theorem runM_base{l:List (List Int)}(a:ra alj l amy (T aoL))(s:∀b∈alj.ah,b.aq≠amD):Agr amD aoL amy:=by
 have t:∀(d:List Int)(gs:List aw),∀c∈nK alj d gs,c.aq≠amD:=by
  intro d gs;have key:∀(h:List aG)(_:∀b∈h,b∈alj.ah){out:List aw},(∀c∈out,c.aq≠amD)->∀c∈h.foldl (mb alj d gs) out,c.aq≠amD:=by
   intro h;induction h with
   |nil=>intro _ out a;exact a
   |cons b h e=>
    intro q out a;rw[oJ];refine e (λp u=>q p (by simp[u])) ?_;unfold mb;split
    ·have n:∀c∈tg alj gs b,c.aq≠amD:=λc i=>by
      obtain⟨g,-,rfl⟩:=du.1 i;exact s b (q b (by simp))
     generalize tg alj gs b=j at n;clear e;induction j generalizing out with
     |nil=>exact a
     |cons k j e=>
      have g:jm alj out (k::j)=jm alj (dp alj out k) j:=rfl;rw[g];exact e (λc i=>Pf (M:=alj) (b:=λp _=>p≠amD) a (n k (by simp)) c i) λc i=>n c (by simp[i])
    ·exact a
  exact key alj.ah (λ_ a=>a) (by simp)
 have r:∀{d f amy b},sn alj d f amy b->∀gs,b=T gs->Agr amD gs amy:=by
  intro d f amy b a;induction a with
  |over f amy a=>intro gs g;cases g
  |stop f amy a g=>intro gs m;cases m;rfl
  |next f amy b a g v e=>exactλgs m=>(e gs m).trans (unionF_agr _ (t _ _))
 generalize o:T aoL=x at a;induction a with
 |nil amy=>cases o;rfl
 |none d l f amy a=>cases o
 |cons d l f amy gs b a v e=>exact(e o).trans (r a gs rfl)
def TyA(h:aj)(f:Int)(g:List aO):Prop:=∀c,h.d[f.toNat]?=T c->∀(a:Nat)(e:aO)(b:Int),g[a]?=T e->c.bb[a]?=T b->e.ty=b
def EnvT(e:k->Int)(a:aX):Prop:=∀(b:Nat)(d:k)(c:aO),a.ax[b]?=T d->a.bl[b]?=T c->c.ty=e d
variable{anK:k -> Int}{ani:aM}
theorem EnvT.get(f:EnvT anK amN)(j:Z amN.bl=Z amN.ax)(d:known amN.ax ani=ab):(bW amN ani).1.ty=eZ anK ani:=by
 unfold eZ bW;by_cases a:ani.aB=[]
 ·simp[a]
 ·rw[if_neg a,if_neg a]
  have h:ani.aB∈amN.ax:=by
   simp only[known,kg,beq_iff_eq,decide_eq_true_eq]at d;exact d.resolve_left a
  cases c:amN.ax.findIdx? (λi=>i==ani.aB)with
  |none=>
   rw[wK]at c;have:=c _ h;simp at this
  |some e=>
   obtain⟨g,b,-⟩:=nW.1 c;have b:amN.ax[e]=ani.aB:=by simpa using b
   simp only;rw[oM,bC (by omega)];exact f e ani.aB _ (by rw[bC g,b]) (bC (by omega))
variable{aoa:aO}
theorem EnvT.put(e:EnvT anK amN)(g:Z amN.bl=Z amN.ax)(i:ani.aB≠[])(h:aoa.ty=eZ anK ani):EnvT anK (fT amN ani aoa):=by
 intro d l j b a;simp only[fT]at b a;by_cases c:d<Z amN.ax
 ·rw[lU c]at b
  rw[lU (by omega)]at a;exact e d l j b a
 ·rw[FH (by omega)]at b
  rw[FH (by omega)]at a;have c:d=Z amN.ax:=by
   obtain⟨f,-⟩:=e6.1 b;simp at f;omega
  subst c;simp only[Ke,cv,eK]at b;rw[g,Ke]at a;simp only[cv,eK]at a;subst b;subst a;rw[h,eZ,if_neg i]
variable{amL:List k}
theorem unknown_var(b:known amL ani=aa):ani.aB≠[]:=by
 intro a;simp[known,a]at b
theorem EnvT.hU:∀(d:List aM)(vs:List aO){b g:aX},Z b.bl=Z b.ax->EnvT anK b->(∀(c:Nat)(t:aM)(e:aO),d[c]?=T t->vs[c]?=T e->e.ty=eZ anK t)->AM.hU b d vs=T g->EnvT anK g
 |[],vs,b,g,_,f,_,a=>by
  simp only[AM.hU,eK]at a;exact a▸f
 |t::d,[],b,g,_,f,_,a=>by simp[AM.hU]at a
 |t::d,e::vs,b,g,h,f,j,a=>by
  rw[AM.hU]at a;have l:∀(c:Nat)(t:aM)(e:aO),d[c]?=T t->vs[c]?=T e->e.ty=eZ anK t:=λc o p m n=>j (c+1) o p (by simpa using m) (by simpa using n);split at a
  ·split at a
   ·exact EnvT.hU d vs h f l a
   ·cases a
  ·rename_i i
   rw[qy,Kr]at i;refine EnvT.hU d vs (by simp[fT,h]) (f.put h (unknown_var i) ?_) l a;exact j 0 t e (by simp) (by simp)
structure RulT(p:aj)(r:aG)(τ:k->Int):Prop where
 head:0<=r.aq->∀x∈mL p r.aq r.ad,eZ τ x.1=x.2
 lit:∀l∈r.ae,0<=l.aq->∀x∈mL p l.aq l.ad,eZ τ x.1=x.2
 eq:∀l∈r.ae,l.ak=5->∀a b,l.ad=[a,b]->eZ τ a=eZ τ b
theorem rulT_of(c:nN alj)(l:amM∈alj.ah):∃i,RulT alj amM i:=by
 have s:alj.aW=alj.aW.map (eQ alj):=congrArg aj.aW c.2.2.2;have t:alj.d=alj.d.map (en alj):=congrArg aj.d c.2.2.2;have n:=congrArg aj.ah c.2.2.2;have p:dT alj []=⟨alj.m,alj.aW,alj.d,[]⟩:=by
  show(⟨alj.m,alj.aW.map (eQ alj),alj.d.map (en alj),[]⟩:aj)=_;grind
 have o:=JR n amM l;obtain⟨-,-,-,⟨i,b⟩,-⟩:=c.2.2.1 amM l;rw[o,p]at b;simp only[we,wi,wj,c5,du,dB,zR]at b;refine⟨i,λe a g=>?_,λh f e a g=>?_,λh f r j k q=>?_⟩
 ·exact b (.ty a.1 a.2) (.inl ⟨a,.inl (by rw[BE,if_pos e];exact g),rfl⟩)
 ·exact b (.ty a.1 a.2) (.inl ⟨a,.inr ⟨_,⟨h,f,rfl⟩,by rw[iS,if_pos e];exact g⟩,rfl⟩)
 ·exact b (.eq j k) (.inr ⟨(j,k),⟨_,⟨h,f,rfl⟩,by simp[rj,r,q]⟩,rfl⟩)
variable{aou:List aM}{aoJ:cD}
theorem colsQ_get(b:∀a∈mL alj amD aou,eZ anK a.1=a.2)(e:alj.d[amD.toNat]?=T aoJ)(f:aou[aeh]?=T ani)(c:aoJ.bb[aeh]?=T anq):eZ anK ani=anq:=by
 refine b (ani,anq) ?_;unfold mL;rw[e];refine sG (i:=aeh) ?_;rw[List.getElem?_zip_eq_some];exact⟨f,c⟩
theorem EnvT.ext(s:RulT alj amM anK)(G:dq alj amI amy)(y:∀f∈amy,TyA alj f.aq f.ad)(p:ano∈amM.ae)(z:PJ alj amM ano)(g:Z amN.bl=Z amN.ax)(c:EnvT anK amN)(b:anT∈e5 alj amy amN ano):EnvT anK anT:=by
 unfold e5 at b;split at b
 ·rename_i h
  obtain⟨f,j,b⟩:=yj.1 b;obtain⟨C,A,rfl⟩:=dg.1 b;obtain⟨j,r⟩:=tF.1 j;have x:f.aq=ano.aq:=by
   simp only[j9,bG,beq_iff_eq]at r;exact r.1
  have m:EnvT anK C:=c.hU _ _ g (λl I B a v=>by
   have i:ano.ak≠5:=by
    intro i;simp[i]at h
   obtain⟨e,F,u,E⟩:=z.aq i;have q:alj.d[ano.aq.toNat]?=T alj.d[e]:=by rw[u];simp
   obtain⟨H,-⟩:=e6.1 a;have o:alj.d[e].bb[l]?=T (alj.d[e].bb[l]'(by omega)):=bC _;rw[colsQ_get (s.lit ano p (by omega)) q a o];exact y f j _ (by rw[x];exact q) l B _ v o) A
  unfold jq;split
  ·exact m
  ·exact m
 ·split at b
  ·simp only[lV]at b
   subst b;unfold g7;split
   ·rename_i e t w
    split
    ·rename_i h
     simp only[bG,beq_iff_eq]at h;have n:=s.eq ano p h.1 e t w;split
     ·rename_i a
      simp only[bG,jt]at a;rw[qy,qy]at a;exact c.put g (unknown_var a.2) ((c.get g a.1).trans n)
     ·split
      ·rename_i a
       simp only[bG,jt]at a;rw[qy,qy]at a;exact c.put g (unknown_var a.2) ((c.get g a.1).trans n.symm)
      ·exact c
    ·exact c
   ·exact c
  ·cases b
theorem heads_ty(d:ti alj amI)(z:nN alj)(f:dq alj amI amy)(y:∀a∈amy,TyA alj a.aq a.ad)(b:amM∈alj.ah)(r:0<=amM.aq):∀a∈tg alj amy amM,TyA alj a.aq a.ad:=by
 intro a w;obtain⟨c,i,rfl⟩:=du.1 w;obtain⟨F,p⟩:=rulT_of z b;have o:=d.hG amM b;have k:=Ii o (d.safe amM b) (f.meet d b) (λa g=>(f.ok a g).af) c i;have n:=d.safe amM b;simp only[uD,bG]at n;obtain⟨J,m⟩:=rM.1 n.1.1;rw[PI m]at i;have key:=aer (M:=alj) (f.meet d b) (λ_ c=>EnvT F c) (λdone G c E q A e j h s t H u v=>by
  have l:=sG e;exact EnvT.ext p f y l (o.lits A l) (by rw[t,s]) u v) (BB m).1 e0 rfl rfl (by simp[e0]) (λq E C g=>by simp[e0]at g) c i
 intro K x q C I e j;simp only[iR,eG,zS,dg]at e;obtain⟨B,h,rfl⟩:=e;rw[key.1.get k.len (k.ax B (sG h))];exact colsQ_get (p.head r) x h j
theorem unionF_all{e:Int->List aO->Prop}:∀(d:List aw){c:List aw},(∀a∈c,e a.aq a.ad)->(∀a∈d,e a.aq a.ad)->∀a∈jm alj c d,e a.aq a.ad
 |[],_,f,_=>f
 |b::d,c,f,g=>unionF_all d (c:=dp alj c b) (Pf f (g b (by simp))) λa h=>g a (by simp[h])
theorem step_all(l:ti alj amI){e:Int->List aO->Prop}(d:∀b∈alj.ah,0<=b.aq->∀a∈tg alj amy b,e a.aq a.ad):∀a∈nK alj anG amy,e a.aq a.ad:=by
 have key:∀(c:List aG)(_:∀b∈c,b∈alj.ah){out:List aw},(∀a∈out,e a.aq a.ad)->∀a∈c.foldl (mb alj anG amy) out,e a.aq a.ad:=by
  intro c;induction c with
  |nil=>exactλ_ _ d=>d
  |cons b c j=>
   intro f out g;rw[oJ];refine j (λk i=>f k (by simp[i])) ?_;unfold mb;split
   ·rename_i h
    exact unionF_all _ g (d b (f b (by simp)) (inC_pos h))
   ·exact g
 exact key alj.ah (λ_ d=>d) (by simp)
theorem runM_keep{g:List aw->Prop}(j:∀h a,g a->g (iG alj h a)):∀{i:List (List Int)}{a:List aw}{f:Option (List aw)},ra alj i a f->g a->∀b,f=T b->g b:=by
 have o:∀{h e a f},sn alj h e a f->g a->∀b,f=T b->g b:=by
  intro h e a f k;induction k with
  |over e a j=>intro _ b c;cases c
  |stop e a j c=>intro d b n;cases n;exact d
  |next e a p m c q l=>exactλd=>l (j _ _ d)
 intro i a f k;induction k with
 |nil a=>intro d b c;cases c;exact d
 |none h i e a j=>intro _ b c;cases c
 |cons h i e a gs p m q l=>exactλd b c=>l (o m d gs rfl) b c
structure Keep(p:aj)(fB:List aO)(fs:List aw):Prop where
 v:dq p fB fs
 ty:∀f∈fs,TyA p f.aq f.ad
 nb:NoBot p fs
theorem keep_next(b:ti alj amI)(k:nN alj)(c:List Int)(a:Keep alj amI amy):Keep alj amI (iG alj c amy):=by
 have j:=(EC b a.v c).1;exact⟨(Il b a.v c).1,unionF_all _ a.ty (step_all b λl i g f h=>heads_ty b k a.v a.ty i g f h),unionF_nb b.aV _ (λe d=>(a.v.ok e d).af) (λe d=>(j.ok e d).af) a.nb⟩
theorem form_iff(t:nN alj)(s:∀u∈amI,qX u=ab)(a:Keep alj amI amy):jk alj amy=true:=by
 unfold jk;rw[fi];intro g b;have b:g<Z amy:=by simpa using b
 have c:=bs b;rw[lL,bC b];simp only[bG];refine⟨?_,?_⟩
 ·obtain⟨f,j,h,w⟩:=(a.v.ok _ c).fJ
  have q:alj.d[amy[g].aq.toNat]?=T alj.d[f]:=by rw[h];simp
  unfold qw;rw[q];simp only[bG,decide_eq_true_eq,v5,beq_iff_eq,fi,la];refine⟨by omega,⟨by omega,λe k=>?_⟩,?_⟩
  ·have n:alj.d[f].bb[e]?=T (alj.d[f].bb[e]'(by omega)):=bC _
   unfold uJ;rw[bC k,n];simp only[bG,beq_iff_eq];exact⟨s _ ((a.v.ok _ c).fB _ (bs k)),a.ty _ c _ q e _ _ (bC k) n⟩
  ·unfold xE
   split
   ·rename_i l
    have:=(a.v.ok _ c).none (by rw[yf,h,JT j,if_pos l]);simp[this]
   ·rename_i l
    have x:=SM t _ (bs j);have o:alj.d[f].of.toNat<Z alj.m:=by omega
    rw[bC o];have p:e8 alj amy[g].aq=T alj.m[alj.d[f].of.toNat]:=by rw[yf,h,JT j,if_neg l,bC o]
    have i:=(a.v.ok _ c).af _ p;simp only[eF,bG,decide_eq_true_eq]at i;simp only[bG,decide_eq_true_eq,bne_iff_ne,ne_eq];exact⟨i.1,i.2,λr=>a.nb _ c ⟨_,p,r⟩⟩
 ·cases g with
  |zero=>rfl
  |succ e=>
   rw[uK,bC (by omega),bC b];simpa using a.v.fz e (e+1) (by omega) b (by omega)
theorem keep_of(y:nN alj)(o:jk alj amy=ab):Keep alj (pa alj amy) amy/\∀a∈amy,∀g∈a.ad,qX g=true:=by
 have w:=JW y o;rw[jk,fi]at o;have v:∀a∈amy,qw alj a=true:=by
  intro a f;obtain⟨c,i,rfl⟩:=jS.1 f;have:=o c (by simpa using i);rw[lL,bC i]at this;simp only[bG]at this;exact this.1
 have p:∀a∈amy,∃e,alj.d[a.aq.toNat]?=T e/\(∀(c:Nat)(g:aO),a.ad[c]?=T g->qX g=ab/\∀l,e.bb[c]?=T l->g.ty=l)/\xE alj e a=true:=by
  intro a f;have m:=v a f;simp only[qw,bG]at m;have h:=m.2;split at h
  ·cases h
  ·rename_i e k
   simp only[v5,bG,beq_iff_eq,fi,la]at h;refine⟨e,k,λc g n=>?_,h.2⟩;obtain⟨i,q⟩:=e6.1 n;have b:=h.1.2 c i;have r:c<Z e.bb:=by omega
   rw[uJ,n,bC r]at b;simp only[bG,beq_iff_eq]at b;refine⟨b.1,λl s=>?_⟩;rw[bC r]at s;cases s
   exact b.2
 refine⟨⟨w,λa f e k c g l m h=>?_,λa f=>?_⟩,λa f g n=>?_⟩
 ·obtain⟨A,t,b,-⟩:=p a f
  rw[k]at t;cases t;exact(b c g m).2 l h
 ·rintro⟨z,j,q⟩
  obtain⟨e,k,-,b⟩:=p a f;rw[yf]at j;have u:hK alj a.aq=e.of:=by unfold hK;rw[k]
  rw[u]at j;unfold xE at b;split at j
  ·cases j
  ·rename_i x
   rw[if_neg x,j]at b;simp only[bG,decide_eq_true_eq,bne_iff_ne,ne_eq]at b;exact b.2.2 q
 ·obtain⟨c,i,rfl⟩:=jS.1 n
  obtain⟨e,-,b,-⟩:=p a f;exact(b c _ (bC i)).1
theorem trm_valid(a:ic ani=ab)(b:ani.aB=[]):qX ani.const=true:=by
 unfold ic at a;rw[if_pos (by simp[b])]at a;exact a
theorem model_form(c:nN alj){j:List (List Int)}(o:ti alj (pa alj amy))(k:jk alj amy=ab)(d:ra alj j amy (T aoL)):jk alj aoL=ab/\Keep alj (pa alj amy) aoL:=by
 obtain⟨l,m⟩:=keep_of c k;have g:=runM_keep (λi gs p=>keep_next o c i p) d l aoL rfl;refine⟨form_iff c (λe b=>?_) g,g⟩;refine aiX (d:=λe=>qX e=ab) (M:=alj) (X:=amy) m (λr d h a b=>?_) e b;have f:=(BJ c.1).hG r d;simp only[iO,c5,zR,du]at a;rcases a with a|⟨_,⟨q,n,rfl⟩,a⟩
 ·exact trm_valid (f.BI h a) b
 ·exact trm_valid ((f.lit q n).BI h a) b
open Go.Proofs
variable{ael ali:AV}
theorem r6N:aF 6 [ael,ali] 0x20220b022017e70001202411e10a10200c74017e02210e6016e220e67918e14e01311e65718e19e415e0031024100102c000102024721e14e018e7918e1be2310e11e0d083518ebb4029380fea0121e611e415e0007a4100102c000102017ed020ee613e415e10e017e13e0210e639220e6b0001202511e105102000102068126e602191124e4504721e10e23b403908d230fe11ee0007100102a90010203d250eeb40116e05111ce001ce70217e64415e00374017e4021fe61415e0c60414e [] [ael,ali]:=
 ru Tryz.func6 (an 0x20004000020800080802010ff7 0x20004000020800080802010000 [] [(8,1)] [] []) []
theorem r25:aF 25 [ael] 0x7100102a000102a00010240d080147e67415e0ee01d05080146e62415e0ee0130e60415eb0414e [] [ael]:=
 ru Tryz.func25 (am 7 0) []
theorem r31:aF 31 [ael,ali] 0x122007c0007202711e00974017e014721e4a0321e7234029780fe05a0007a4100102c000102c000102017ea021ae67415e10e017e0119e64415e10e017e0413d6bb8f50415eb0414e [] [ael,ali]:=
 ru Tryz.func31 (am 0x2001100037 0x2001100000) []
theorem r32:aF 32 [ael,ali] 0x1220270001202611e3050220327312207603120a28e326e1021b0b3324e2ae8c31fe40001202411e100102c20010201d9d0321e3d18e10eb4029b80feab4029580fe0531ee31ee [] [ael,ali]:=
 ru Tryz.func32 (an 0x4000411f3 0x400041000 [] [(4,3),(5,3)] [] []) []
def FactsV(c:List Obj)(b:AV)(a:List aw):Prop:=lN c b a\/∃d,b=eS d (cF aa) a
variable{ae6:List Obj}
theorem FactsV.g3(a:FactsV ae6 ael amy):ael.pl=ael/\∃b,aI ae6 .cm ael.pl (eS b (cF aa) amy):=by
 rcases a with a|⟨b,rfl⟩
 ·exact⟨a.pl,ab,by rw[a.pl];exact a.g3⟩
 ·exact⟨rfl,b,Im.snap (by simp)⟩
noncomputable def goodB(a:aj):Bool:=iH a&&(Z (nA a):Int)==0&&(Z (se a):Int)==0
variable{alh:Bool}
theorem k25(a:aj)(g:dW a)(d:Z a.ah<=20)(h:∀i∈a.ah,j6 i)(e:nN a->ky a):PR C 25 [.agg (cP aa alh a)] (.bool (goodB a)):=by
 refine r25.pr ?_;simp only[dS,Q,fQ,bo,G];refine f (afx a g) (aZ (λb=>?_) (λb=>bE (by rw[goodB,b]<;>rfl)));refine f (Ot a d h) ?_;simp only[a8,c9,Q];refine aZ (λc=>?_) (λc=>bE (by rw[goodB,b,c]<;>rfl));refine f (O4 a (e (QM.1 b)) d) ?_;simp only[a8,c9,Q];exact gU (by rw[goodB,b,c]<;>rfl)
noncomputable def fineB(a:aj)(b:List aw):Bool:=r9 a b 3000&&goodB a&&jk a b&&b.all (oB a)
variable{amx:Bool}
theorem k31(b:aj)(c:List aw)(o:dW b)(n:Sm c)(w:∀v∈c,eO v.ad):PR C 31 [.agg (cP aa alh b),eS amx (cF aa) c] (.bool (fineB b c)):=by
 refine r31.pr ?_;simp only[dS,Q,fQ];refine eh (N:=[]) (!(r9 b c 3000&&goodB b&&jk b c)) (λH j=>?_) ?_
 ·refine f (acP b c 3000 (by omega) o n) ?_
  simp only[bD,Q];refine dx (λe=>?_) (λe=>kB j (by simp_all));have e:r9 b c 3000=true:=by simpa using e
  have s:=Ce e;obtain⟨B,z,-⟩:=Cd s;refine f (k25 b o z B (SW s)) ?_;simp only[bD,Q];refine dx (λh=>?_) (λh=>kB j (by simp_all));have h:goodB b=true:=by simpa using h
  have E:nN b:=by
   simp only[goodB,bG]at h;exact QM.1 h.1.1
  refine f (adS b c o (SM E) n w) ?_;simp only[bD,Q];exact kB j (by simp_all)
 simp only[G];refine c8 (λe=>bE (by rw[fineB,e]<;>rfl)) (λe=>?_);have x:jk b c=true:=by
  simp only[bG]at e;exact e.2
 have y:=aiO x;refine et (U:=Z c) (c:=λk=>[ff,I k]) (λk=>(c.take k).all (oB b)=ab) (by simp) rfl (λk g l t j=>?_) (λl t=>?_)
 ·obtain⟨u,q,m⟩:=y _ (bs g)
  have r:oB b c[k]=b.d[u].fI:=by
   unfold oB;rw[m,ej,bC q]
  simp only[i,G,a8,A,Q,a,g,decide_true,a6,aH,iy,aJ,aC g (hE _ _),p5,m,aC q (hD _ _),AP,bD];refine a7 ?_;refine c8 (λp=>bE ?_) (λp=>?_)
  ·rw[fineB,e,cu,List.all_eq_false]
   exact⟨_,bs g,by rw[r,p];simp⟩
  ·rw[n.inc g,Q]
   refine j ?_;rw[mD g,l,r,p]<;>rfl
 ·simp only[i,G,a8,A,Q,a,ca,decide_false]
  refine bq (hR ?_);rw[dB]at l;rw[fineB,e,l]<;>rfl
structure Fine(p:aj)(fs:List aw):Prop where
 r9:r9 p fs 3000=ab
 q3:qi p fs
 val:nN p
 uns:nA p=[]
 str:se p=[]
 form:jk p fs=ab
 fI:fs.all (oB p)=ab
theorem fine_of(a:fineB alj amy=ab):Fine alj amy:=by
 simp only[fineB,goodB,bG,beq_iff_eq]at a;obtain⟨⟨⟨b,⟨c,f⟩,g⟩,d⟩,e⟩:=a;exact⟨b,Ce b,QM.1 c,wF (by omega),wF (by omega),d,e⟩
theorem k23_fine(i:eP C)(j:wA C)(l:x5 C)(a:Fine alj amy)(h:dW alj)(d:∀k∈amy,eO k.ad):
 ∃b,ra alj (xV alj) amy b/\(∀gs,b=T gs->dq alj (pa alj amy) gs/\jP gs=aa)/\PR C 23 [.agg (cP aa alh alj),eS amx (cF aa) amy] (BL b):=by
 obtain⟨p,-,o⟩:=Cd a.q3;have f:=JV a.r9 a.val h d a.uns;have e:=JW a.val a.form;have r:=a.q3.facts;obtain⟨b,g,m⟩:=PT f.v (xV alj) e (Io (by omega));have n:qH alj amy=true:=by
  rw[qH,a.form,a.fI,QM.2 a.val]<;>rfl
 refine⟨b,g,m,jr i j l (V:=alh) (F:=amx) (bp:=false) alj amy h (by unfold Sm;omega) d (BL b) (λc=>by rw[n]at c;cases c) λ_=>?_⟩;exact⟨o,p,SW a.q3 a.val,λc=>absurd a.uns c,λ_ c=>absurd a.str c,λ_ _=>⟨_,b,f,e,by omega,g,rfl⟩⟩
theorem part_take(c:aeh<Z amy):partF anG (amy.take (aeh+1))=if anG.contains amy[aeh].aq=ab then partF anG (amy.take aeh)++[amy[aeh]]else partF anG (amy.take aeh):=by
 rw[partF,hX c,Ty];by_cases a:anG.contains amy[aeh].aq=ab
 ·rw[if_pos a,List.filter_cons_of_pos (p:=λb:aw=>anG.contains b.aq) a]<;>rfl
 ·rw[if_neg a,List.filter_cons_of_neg (p:=λb:aw=>anG.contains b.aq) a]
  simp[partF]
theorem part_len(b:List Int)(a:List aw):Z (partF b a)<=Z a:=vh ..
theorem k32(d:List aw)(e:List Int)(B:Z d<=1000000)(y:Z e<=1000000):PR C 32 [eS alh (cF aa) d,eS amx cI e] (eS aa (cF aa) (partF e d)):=by
 refine r32.pr ?_;simp only[eA,dZ,c3,de,fm,gz];refine bB (z:=Nat) (λc=>[.q 1 (Z (partF e (d.take c))) 0 (Z (partF e (d.take c))),I c]) (λc=>aY [.arr 0 3 [],.arr 0 3 []] 1 3 (cF aa) (Z (partF e (d.take c))) (partF e (d.take c))) (λc=>Z d -c) (λc=>c<=Z d) 0 (by simp) ?_ (by simp[partF]) (by simp[partF,aY]);intro c z w u;have t:=part_len e (d.take c);rw[gb]at t;simp only[i,G,a8,A,Q,a]
 refine b (λh=>?_) (λh=>?_)
 ·have h:c<Z d:=by simpa using h
  have k:=u (c+1) h (by omega);rw[part_take h]at k;rw[bo];generalize partF e (d.take c)=m at*;generalize n:aY [Obj.arr 0 3 [],Obj.arr 0 3 []] 1 3 (cF aa) (Z m) m=o at*;have r:∀f(j:f<Z e),(e.take (f+1)).contains d[c].aq=((e.take f).contains d[c].aq||e[f]==d[c].aq):=λf j=>by
   rw[hX j,hY];simp only[List.contains_iff_mem,c5,lV,kg,beq_iff_eq];exact or_congr_right eq_comm
  refine et (U:=Z e) (c:=λf=>[.bool ((e.take f).contains d[c].aq),I f]) (λ_=>True) trivial (by simp) (λf j _ p s=>?_) (λ_ p=>?_)
  ·simp only[i,G,a8,A,Q,a,j,decide_true]
   refine a7 ?_;refine eh (N:=o) ((e.take (f+1)).contains d[c].aq) (λE l=>?_) ?_
   ·rw[r f j]at l
    refine dx (λg=>?_) (λg=>kB l (by rw[g]<;>rfl));simp only[aC j (g4 _),aH,j4,aC h (hE _ _),a6,p5,c9,Q,aJ];exact kB l (by rw[g]<;>rfl)
   ·simp only[G]
    rw[ba,Q];exact s trivial
  ·simp only[i,G,a8,A,Q,a,ca,decide_false,dB]
   refine bq ?_;refine b (λg=>?_) (λg=>?_)
   ·rw[if_pos g]at k
    simp only[aC h (hE _ _),my,Q,acF];rw[<-n];refine xq (a2:=cF aa) (by simp) rfl (by omega) ?_;rw[ba,Q];rw[fb,gz]at k⊢;exact k
   ·rw[if_neg (by rw[g];decide),n]at k
    rw[ba,Q];exact k
 ·have:c=Z d:=by simp at h;omega
  subst this;rw[dB];exact fx (oo (by simp)) (by simp)
def baseI(a:aj):List Int:=((List.range (Z a.d)).filter λb=>(a.d[b]?.map cD.fI).getD aa).map Int.ofNat
theorem head_base(a:nN alj)(f:amM∈alj.ah)(q:aeh<Z alj.d)(j:amM.aq=aeh):alj.d[aeh].fI=false:=by
 have n:alj.aW=alj.aW.map (eQ alj):=congrArg aj.aW a.2.2.2;have o:alj.d=alj.d.map (en alj):=congrArg aj.d a.2.2.2;have h:dT alj []=⟨alj.m,alj.aW,alj.d,[]⟩:=by
  show(⟨alj.m,alj.aW.map (eQ alj),alj.d.map (en alj),[]⟩:aj)=_;grind
 have c:=JR (congrArg aj.ah a.2.2.2) amM f;obtain⟨e,-,-⟩:=a.2.2.1 amM f;rw[h]at c e;have p:amM.aq=kE ⟨alj.m,alj.aW,alj.d,[]⟩ amM:=(congrArg aG.aq c).symm;have i:amM.ar≠[]:=by grind[kE]
 obtain⟨b,r,k,g,-⟩:=IM e i;have l:amM.aq=b:=by grind[kE]
 have:aeh=b:=by omega
 subst this;exact g
theorem isBase_pred(b:aeh<Z alj.d)(a:ann.aq=aeh):oB alj ann=alj.d[aeh].fI:=by
 unfold oB;rw[a,ej,bC b]
theorem part_base(h:Fine alj amy)(r:ti alj (pa alj amy)){m:List (List Int)}(k:ra alj m amy (T aoL)):partF (baseI alj) aoL=amy:=by
 have i:=JW h.val h.form;have q:=(runM_ok r k i aoL rfl).1;refine asc_ext (H4.1 (q.part _).fz) (H4.1 i.fz) λf=>?_;have key:∀(a:Nat)(_:a<Z alj.d),alj.d[a].fI=ab->f.aq=a->(f∈aoL<->f∈amy):=λa c b e=>by
  have p:Agr (a:Int) aoL amy:=runM_base k λt s n=>by
   have:=head_base h.val s c n;rw[b]at this;cases this
  have j:∀l:List aw,f∈l<->f∈l.filter λo=>o.aq==(a:Int):=by simp[e]
  rw[j aoL,j amy,show aoL.filter _=amy.filter _ from p]
 rw[mem_part];constructor
 ·rintro⟨g,b⟩
  simp only[baseI,du,tF,la]at b;obtain⟨a,⟨c,b⟩,e⟩:=b;rw[bC c]at b;exact(key a c (by simpa using b) e.symm).1 g
 ·intro g
  obtain⟨a,c,e,-⟩:=(i.ok f g).fJ;have b:=fi.1 h.fI f g;rw[isBase_pred c e]at b;refine⟨(key a c b e).2 g,?_⟩;simp only[baseI,du,tF,la];exact⟨a,⟨c,by rw[bC c];simpa using b⟩,e.symm⟩
theorem dep_rule(h:iF alj aeh alm=ab):∃a∈alj.ah,a.aq=aeh:=by
 have m:∀aeh alm,sd alj aeh alm=ab->aeh<Z alj.d/\alm<Z alj.d:=λaeh alm h=>by
  simp only[sd,qn,kh,List.any_map,FE,Function.comp,bG,beq_iff_eq]at h;obtain⟨e,g,j,q⟩:=h;have:=Bv e g;omega
 rw[iF,OE m]at h;have key:∀f,sd alj aeh f=ab->∃a∈alj.ah,a.aq=aeh:=λf h=>by
  simp only[sd,qn,kh,List.any_map,FE,Function.comp,bG,beq_iff_eq]at h;obtain⟨e,g,j,-⟩:=h;have k:∀(a:aG)(c:List Lit)(b:List Edge),e∈c.foldl (jD alj a) b->e∈b\/e.1.1=a.aq:=by
   intro a c;induction c with
   |nil=>exactλb h=>.inl h
   |cons r c i=>
    intro b h;rw[oJ]at h;rcases i _ h with h|h
    ·unfold jD at h
     split at h
     ·rcases c5.1 h with h|h
      ·exact .inl h
      ·rw[lV]at h;exact .inr (by rw[h])
     ·exact .inl h
    ·exact .inr h
  have l:∀(c:List aG)(b:List Edge),e∈c.foldl (pd alj) b->e∈b\/∃a∈c,e.1.1=a.aq:=by
   intro c;induction c with
   |nil=>exactλb h=>.inl h
   |cons a c i=>
    intro b h;rw[oJ]at h;rcases i _ h with h|⟨p,o,h⟩
    ·rcases k a a.ae b h with h|h
     ·exact .inl h
     ·exact .inr ⟨a,by simp,h⟩
    ·exact .inr ⟨p,by simp[o],h⟩
  rcases l alj.ah [] g with h|⟨a,n,h⟩
  ·cases h
  ·exact⟨a,n,by rw[<-h,j]⟩
 cases h with
 |gP _ _ h=>exact key _ h
 |step _ f _ h s=>exact key _ h
theorem Topo.xK{done:Nat->Bool}(b:Topo aeh anL done anZ):∀g∈anZ,∀f∈g,∀h∈g,eY anL f h=true:=by
 induction b with
 |nil=>simp
 |cons done g anZ j k c i l m d=>
  intro e a;rcases cf.1 a with rfl|a
  ·exact c
  ·exact d e a
theorem comp_fresh(f:Fine alj amy){g:List Nat}(k:g∈pj (Z alj.d) (iF alj))(o:aeh∈g)(t:aeh<Z alj.d)(p:alj.d[aeh].fI=aa):Fresh alj (g.map Int.ofNat) amy:=by
 intro e r q;obtain⟨a,i,c⟩:=du.1 q;have c:e.aq=(a:Int):=c.symm;have l:=comps_topoP alj;have j:=(l.later g k a i).1;have b:=fi.1 f.fI e r;rw[isBase_pred j c]at b;by_cases h:a=aeh
 ·subst h
  rw[p]at b;cases b
 ·have m:=l.xK g k a i aeh o
  simp only[eY,kg,beq_iff_eq,bG]at m;obtain⟨u,s,n⟩:=dep_rule (m.resolve_left h).1;have:=head_base f.val s j n;rw[b]at this;cases this
theorem base_take(c:aeh<Z alj.d):((List.range (aeh+1)).filter λaeh=>(alj.d[aeh]?.map cD.fI).getD aa)=if alj.d[aeh].fI=ab then((List.range aeh).filter λaeh=>(alj.d[aeh]?.map cD.fI).getD aa)++[aeh]else(List.range aeh).filter λaeh=>(alj.d[aeh]?.map cD.fI).getD false:=by
 rw[wJ,Ty];have b:(alj.d[aeh]?.map cD.fI).getD aa=alj.d[aeh].fI:=by rw[bC c]<;>rfl
 by_cases a:alj.d[aeh].fI=ab
 ·rw[if_pos a,List.filter_cons_of_pos (by rw[b];exact a)]<;>rfl
 ·rw[if_neg a,List.filter_cons_of_neg (by rw[b];exact a)];simp
theorem k6N(B:eP C)(L:wA C)(M:x5 C)(c:aj)(w:List aw)(K:dW c)(af:Sm w)(F:∀s∈w,eO s.ad):PR C 6 [.agg (cP aa alh c),eS amx (cF aa) w] (.bool ab):=by
 refine r6N.pr ?_;have R:∀o,aR 4 ab (.aK aa (cP aa alh c) 0) o=T (.agg (cP aa alh c)):=λ_=>rfl;refine aD (dD:=.aK aa (cP aa alh c) 0) rfl ?_;refine f (Jg B L M) ?_
 try simp only[R,Q]
 refine f (k31 c w K af F) ?_;rw[bD,Q];refine c8 (λ_=>.bool _ _) (λe=>?_);have j:=fine_of e;obtain⟨bp,N,bb,ax⟩:=k23_fine B L M (alh:=alh) (amx:=amx) j K F
 try simp only[R,Q]
 refine f ax ?_;cases bp with
 |none=>
  refine aD (dD:=eS aa (cF aa) ([]:List aw)) rfl (aD (dD:=I 2) rfl ?_);simp only[cd,c9,Q];refine a7 ?_;refine eh (N:=[]) ab (λk p=>?_) (.bool _ _);exact aZ (λ_=>kB p (by decide)) (λe=>by cases e)
 |some m=>
  obtain⟨J,be⟩:=bb m rfl;have t:=JV j.r9 j.val K F j.uns;have a4:=JW j.val j.form;have b4:=J.small t.v be;have U:=SW j.q3 j.val;obtain⟨b9,-,bg⟩:=Cd j.q3;have b2:=t.v.d;have bf:=part_base j t.v N;obtain⟨Y,-⟩:=model_form j.val t.v j.form N;refine aD (dD:=eS aa (cF aa) m) rfl (aD (dD:=I 0) rfl ?_);simp only[cd,Q];refine bq ?_;refine bj rfl ?_;simp only[c3,de]
  generalize V:(λh:Nat=>(c.d[h]?.map cD.fI).getD aa)=u;have bt:=λh e=>base_take (alj:=c) (aeh:=h) e;rw[V]at bt;have X:baseI c=((List.range (Z c.d)).filter u).map Int.ofNat:=by rw[<-V]<;>rfl
  refine bB (z:=Nat) (λh=>[.q 0 (Z ((List.range h).filter u)) 0 (Z ((List.range h).filter u)),I h]) (λh=>aY [.arr 0 1 []] 0 1 cN (Z ((List.range h).filter u)) ((List.range h).filter u)) (λh=>Z c.d -h) (λh=>h<=Z c.d) 0 (by simp) ?_;intro h bS br aq;have bH:Z ((List.range h).filter u)<=h:=by simpa using vh u (List.range h)
  simp only[i,G,a6,aH,iy,aJ,a8,A,Q,a];refine b (λe=>?_) (λe=>?_)
  ·have e:h<Z c.d:=by simpa using e
   have z:=aq (h+1) e (by omega);rw[bt h e]at z;simp only[aC e (hD _ _),Q,AP,a6,aH,aJ,bo];refine b (λE=>?_) (λE=>?_)
   ·rw[if_pos E]at z
    refine aD (dD:=.sl aa [cN h]) rfl ?_;refine xq (a2:=cN) (by simp) rfl (by omega) ?_;simp only[G];rw[ba,Q];rw[fb,gz]at z⊢;exact z
   ·rw[E]at z
    simp only[G];rw[ba,Q];exact z
  ·have:h=Z c.d:=by simp at e;omega
   subst this;clear aq;generalize bv:(List.range (Z c.d)).filter u=r at*;have a9:(aY [Obj.arr 0 1 []] 0 1 cN (Z r) r)[0]?=T (.arr (Z r) 1 (r.map cN)):=oo (by simp);generalize aY [Obj.arr 0 1 []] 0 1 cN (Z r) r=o at*;have g3:aI o .cm (AV.q 0 (Z r) 0 (Z r)) (eS ab cI (baseI c)):=by
    rw[X,<-QN];exact l7 a9 (by simp)
   have bm:∀P:List aw,NB (eS aa (cF aa) P):=λP=>rA (λs=>.cons _ _ (.int _ _) (.cons _ _ (zE _) (.cons _ _ (.int _ _) .nil))) P;have aU:Z (baseI c)<=1000000:=by rw[X,kd];omega
   refine eh (N:=o) aa (λk p=>?_) ?_
   ·refine ea _ (k32 (alh:=false) (amx:=true) m (baseI c) (by omega) aU) (.cons _ _ _ _ _ (Im.snap (by simp)) (.cons _ _ _ _ _ g3 (.nil _))) (bm _) ?_
    rw[bf];refine f (Bb w w af (λs O=>(F s O).1)) ?_;simp only[decide_true,bD,Q,kI];refine dx (λ_=>?_) (λe=>by cases e);refine f (B.B0 c m K (by unfold Sm;omega) (dq.re t J.ok)) ?_;rw[Y,QM.2 j.val];simp only[bD,Q];exact kB p rfl
   simp only[G];refine bq ?_;refine f (xL c U) ?_;have a0:∀g∈pj (Z c.d) (iF c),Z g<=Z c.d:=λg x=>IQ _ g x;have bz:Z (pj (Z c.d) (iF c))<=Z c.d:=IS _;have ak:=comps_topoP c;have a2:∀g∈pj (Z c.d) (iF c),∀a∈g,∀(n:a<Z c.d),c.d[a].fI=aa->nK c (g.map Int.ofNat) m=partF (g.map Int.ofNat) m:=λg x a aL n aQ=>
    runM_fix t.v (mon_of j.val) j.str ak N a4 g x (comp_fresh j x aL n aQ)
   have ah:∀g∈pj (Z c.d) (iF c),∀a∈g,a<Z c.d:=λg x a n=>(ak.later g x a n).1;generalize pj (Z c.d) (iF c)=l at*;refine et (U:=Z l) (c:=λk=>[ff,I k]) (λ_=>True) trivial rfl (λk p _ ar ae=>?_) (λ_ ar=>?_)
   ·have H:=bs p
    have bL:=a0 _ H;simp only[i,G,a8,A,Q,a,p,decide_true];refine a7 ?_;rw[bo];refine eh (N:=o) (match l[k]with|[]=>ab|a::_=>(c.d[a]?.map cD.fI).getD aa) (λce ac=>?_) ?_
    ·simp only[aC p (EF _),Q,aH,EG,a8,c9]
     generalize y:l[k]=au at*;cases au with
     |nil=>
      refine dx (λe=>by simp at e) (λ_=>kB ac rfl)
     |cons a g=>
      have n:=ah _ H a (by simp);have aB:(0:Nat)<Z (a::g):=by simp
      have bi:bY 1 (eS aa cN (a::g)) (I 0) o=T (.aK aa (cN a) 0):=aC (a2:=cN) aB (Og _);refine dx (λ_=>?_) (λe=>by simp at e;omega)
      try simp only[aC p (EF _),y,Q,aH,EG,a6,iy,aJ]
      refine aD bi ?_;simp only[aH,Oh,Q,aC n (hD _ _),a6,AP,aJ];exact kB ac (by simp[bC n])
    simp only[G];refine b (λe=>?_) (λe=>?_)
    ·rw[ba,Q]
     exact ae trivial
    ·have O:nK c (l[k].map Int.ofNat) m=partF (l[k].map Int.ofNat) m:=by
      cases y:l[k]with
      |nil=>rw[y]at e;cases e
      |cons a g=>
       rw[y]at e;have W:a∈l[k]:=by rw[y];simp
       have n:=ah _ H a W;rw[<-y];refine a2 _ H a W n ?_;simpa[bC n]using e
     have bw:Z (l[k].map Int.ofNat)<=24:=by rw[kd];omega
     simp only[R,Q,aC p (EF _),aH,EG,QN];refine f (ai1 B L M (V:=alh) (F:=false) (bp:=false) (b2:=false) m (l[k].map Int.ofNat) t J (by omega) (by rw[Y,QM.2 j.val]<;>rfl) U bg j.uns j.str (by unfold Sm;omega)) ?_;refine f (k32 (alh:=false) (amx:=false) m (l[k].map Int.ofNat) (by omega) (by omega)) ?_;have b3:=part_len (l[k].map Int.ofNat) m;rw[O]
     refine f (Bb _ _ (by unfold Sm;omega) (λs a3=>(dq.re t J.ok s (mem_part.1 a3).1).1)) ?_;simp only[decide_true,bD,Q,kI];refine bq ?_;rw[ba,Q];exact ae trivial
   ·simp only[i,G,a8,A,Q,a,ca,decide_false]
    exact bq (.bool _ _)
theorem fn6(c:aj)(a:List aw)(h:dW c)(g:Sm a)(f:∀d∈a,eO d.ad):∃b,jz a1 G0 6 [.agg (cP aa alh c),eS amx (cF aa) a] [] (.bool ab) b:=by
 obtain⟨j,b,e,i⟩:=k6N aju ajx ajw (alh:=alh) (amx:=amx) c a h g f;cases i
 exact⟨b,e⟩
open Go.Proofs.YtmkbfepnleajhaaGreatDoor Go.Deep Go.ChangeShapes Go.WideShapes Go.ChangeAt Go.RowKit
theorem ajV:∃a,a1.underlying 27=T (.struct a):=by
 simp
theorem Tk:a1.underlying 4=T .bool:=by kernel_rfl
variable{ank:Value}
theorem ajW{W:World}{base:Nat}(b:Value.okWide a1 W .any base 27 ank):∃a,ank=.agg a:=by
 grind[ajV,Value.okWide]
theorem ajX{W:World}{base:Nat}(a:Value.okWide a1 W .any base 28 ank):bU ank.cells=[ank]:=by
 unfold Value.okWide at a;rw[sE]at a;simp only[Cell.okWide,sE,Cell.ok]at a;cases ank<;>first|rfl|grind
theorem ajY(b:Type)(c:TypeId×Value->b)(W:World)(base:Nat)(args:Array Value)(h gs:List (DataW b))(z:List MemPlace)
 (l:∀(x:Nat) g a,Tryz.f6.params[x]?=T g->args[x]?=T a->Value.okWide a1 W .any base g a)
 (j:DataW.Whole c a1 (bU Tryz.f6.params) Rows.snapshotFixedSpec.vars aa W (bU args) h gs z)(O:Rows.uptoSmall b (h++gs)=ab)(G:laidMetH a1 Rows.snapshotFixedUptoRow.laid W):
 Calls a1 6 args W λi p=>∃a,i=.returned a/\Rows.snapshotFixedSpec.post c a1 Tryz.f6 aa ab aa aa W args a p:=by
 have t:=j;have P:=j.lt;obtain⟨ad,a4,s,J,rfl,aQ,aU⟩:=j;have r:DataW.TrodAll c a1 W 0 (λ_=>ab) ab (bU Tryz.f6.params) (bU args) h ad:=s;rw[Tryz.params6]at r l;obtain⟨v0,v1,A,B,ae,af,rfl,rfl,rfl,E,F⟩:=trodAll_two r;obtain⟨rfl,rfl⟩:=trodVars_none J;have K:Rows.uptoBulkAll [A,B]<=1048576:=by
  have:=of_decide_eq_true O;simpa using this
 simp only[Rows.uptoBulkAll]at K;obtain⟨q,rfl⟩:=ajW (l 0 27 v0 rfl rfl);have L:=ajX (l 1 28 v1 rfl rfl);obtain⟨Z,ah⟩:=E;obtain⟨ac,ak⟩:=F;obtain⟨n,w,U⟩:=(ab1 (H:=b) (enc:=c) (w:=W) (sp:=λ_=>ab) (λ_=>rfl) aa aa).2 Z _ _ _ ah (by omega);obtain⟨o,d,Q,V⟩:=(ab3 (H:=b) (enc:=c) (w:=W) (sp:=λ_=>ab) (λ_=>rfl) aa aa).2 ac _ _ _ ak (by omega);rw[L]at d;have I:R (E0 W) (.agg (cP aa aa n)) (.agg q):=by
  have N:∀a∈cP aa aa n,a.bP=true:=by simp[cP,AV.bP,eS]
  refine .agg _ _ w ?_;have one:∀{vs:List AV}{e:List Value},RL (E0 W) vs e->(∀a∈vs,a.bP=ab)->∀m∈e,m.oneCell'=true:=by
   intro vs e f;induction vs generalizing e with
   |nil=>intro _ m X;cases f;simp at X
   |cons a vs a0=>
    cases f with
    |cons _ m _ e Y v=>
     intro k o d;rcases cf.1 d with rfl|d
     ·exact Y.Ab (k _ (by simp))
     grind
  exact one w N
 have aL:R (E0 W) (eS aa (cF aa) o) v1:=by
  cases d with
  |cons _ _ _ _ f _=>exact f
 obtain⟨au,-,M⟩:=fn6 (alh:=false) (amx:=false) n o U (Sm.of Q) V;have k:=M (E0 W) [.agg q,v1] (abE W) (λ_=>rfl) rfl (.cons _ _ _ _ I (by omega)) (ajU (show laidMetH a1 g2.laid W from G));refine k.mono λi p u=>?_;cases i with
 |returned a=>
  obtain⟨ar,rfl,C,-,-,H⟩:=u;obtain rfl:a=.bool true:=by cases H;rfl
  simp only[rP]at t P;refine⟨_,rfl,ajC (i:=ae++af) (j:=[]) t (λ_ _ _=>trodAll_cons_mk (shut_bool Tk _) trodAll_mk0) (λy S=>?_) (λ_ _=>rfl) (by simp) (ajz C _) (by grind[ajB]) (ok_one (by kernel_rfl) rfl (okWide_bool_mk Tk _))⟩;exact Th ajE ajF (λg v=>by rw[Tryz.params6]at v;revert g;decide) s (by grind[ajA]) S
 |_=>exact u.elim
end AM
end Go
