/- The law SnapshotMonotoneUptoCardSaid: part 8 of 9 of the proof. No condition. -/
import Derived.Test.YtmkbfepnleajhaaGreatDoorXg
set_option maxRecDepth 100000
open List renaming length->Z,mem_or_eq_of_mem_set->ak6,set_eq_take_append_cons_drop->alc
open Option renaming some->T,none->D
open Bool renaming true->ab,false->aa,not_eq_true->Kr
open Decidable renaming decide->S
open Array renaming toList->bU
open Go.Proofs.Tryz renaming prog->a1
open Go.Proofs.YtmkbfepnleajhaaGreatDoor.Rows renaming snapshotModelMatchesReferenceUptoRow->g2
open List.Pairwise renaming imp_of_mem->anz
namespace Go
namespace AM
def LeEl(c:aj)(b d e:Int):Prop:=∀a,e8 c b=T a->dK a d.toNat e.toNat=ab
variable{alm:aj}{amG anq:Int}
theorem LeEl.refl:LeEl alm amG anq anq:=λa _=>ad9 a _
def AtF(b:aj)(gs:List aw)(a:aw):Prop:=∃g∈gs,g.aq=a.aq/\g.ad=a.ad/\LeEl b a.aq a.af g.af
def BotF(c:aj)(a:aw):Prop:=∃b,e8 c a.aq=T b/\a.af=fy b []
def CovF(b:aj)(gs:List aw)(a:aw):Prop:=BotF b a\/AtF b gs a
def LeI(c:aj)(b gs:List aw):Prop:=∀a∈b,AtF c gs a
variable{amz:List aw}
theorem LeI.refl:LeI alm amz amz:=λa b=>⟨a,b,rfl,rfl,.refl⟩
theorem LeEl.trans{c d:Int}(h:∀a,e8 alm amG=T a->eF a c=ab)(e:LeEl alm amG anq c)(f:LeEl alm amG c d):LeEl alm amG anq d:=λa b=>by
 obtain⟨i,rfl,g⟩:=qo (h a b);exact aea g (e a b) (f a b)
variable{ann:aw}
theorem AtF.trans{gs:List aw}(i:∀g∈gs,qx alm g)(d:AtF alm gs ann)(e:LeI alm gs amz):AtF alm amz ann:=by
 obtain⟨g,b,a,f,h⟩:=d;obtain⟨k,w1,m,n,c⟩:=e g b;refine⟨k,w1,m.trans a,n.trans f,h.trans (λl j=>i g b l (by rw[a];exact j)) ?_⟩;rw[a]at c;exact c
theorem LeI.trans{gs a:List aw}(f:∀g∈gs,qx alm g)(c:LeI alm amz gs)(d:LeI alm gs a):LeI alm amz a:=λb e=>(c b e).trans f d
variable{anH:bM}
theorem lub0_le(a:eu anH=0)(h:eF anH amG=ab)(c:dK anH amG.toNat (fy anH []).toNat=ab):amG=fy anH []:=by
 obtain⟨i,e,f,g⟩:=aed a;obtain⟨d,rfl,b⟩:=qo h;rw[e]at c⊢;have:=Pj a b f c (g d b);rw[this]
theorem BotF.down(h:uM alm){g:aw}(f:qx alm ann)(i:g.aq=ann.aq)(c:LeEl alm ann.aq ann.af g.af)(e:BotF alm g):BotF alm ann:=by
 obtain⟨b,a,d⟩:=e;rw[i]at a;refine⟨b,a,lub0_le (h b (Bz a)) (f b a) ?_⟩;rw[<-d];exact c b a
theorem CovF.down(c:uM alm){g:aw}(h:qx alm ann)(i:qx alm g)(a:g.aq=ann.aq)(f:g.ad=ann.ad)(d:LeEl alm ann.aq ann.af g.af)(b:CovF alm amz g):CovF alm amz ann:=by
 rcases b with b|⟨j,w1,l,m,e⟩
 ·exact .inl (b.down c h a d)
 ·refine .inr ⟨j,w1,l.trans a,m.trans f,d.trans (λk c=>i k (by rw[a];exact c)) ?_⟩
  rw[a]at e;exact e
theorem CovF.trans{gs:List aw}(c:∀g∈gs,qx alm g)(a:CovF alm gs ann)(b:LeI alm gs amz):CovF alm amz ann:=
 a.imp id λa=>a.trans c b
theorem lub2_le(f:eu anH=0)(t:eF anH amG=ab)(a:eF anH anq=ab):
 eF anH (fy anH [amG,anq])=ab/\dK anH amG.toNat (fy anH [amG,anq]).toNat=ab/\dK anH anq.toNat (fy anH [amG,anq]).toNat=ab/\
 ∀b,eF anH b=ab->dK anH amG.toNat b.toNat=ab->dK anH anq.toNat b.toNat=ab->dK anH (fy anH [amG,anq]).toNat b.toNat=true:=by
 obtain⟨k,rfl,h⟩:=qo t;obtain⟨l,rfl,i⟩:=qo a;obtain⟨j,g,o,p,q⟩:=aec f h i;rw[g];refine⟨Et o,p,q,λb u r s=>?_⟩;obtain⟨w,rfl,v⟩:=qo u;have a:0<=qm (Z anH.au) (dK anH) λc=>S ((c:Int)∈[(k:Int),(l:Int)]):=by
  have d:=Ph f h i;unfold lK at d;simp only[Kw,decide_eq_false_iff_not,Int.not_lt]at d;exact d.2
 obtain⟨c,m,-,-,n⟩:=Pk a;have e:(j:Int)=c:=by
  rw[<-g,<-m];simp_all[fy,Et]
 have e:j=c:=by omega
 subst e;refine n w v λanq _ a=>?_;have a:anq=k\/anq=l:=by simp at a;omega
 rcases a with rfl|rfl
 ·exact r
 ·exact s
theorem addFact_cases(f:aj)(b:List aw)(a:aw):
 (BotF f a/\dp f b a=b)\/(¬BotF f a/\(
  (∃c,∃d:c<Z b,b[c].aq=a.aq/\b[c].ad=a.ad/\(e8 f a.aq=D/\dp f b a=b\/∃g,e8 f a.aq=T g/\dp f b a=b.set c ⟨b[c].aq,b[c].ad,fy g [b[c].af,a.af]⟩))\/
  ((∀e∈b,¬(e.aq=a.aq/\e.ad=a.ad))/\dp f b a=j8 b a))):=by
 have n:∀e:aw,gW a.aq a.ad e=ab<->e.aq=a.aq/\e.ad=a.ad:=by simp[gW]
 have o:b.findIdx? (gW a.aq a.ad)=D->∀e∈b,¬(e.aq=a.aq/\e.ad=a.ad):=λd e t s=>by
  rw[wK]at d;have:=d e t;rw[(n e).2 s]at this;cases this
 have p:∀c,b.findIdx? (gW a.aq a.ad)=T c->∃d:c<Z b,b[c].aq=a.aq/\b[c].ad=a.ad:=λc d=>by
  obtain⟨h,j,-⟩:=nW.1 d;exact⟨h,(n _).1 j⟩
 unfold dp;cases m:e8 f a.aq with
 |none=>
  have i:¬BotF f a:=by rintro⟨g,d,-⟩;rw[m]at d;cases d
  refine .inr ⟨i,?_⟩;cases k:b.findIdx? (gW a.aq a.ad)with
  |none=>exact .inr ⟨o k,by simp⟩
  |some c=>
   obtain⟨h,j,l⟩:=p c k;exact .inl ⟨c,h,j,l,.inl ⟨rfl,by simp⟩⟩
 |some g=>
  by_cases i:a.af=fy g []
  ·exact .inl ⟨⟨g,m,i⟩,by simp[i]⟩
  ·have r:¬BotF f a:=by
    rintro⟨u,d,q⟩;rw[m]at d;cases d;exact i q
   refine .inr ⟨r,?_⟩;simp only[i,if_false];cases k:b.findIdx? (gW a.aq a.ad)with
   |none=>exact .inr ⟨o k,rfl⟩
   |some c=>
    obtain⟨h,j,l⟩:=p c k;exact .inl ⟨c,h,j,l,.inr ⟨g,rfl,by simp only[bC h]⟩⟩
theorem addFact_up(g:uM alm)(s:∀h∈amz,qx alm h)(r:qx alm ann):LeI alm amz (dp alm amz ann)/\CovF alm (dp alm amz ann) ann:=by
 rcases addFact_cases alm amz ann with⟨n,a⟩|⟨n,⟨k,f,a,e,⟨b,i⟩|⟨d,b,i⟩⟩|⟨a,e⟩⟩
 ·rw[a];exact⟨.refl,.inl n⟩
 ·rw[i]
  refine⟨.refl,.inr ⟨amz[k],bs f,a,e,λd g=>?_⟩⟩;rw[b]at g;cases g
 ·rw[i]
  have q:eF d amz[k].af=true:=s _ (bs f) d (by rw[a];exact b);obtain⟨v,o,p,-⟩:=lub2_le (g d (Bz b)) q (r d b);refine⟨λh j=>?_,.inr ⟨_,List.mem_set f _,a,e,λu c=>?_⟩⟩
  ·obtain⟨l,t,rfl⟩:=jS.1 j
   by_cases m:k=l
   ·subst m
    refine⟨_,List.mem_set f _,rfl,rfl,λu c=>?_⟩;rw[a,b]at c;cases c;exact o
   ·refine⟨amz[l],?_,rfl,rfl,.refl⟩
    refine jS.2 ⟨l,by simpa using t,?_⟩;rw[List.getElem_set_ne m]
  ·rw[b]at c;cases c
   exact p
 ·rw[e]
  exact⟨λh j=>⟨h,H6.2 (.inr j),rfl,rfl,.refl⟩,.inr ⟨ann,H6.2 (.inl rfl),rfl,rfl,.refl⟩⟩
theorem addFact_least(B:uM alm){gs:List aw}(x:fY gs)(z:∀e∈amz,qx alm e)(A:∀e∈gs,qx alm e)(y:qx alm ann)(f:LeI alm amz gs)(o:CovF alm gs ann):LeI alm (dp alm amz ann) gs:=by
 rcases addFact_cases alm amz ann with⟨j,b⟩|⟨j,⟨m,p,b,k,⟨a,l⟩|⟨d,a,l⟩⟩|⟨b,k⟩⟩
 ·rw[b];exact f
 ·rw[l];exact f
 ·rw[l]
  intro e c;rcases ak6 c with c|rfl
  ·exact f e c
  ·obtain⟨g,u,n,v,w⟩:=o.resolve_left j
   obtain⟨i,w1,q,r,E⟩:=f amz[m] (bs p);have s:i=g:=Pr x i w1 g u (by rw[q,n,b]) (by rw[r,v,k]);subst s;refine⟨i,w1,q,r,λC h=>?_⟩;have h:e8 alm amz[m].aq=T C:=h;rw[b,a]at h;cases h;have t:eF d amz[m].af=true:=z _ (bs p) d (by rw[b];exact a);exact(lub2_le (B d (Bz a)) t (y d a)).2.2.2 _ (A i w1 d (by rw[n];exact a)) (E d (by rw[b];exact a)) (w d a)
 ·rw[k]
  intro e c;rcases H6.1 c with rfl|c
  ·exact o.resolve_left j
  ·exact f e c
theorem unionF_up(h:uM alm):∀(a:List aw){c:List aw},(∀d∈c,qx alm d)->(∀d∈a,qx alm d)->LeI alm c (jm alm c a)/\∀e∈a,CovF alm (jm alm c a) e
 |[],c,_,_=>⟨.refl,by simp⟩
 |b::a,c,i,g=>by
  have f:=(Eu h i (g b (by simp))).2;obtain⟨l,m⟩:=addFact_up h i (g b (by simp));obtain⟨j,n⟩:=unionF_up h a f λd o=>g d (by simp[o]);have k:jm alm c (b::a)=jm alm (dp alm c b) a:=rfl;rw[k];refine⟨l.trans f j,λe hf=>?_⟩;rcases cf.1 hf with rfl|hf
  ·exact m.trans f j
  ·exact n e hf
theorem unionF_least(h:uM alm){gs:List aw}(j:fY gs)(k:∀a∈gs,qx alm a):∀(c:List aw){d:List aw},(∀a∈d,qx alm a)->(∀a∈c,qx alm a)->LeI alm d gs->(∀f∈c,CovF alm gs f)->LeI alm (jm alm d c) gs
 |[],d,_,_,e,_=>e
 |b::c,d,e,g,l,i=>unionF_least h j k c (Eu h e (g b (by simp))).2 (λa n=>g a (by simp[n]))
  (addFact_least h j e k (g b (by simp)) l (i b (by simp))) λf m=>i f (by simp[m])
def SimE(f:aj)(e:Int)(a b:aX):Prop:=b.ax=a.ax/\b.bl=a.bl/\b.m=a.m/\∃c:List (Int×Int),a.au=c.map Prod.fst/\b.au=c.map Prod.snd/\∀d∈c,LeEl f e d.1 d.2
variable{amY anV:aX}
theorem getE_sim(b:anV.ax=amY.ax)(c:anV.bl=amY.bl)(a:aM):bW anV a=bW amY a:=by
 unfold bW;rw[b,c]
theorem tupE_sim(b:anV.ax=amY.ax)(c:anV.bl=amY.bl)(a:List aM):eG anV a=eG amY a:=by
 unfold eG;simp only[getE_sim b c]
theorem putV_sim(c:SimE alm amG amY anV)(a:aM)(b:aO):SimE alm amG (fT amY a b) (fT anV a b):=by
 obtain⟨d,e,f,g⟩:=c;exact⟨by simp[fT,d],by simp[fT,e],by simp[fT,f],g⟩
theorem withE_sim{i:aj}{h:Int}:∀(c:List aM)(vs:List aO){e d f:aX},SimE i h e d->hU e c vs=T f->∃j,hU d c vs=T j/\SimE i h f j
 |[],vs,e,d,f,b,a=>by
  simp only[hU,eK]at a⊢;subst a;exact⟨d,rfl,b⟩
 |t::c,[],e,d,f,b,a=>by simp[hU]at a
 |t::c,l::vs,e,d,f,b,a=>by
  rw[hU]at a;rw[hU,getE_sim b.1 b.2.1];split at a
  ·rename_i g
   rw[if_pos g];split at a
   ·rename_i k
    rw[if_pos k];exact withE_sim c vs b a
   ·cases a
  ·rename_i g
   rw[if_neg g];exact withE_sim c vs (putV_sim b t l) a
theorem bindE_sim(c:SimE alm amG amY anV)(a:Lit){b:Int}(k:a.bind≠[]->LeEl alm amG anq b):SimE alm amG (jq amY a anq) (jq anV a b):=by
 unfold jq;split
 ·exact c
 ·rename_i j
  obtain⟨d,e,f,n,g,h,i⟩:=c;refine⟨d,e,by simp[f],n++[(anq,b)],by simp[g],by simp[h],?_⟩;simp only[c5,lV];rintro m (l|rfl)
  ·exact i m l
  ·exact k j
theorem eqE_sim(a:SimE alm amG amY anV)(b:Lit):SimE alm amG (g7 amY b) (g7 anV b):=by
 unfold g7;split
 ·rename_i c d _
  simp only[getE_sim a.1 a.2.1];split
  ·split
   ·exact putV_sim a _ _
   ·split
    ·exact putV_sim a _ _
    ·exact a
  ·exact a
 ·exact a
def Agr(b:Int)(c gs:List aw):Prop:=c.filter (λa=>a.aq==b)=gs.filter (λa=>a.aq==b)
theorem Agr.find{gs:List aw}(c:Agr amG amz gs)(args:List aO):amz.find? (gW amG args)=gs.find? (gW amG args):=by
 have key:∀b:List aw,b.find? (gW amG args)=(b.filter λa=>a.aq==amG).find? (gW amG args):=by
  intro b;rw[List.find?_filter]
  congr 1
  funext a
  unfold gW;cases a.aq==amG<;>simp
 rw[key amz,key gs,c]
theorem leqP_mono{h e:Int}(a:sg alm amG anq h=ab)(n:∀c,e8 alm amG=T c->eF c e=ab)(k:LeEl alm amG h e)(l:e8 alm amG≠D):sg alm amG anq e=true:=by
 obtain⟨c,b⟩:=Option.ne_none_iff_exists'.1 l;have i:=k c b;have j:=n c b;unfold sg at a⊢;unfold e8 at b;cases g:alm.d[amG.toNat]? with
 |none=>rw[g]at a;cases a
 |some o=>
  rw[g]at a b;simp only at a b⊢;by_cases f:o.of<0
  ·rw[if_pos f]at b;cases b
  ·rw[if_neg f]at b
   rw[b]at a⊢;simp only[ox,bG,beq_iff_eq]at a⊢;obtain⟨p,rfl,m⟩:=qo a.1.2;exact⟨⟨⟨a.1.1.1,a.1.1.2⟩,j⟩,aea m a.2 i⟩
variable{amM:aG}{anr:Lit}
theorem ext_mono(q:PJ alm amM anr){gs:List aw}(v:∀g∈gs,qx alm g)(w:LeI alm amz gs)(p:pc anr=ab->Agr anr.aq amz gs){r:aX}(e:SimE alm amM.aq amY anV)(b:r∈e5 alm amz amY anr):
 ∃G∈e5 alm gs anV anr,SimE alm amM.aq r G:=by
 unfold e5 at b⊢;by_cases c:(anr.ak==1||anr.ak==3)=ab
 ·rw[if_pos c]at b⊢
  obtain⟨s,f,b⟩:=yj.1 b;obtain⟨f,a⟩:=tF.1 f;obtain⟨g,m,n,t,o⟩:=w s f;unfold nJ at b;obtain⟨H,y,rfl⟩:=dg.1 b;obtain⟨E,z,d⟩:=withE_sim _ _ e y;unfold j9 at a;simp only[bG,beq_iff_eq,kg,bne_iff_ne,ne_eq]at a;refine⟨jq E anr g.af,yj.2 ⟨g,tF.2 ⟨m,?_⟩,?_⟩,bindE_sim d anr λu=>?_⟩
  ·unfold j9
   simp only[bG,beq_iff_eq,kg,bne_iff_ne,ne_eq];refine⟨n.trans a.1,?_⟩;by_cases k:anr.ak=3
   ·obtain⟨A,x,-⟩:=q.gN (.inl k)
    refine .inr (leqP_mono (a.2.resolve_left λe=>e k) (λi h=>v g m i (by rw[n,a.1];exact h)) ?_ (by rw[x];simp));rw[<-a.1];exact o
   ·exact .inl k
  ·unfold nJ
   rw[t,z]<;>rfl
  ·obtain⟨-,-,A,B,C⟩:=q.bind u
   intro i h;refine o i ?_;rw[a.1,B,<-C,h]
 ·rw[if_neg c]at b⊢
  split at b
  ·rename_i a
   have d:=eqE_sim e anr;simp only[lV]at b;subst b;refine⟨g7 anV anr,?_,d⟩;rw[if_pos]
   ·simp
   ·simp only[kg,beq_iff_eq,not_or]at c
    unfold pe at a⊢;rw[tupE_sim d.1 d.2.1];rw[if_neg c.1]at a⊢;by_cases j:anr.ak=2
    ·rw[if_pos j]at a⊢
     rw[<-(p (by simp[pc,j])).find];exact a
    ·rw[if_neg j]at a⊢
     by_cases l:(anr.ak==3||anr.ak==4)=ab
     ·rw[if_pos l]at a⊢
      have F:anr.ak=4:=by simpa[c.2]using l
      unfold tb at a⊢;rw[<-(p (by simp[pc,F])).find];exact a
     ·rw[if_neg l]at a⊢
      exact a
  ·cases b
theorem dfs_mono{c:aj}{q:aG}{l gs:List aw}(m:∀g∈gs,qx c g)(n:LeI c l gs){d:List Lit}(p:∀b∈d,PJ c q b)(o:∀b∈d,pc b=ab->Agr b.aq l gs):
 ∀(e:List Nat){h f k:aX},SimE c q.aq h f->k∈kY c l d e h->∃r∈kY c gs d e f,SimE c q.aq k r
 |[],h,f,k,j,a=>by
  simp only[kY,lV]at a⊢;subst a;exact⟨f,rfl,j⟩
 |i::e,h,f,k,j,a=>by
  rw[kY]at a⊢;split at a
  ·rename_i b t
   have s:b∈d:=sG t;obtain⟨A,w,a⟩:=TJ.1 a;obtain⟨z,x,u⟩:=ext_mono (p b s) m n (o b s) j w;obtain⟨r,y,v⟩:=dfs_mono m n p o e u a;exact⟨r,TJ.2 ⟨z,x,y⟩,v⟩
  ·exact dfs_mono m n p o e j a
def MonP(b:aj):Prop:=∀a∈b.ah,0<=a.aq->a.af.ak=3->∀d,e8 b a.aq=T d->∀c,b.aW[a.af.aQ.toNat]?=T c->pb d c.gM=ab
theorem latE_sim(b:SimE alm amG amY anV)(a:k):LeEl alm amG (jO amY a) (jO anV a):=by
 obtain⟨-,-,c,j,d,e,f⟩:=b;unfold jO;rw[c,d,e];split
 ·rename_i h _
  simp only[oM,zS];cases g:j[h]? with
  |none=>exact .refl
  |some i=>exact f i (sG g)
 ·exact .refl
theorem head_mono(m:MonP alm)(n:amM∈alm.ah)(o:zl alm amM)(g:0<=amM.aq)(b:SimE alm amM.aq amY anV)(k:amM.af.ak=3->∀a,e8 alm amM.aq=T a->eF a (jO amY amM.af.aB)=ab/\eF a (jO anV amM.af.aB)=ab):
 (iR alm amM anV).aq=(iR alm amM amY).aq/\(iR alm amM anV).ad=(iR alm amM amY).ad/\LeEl alm (iR alm amM amY).aq (iR alm amM amY).af (iR alm amM anV).af:=by
 refine⟨rfl,tupE_sim b.1 b.2.1 _,?_⟩;show LeEl alm amM.aq (nI alm amM amY) (nI alm amM anV);unfold nI;split
 ·exact .refl
 ·split
  ·exact latE_sim b _
  ·split
   ·rename_i c
    intro a d;obtain⟨e,x,f,y,u,v,w⟩:=o.fn g c;have i:=m amM n g c a d alm.aW[e] (by rw[f];simp);obtain⟨p,q⟩:=k c a d;have h:=latE_sim b amM.af.aB a d;obtain⟨r,j,s⟩:=qo p;obtain⟨t,v1,v2⟩:=qo q;have l:alm.aW[amM.af.aQ.toNat]?=T alm.aW[e]:=by rw[f];simp
    rw[l,j,v1];rw[j,v1]at h;simp only[pb,bG,fi,la,kg,jt]at i;exact(i.2 r s t v2).resolve_left (by simpa using h)
   ·exact .refl
variable{amW:List aO}
theorem heads_mono(d:ti alm amW)(y:MonP alm){gs:List aw}(p:dq alm amW amz)(i:dq alm amW gs)(x:LeI alm amz gs)(b:amM∈alm.ah)(v:0<=amM.aq)(z:∀r∈amM.ae,pc r=ab->Agr r.aq amz gs):
 ∀a∈tg alm amz amM,∃g∈tg alm gs amM,g.aq=a.aq/\g.ad=a.ad/\LeEl alm a.aq a.af g.af:=by
 intro a w;obtain⟨o,h,rfl⟩:=du.1 w;have e:=d.hG amM b;have j:=d.safe amM b;have v1:=Ii e j (p.meet d b) (λa c=>(p.ok a c).af) o h;simp only[uD,bG]at j;obtain⟨C,q⟩:=rM.1 j.1.1;rw[PI q]at h;obtain⟨f,k,B⟩:=dfs_mono (c:=alm) (q:=amM) (λg c=>(i.ok g c).af) x e.lits z C (h:=e0) (f:=e0) ⟨rfl,rfl,rfl,[],rfl,rfl,by simp⟩ h;rw[<-PI q]at k;have v2:=Ii e (d.safe amM b) (i.meet d b) (λa c=>(i.ok a c).af) f k
 refine⟨iR alm amM f,du.2 ⟨f,k,rfl⟩,head_mono y b e v B λs E A=>?_⟩;obtain⟨F,l,t⟩:=v1.au _ (Ez v1.zm (v1.m (.inr s)));obtain⟨G,n,u⟩:=v2.au _ (Ez v2.zm (v2.m (.inr s)));rw[A]at l n;cases l;cases n
 exact⟨t,u⟩
variable{anS:List Int}
theorem stepR_least(e:ti alm amW){gs:List aw}(f:dq alm amW amz)(g:dq alm amW gs):∀(c:List aG)(_:∀r∈c,r∈alm.ah){out:List aw},dq alm amW out->LeI alm out gs->
 (∀r∈c,th anS r=ab->∀m∈tg alm amz r,CovF alm gs m)->LeI alm (c.foldl (mb alm anS amz) out) gs
 |[],_,out,_,d,_=>d
 |r::c,j,out,k,d,i=>by
  have l:=j r (by simp);rw[oJ];refine stepR_least e f g c (λb a=>j b (by simp[a])) (EB e f anS [r] (by simpa using l) k).1 ?_ λb a=>i b (by simp[a]);unfold mb;split
  ·rename_i h
   have n:0<=r.aq:=by
    simp only[th,bG,decide_eq_true_eq]at h;exact h.1
   exact unionF_least e.aV g.fz (λb a=>(g.ok b a).af) _ (λb a=>(k.ok b a).af) (λb a=>(PQ e f l n b a).af) d (i r (by simp) h)
  ·exact d
theorem stepR_up(f:ti alm amW)(g:dq alm amW amz):∀(e:List aG)(_:∀r∈e,r∈alm.ah){out:List aw},dq alm amW out->
 LeI alm out (e.foldl (mb alm anS amz) out)/\∀r∈e,th anS r=ab->∀d∈tg alm amz r,CovF alm (e.foldl (mb alm anS amz) out) d
 |[],_,out,_=>⟨.refl,by simp⟩
 |r::e,l,out,m=>by
  have o:=l r (by simp);have n:dq alm amW (mb alm anS amz out r):=(EB f g anS [r] (by simpa using o) m).1;obtain⟨h,s⟩:=stepR_up f g e (λb a=>l b (by simp[a])) n;rw[oJ];have j:∀b∈mb alm anS amz out r,qx alm b:=λb a=>(n.ok b a).af;have i:LeI alm out (mb alm anS amz out r)/\(th anS r=ab->∀d∈tg alm amz r,CovF alm (mb alm anS amz out r) d):=by
   unfold mb;split
   ·rename_i c
    have q:0<=r.aq:=by
     simp only[th,bG,decide_eq_true_eq]at c;exact c.1
    have:=unionF_up f.aV (tg alm amz r) (λb a=>(m.ok b a).af) (λb a=>(PQ f g o q b a).af);exact⟨this.1,λ_=>this.2⟩
   ·rename_i c
    exact⟨.refl,λp=>absurd p c⟩
  refine⟨i.1.trans j h,λb a c d k=>?_⟩;rcases cf.1 a with rfl|a
  ·exact(i.2 c d k).trans j h
  ·exact s b a c d k
theorem step_least(f:ti alm amW){gs:List aw}(b:dq alm amW amz)(e:dq alm amW gs)(a:∀d∈alm.ah,th anS d=ab->∀c∈tg alm amz d,CovF alm gs c):LeI alm (nK alm anS amz) gs:=
 stepR_least f b e alm.ah (λ_ a=>a) (.nil alm amW) (by intro c b;cases b) a
theorem step_up(e:ti alm amW)(d:dq alm amW amz):∀a∈alm.ah,th anS a=ab->∀b∈tg alm amz a,CovF alm (nK alm anS amz) b:=
 (stepR_up e d alm.ah (λ_ c=>c) (.nil alm amW)).2
theorem inC_pos(a:th anS amM=ab):0<=amM.aq:=by
 simp only[th,bG,decide_eq_true_eq]at a;exact a.1
theorem cnt_le{gs:List aw}(a:fY amz)(k:LeI alm amz gs)(d:Int):fS amz d<=fS gs d:=by
 have l:((amz.filter λb=>b.aq==d).map aw.ad).Nodup:=by
  rw[List.nodup_iff_pairwise_ne,TQ];refine anz (R:=(· ≠·)) (λ{f p} c e o n=>o ?_) ((aen a).filter _);have c:=tF.1 c;have e:=tF.1 e;exact Pr a f c.1 p e.1 (by simp_all) n
 have m:=BA l (a:=(gs.filter λb=>b.aq==d).map aw.ad) λf c=>by
  obtain⟨b,a,rfl⟩:=du.1 c;have a:=tF.1 a;obtain⟨g,h,i,j,-⟩:=k b a.1;exact du.2 ⟨g,tF.2 ⟨h,by simpa[i]using a.2⟩,j⟩
 simpa[fS]using m
theorem over_le{gs:List aw}(e:fY amz)(d:LeI alm amz gs)(f:jP gs=aa):jP amz=false:=by
 unfold jP;rw[<-Kr,FE];rintro⟨a,b,c⟩;have b:a<Z amz:=by simpa using b
 rw[si,bC b]at c;simp only[decide_eq_true_eq]at c;have g:=aej f amz[a].aq;have h:=cnt_le e d amz[a].aq;have i:fS (amz.take (a+1)) amz[a].aq<=fS amz amz[a].aq:=by
  unfold fS;exact List.Sublist.length_le ((List.take_sublist _ _).filter _)
 omega
theorem unionF_agr{d:aj}:∀(f:List aw){a:List aw},(∀c∈f,c.aq≠amG)->Agr amG (jm d a f) a
 |[],_,_=>rfl
 |b::f,a,k=>by
  have o:=unionF_agr (d:=d) f (a:=dp d a b) λc q=>k c (by simp[q]);have m:=k b (by simp);refine o.trans ?_;rcases addFact_cases d a b with⟨-,i⟩|⟨-,⟨e,n,i,l,⟨p,j⟩|⟨r,p,j⟩⟩|⟨-,l⟩⟩
  ·rw[i]
  ·rw[j]
  ·rw[j]
   have g:¬(a[e].aq==amG)=true:=by rw[i];simpa using m
   have h:a.filter (λc=>c.aq==amG)=(a.take e).filter (λc=>c.aq==amG)++(a.drop (e+1)).filter (λc=>c.aq==amG):=by
    conv=>lhs;rw[<-vg e a,mQ n,Ty,List.filter_cons_of_neg (p:=λc:aw=>c.aq==amG) g]
   rw[h,alc,if_pos n,Ty,List.filter_cons_of_neg (p:=λc:aw=>c.aq==amG) (a:=⟨a[e].aq,a[e].ad,fy r [a[e].af,b.af]⟩) g]
  ·rw[l]
   have g:¬(b.aq==amG)=true:=by simpa using m
   have h:a.filter (λc=>c.aq==amG)=(a.take (kA a b (Z a))).filter (λc=>c.aq==amG)++(a.drop (kA a b (Z a))).filter (λc=>c.aq==amG):=by
    conv=>lhs;rw[<-vg (kA a b (Z a)) a,Ty]
   unfold j8;rw[h,Ty,List.filter_cons_of_neg (p:=λc:aw=>c.aq==amG) g]
theorem step_pred:∀a∈nK alm anS amz,a.aq∈anS:=by
 have key:∀(f:List aG){out:List aw},(∀a∈out,a.aq∈anS)->∀a∈f.foldl (mb alm anS amz) out,a.aq∈anS:=by
  intro f;induction f with
  |nil=>intro out b;exact b
  |cons j f e=>
   intro out b;rw[oJ];refine e ?_;unfold mb;split
   ·rename_i i
    have m:j.aq∈anS:=by
     simp only[th,bG,List.contains_iff_mem]at i;exact i.2
    have h:∀a∈tg alm amz j,a.aq∈anS:=λa c=>by
     obtain⟨k,-,rfl⟩:=du.1 c;exact m
    generalize tg alm amz j=d at h;clear e i;induction d generalizing out with
    |nil=>exact b
    |cons g d e=>
     have k:jm alm out (g::d)=jm alm (dp alm out g) d:=rfl;rw[k];refine e ?_ λa c=>h a (by simp[c]);exactλa c=>Pf (M:=alm) (b:=λl _=>l∈anS) b (h g (by simp)) a c
   ·exact b
 exact key alm.ah (by simp)
def NegA(e:aj)(b:List Int)(d gs:List aw):Prop:=∀c∈e.ah,th b c=ab->∀a∈c.ae,pc a=ab->a.aq∉b/\Agr a.aq d gs
theorem next_agr(c:amG∉anS):Agr amG (iG alm anS amz) amz:=
 unionF_agr _ λb d a=>c (a▸step_pred b d)
theorem NegA.next{gs:List aw}(a:NegA alm anS amz gs):NegA alm anS (iG alm anS amz) gs:=λg e c f d b=>
 ⟨(a g e c f d b).1,(next_agr (a g e c f d b).1).trans (a g e c f d b).2⟩
theorem fix_le(a:ti alm amW){gs:List aw}(c:dq alm amW gs)(q:iG alm anS gs=gs):∀d∈alm.ah,th anS d=ab->∀b∈tg alm gs d,CovF alm gs b:=by
 intro d l k b j;have m:=(EC a c anS).1;have e:=step_up a c d l k b j;rw[<-q];have r:=unionF_up a.aV (nK alm anS gs) (λh f=>(c.ok h f).af) λh f=>(m.ok h f).af;rcases e with e|⟨g,i,n,o,p⟩
 ·exact .inl e
 ·exact(r.2 g i).down a.aV (PQ a c l (inC_pos k) b j).af (m.ok g i).af n o p
theorem next_le(a:ti alm amW)(r:MonP alm){gs:List aw}(c:dq alm amW amz)(d:dq alm amW gs)(m:LeI alm amz gs)(s:NegA alm anS amz gs)(b:∀f∈alm.ah,th anS f=ab->∀i∈tg alm gs f,CovF alm gs i):LeI alm (iG alm anS amz) gs:=by
 have t:=(EC a c anS).1;refine unionF_least a.aV d.fz (λh b=>(d.ok h b).af) _ (λh b=>(c.ok h b).af) (λh b=>(t.ok h b).af) m λi p=>.inr ?_;refine step_least a c d (λf e k g l=>?_) i p;have j:=inC_pos k;obtain⟨n,w1,v,w,x⟩:=heads_mono a r c d m e j (λu q o=>(s f e k u q o).2) g l;exact(b f e k n w1).down a.aV (PQ a c e j g l).af (PQ a d e j n w1).af v w x
variable{aeh:Nat}
theorem runC_le(d:ti alm amW)(h:MonP alm){b:Option (List aw)}(a:sn alm anS aeh amz b){gs:List aw}(c:dq alm amW amz)(g:dq alm amW gs)(e:LeI alm amz gs)(m:jP gs=aa)(f:NegA alm anS amz gs)(i:∀b∈alm.ah,th anS b=ab->∀k∈tg alm gs b,CovF alm gs k):
 ∃out,b=T out/\LeI alm out gs:=by
 induction a with
 |over aeh amz a=>
  have l:=next_le d h c g e f i;rw[over_le (Il d c anS).1.fz l m]at a;cases a
 |stop aeh amz a j=>exact⟨amz,rfl,e⟩
 |next aeh amz b a j o n=>exact n (Il d c anS).1 (next_le d h c g e f i) f.next
theorem runC_end(g:ti alm amW){h:Option (List aw)}(a:sn alm anS aeh amz h)(e:dq alm amW amz):∀gs,h=T gs->dq alm amW gs/\LeI alm amz gs/\jP gs=aa/\iG alm anS gs=gs:=by
 induction a with
 |over aeh amz a=>intro gs b;cases b
 |stop aeh amz a b=>
  intro gs f;cases f
  exact⟨e,.refl,by rw[b]at a;exact a,b⟩
 |next aeh amz h a b p o=>
  intro gs f;have i:=(Il g e anS).1;obtain⟨j,k,l⟩:=o i gs f;have n:=(EC g e anS).1;have m:=(unionF_up g.aV (nK alm anS amz) (λd c=>(e.ok d c).af) λd c=>(n.ok d c).af).1;exact⟨j,m.trans (λd c=>(i.ok d c).af) k,l⟩
theorem runM_le(f:ti alm amW)(p:MonP alm)(x:∀b∈alm.ah,∀q∈b.ae,pc q=aa):∀(i:List (List Int)){d gs:List aw}{b l:Option (List aw)},ra alm i d b->ra alm i gs l->dq alm amW d->dq alm amW gs->LeI alm d gs->
 ∀g,l=T g->∃out,b=T out/\LeI alm out g
 |[],d,gs,b,l,a,e,_,_,o=>by
  cases a;cases e
  intro g j;cases j
  exact⟨d,rfl,o⟩
 |c::i,d,gs,b,l,a,e,n,u,o=>by
  intro g j;cases e with
  |none _ _ F _ e=>cases j
  |cons _ _ F _ s _ e I=>
   obtain⟨h,y,r,z⟩:=runC_end f e u s rfl;have v:=o.trans (λJ k=>(u.ok J k).af) y;have k:=fix_le f h z;have w:NegA alm c d s:=λb E _ q C t=>by rw[x b E q C]at t;cases t
   cases a with
   |none _ _ G _ a=>
    obtain⟨out,m,-⟩:=runC_le f p a n h v r w k;cases m
   |cons _ _ G _ B _ a H=>
    obtain⟨out,m,A⟩:=runC_le f p a n h v r w k;cases m
    exact runM_le f p x i H I (runC_end f a n B rfl).1 h A g j
theorem runM_ok(i:ti alm amW):∀{g:List (List Int)}{b:List aw}{e:Option (List aw)},ra alm g b e->dq alm amW b->∀gs,e=T gs->dq alm amW gs/\LeI alm b gs
 |[],b,e,a,f=>by cases a;intro gs d;cases d;exact⟨f,.refl⟩
 |c::g,b,e,a,f=>by
  intro gs d;cases a with
  |none _ _ o _ a=>cases d
  |cons _ _ o _ j _ a p=>
   obtain⟨h,k,-,-⟩:=runC_end i a f j rfl;obtain⟨l,m⟩:=runM_ok i p h gs d;exact⟨l,k.trans (λq n=>(h.ok q n).af) m⟩
theorem fn_mono(g:nN alm):∀b∈alm.aW,∃d,alm.m[b.of.toNat]?=T d/\0<=b.of/\pb d b.gM=true:=by
 intro b h;have f:=JR (congrArg aj.aW g.2.2.2) b h;obtain⟨c,i,rfl⟩:=jS.1 h;have a:=g.2.1;simp only[po,bG,fi,la]at a;have a:=a.1.2 c i;rw[oz,bC i]at a;simp only[bG]at a;obtain⟨a,-⟩:=a;split at a
 ·rename_i d j
  simp only[bG,decide_eq_true_eq]at a;have e:alm.aW[c].of=dz alm alm.aW[c].aV:=(congrArg Fn.of f).symm;have k:alm.aW[c].gM=fe d alm.aW[c]:=by
   refine(congrArg Fn.gM f).symm.trans ?_;simp only[eQ,j,if_pos a]
  refine⟨d,by rw[e];exact j,by rw[e];exact a.1,?_⟩;rw[k];have:=a.2;simp only[e9,bG]at this;exact this.2
 ·cases a
theorem mon_of(e:nN alm):MonP alm:=by
 intro a q H o I g F n;have B:alm.aW=alm.aW.map (eQ alm):=congrArg aj.aW e.2.2.2;have C:alm.d=alm.d.map (en alm):=congrArg aj.d e.2.2.2;have v:=congrArg aj.ah e.2.2.2;have y:dT alm []=⟨alm.m,alm.aW,alm.d,[]⟩:=by
  show(⟨alm.m,alm.aW.map (eQ alm),alm.d.map (en alm),[]⟩:aj)=_;grind
 have j:=JR v a q;obtain⟨l,-,-⟩:=e.2.2.1 a q;rw[y]at j l;have E:a.aq=kE ⟨alm.m,alm.aW,alm.d,[]⟩ a:=(congrArg aG.aq j).symm;have w:a.af.aQ=oA ⟨alm.m,alm.aW,alm.d,[]⟩ a:=(congrArg (λb:aG=>b.af.aQ) j).symm;have p:a.ar≠[]:=by grind[kE]
 obtain⟨f,k,A,-,-,-,-,r⟩:=IM l p;obtain⟨b,h,s,i⟩:=r o;have k:f<Z alm.d:=k;have h:b<Z alm.aW:=h;have t:a.af.aQ=b:=by rw[w,oA,if_neg p,if_neg (by omega),if_pos o,s]
 have u:a.aq=f:=by grind[kE]
 rw[t,ej,bC h]at n;cases n
 obtain⟨z,c,G,x⟩:=fn_mono e alm.aW[b] (bs h);rw[u,yf,JT k]at g;split at g
 ·cases g
 ·have i:alm.aW[b].of=alm.d[f].of:=i
  rw[i]at c;have c:alm.m[alm.d[f].of.toNat]?=T z:=c;rw[g]at c;cases c
  exact x
theorem dq.dom'{d:List aO}(b:dq alm amW amz)(e:∀a∈amz,∀f∈a.ad,f∈d):dq alm d amz:=
 ⟨b.fz,λa c=>⟨(b.ok a c).fJ,e a c,(b.ok a c).af,(b.ok a c).none⟩⟩
theorem LeI.fB{gs:List aw}(e:LeI alm amz gs):∀a∈amz,∀b∈a.ad,b∈pa alm gs:=λa f b h=>by
 obtain⟨g,c,-,d,-⟩:=e a f;exact aiV c (d▸h)
def atMostB(c:aj)(d b:List aw):Bool:=d.all λa=>S (0<=sf b a.aq a.ad)&& !(S (0<=hK c a.aq)&& !sg c a.aq a.af ((b[(sf b a.aq a.ad).toNat]?.map aw.af).getD 0))
theorem atMost_le(x:uM alm)(y:kz alm){b:List aw}(l:dq alm amW amz)(n:dq alm amW b)(u:LeI alm amz b):atMostB alm amz b=true:=by
 unfold atMostB;rw[fi];intro a f;obtain⟨g,j,k,s,t⟩:=u a f;obtain⟨p,o,rfl⟩:=jS.1 j;have w:gW a.aq a.ad b[p]=true:=by simp[gW,k,s]
 have r:=adU n.fz o w;rw[r,ej,bC o];simp only[iA,oK];have v:(0:Int)<=p:=by omega
 simp only[v,decide_true,cu,jt,KA,decide_eq_false_iff_not,Ko];by_cases z:0<=hK alm a.aq
 ·refine .inr ?_
  obtain⟨q,c,e,-⟩:=(l.ok a f).fJ;have A:=y _ (bs c);rw[e,JT c]at z;have h:alm.d[q].of.toNat<Z alm.m:=by omega
  have i:e8 alm a.aq=T alm.m[alm.d[q].of.toNat]:=by
   rw[yf,e,JT c,if_neg (by omega),bC h]
  unfold sg;rw[e,ej,bC c];simp only;rw[bC h];simp only[ox,bG,beq_iff_eq];refine⟨⟨⟨x _ (bs h),(l.ok a f).af _ i⟩,(n.ok _ j).af _ (by rw[k];exact i)⟩,t _ i⟩
 ·exact .inl (by omega)
open Go.Proofs
variable{ael ali amD:AV}
theorem r8N:aF 8 [ael,ali,amD] 0x7100102a0fe00102370324e610e415e0eeb0007100102a0fe00102c0001021316e10e06d050eeb4100102c0001021216e10e0516e05b111ce001ce80217e6b415e111ce001cea0217e67415e00674017e1021fe64415e650326e23e2415e00174100102c000102c0001020125e67415e10e017e8021fe64415e10e017e4021fe61415eb0c60414e [] [ael,ali,amD]:=
 ru Tryz.func8 (am 0x80001008001fcf 0x80001008000000) [32]
theorem r25:aF 25 [ael] 0x7100102a000102a00010240d080147e67415e0ee01d05080146e62415e0ee0130e60415eb0414e [] [ael]:=
 ru Tryz.func25 (am 7 0) []
theorem r31:aF 31 [ael,ali] 0x122007c0007202711e00974017e014721e4a0321e7234029780fe05a0007a4100102c000102c000102017ea021ae67415e10e017e0119e64415e10e017e0413d6bb8f50415eb0414e [] [ael,ali]:=
 ru Tryz.func31 (am 0x2001100037 0x2001100000) []
theorem r36:aF 36 [ael,ali,amD] 0x122007c000a202a11e00c74100102c00d102000102017e012323e6814e2321ed12e2321e3041fe0ee030eeb12be10ea39b013721e7c0321e92301b357e6491321e380321e4029680fe05a0414e [] [ael,ali,amD]:=
 ru Tryz.func36 (am 0x40000000000023cf 0x4000000000002000) []
theorem r37:aF 37 [ael] 0x122067005322005212a11e0009202911e0007c40158e67091feb07921ed33404908707921e9330fe4039084330fe05a0414e [] [ael]:=
 ru Tryz.func37 (am 0x10010021f 0x100100200) []
def FactsV(c:List Obj)(b:AV)(a:List aw):Prop:=lN c b a\/∃d,b=eS d (cF aa) a
variable{ae6:List Obj}
theorem FactsV.g3(a:FactsV ae6 ael amz):ael.pl=ael/\∃b,aI ae6 .cm ael.pl (eS b (cF aa) amz):=by
 rcases a with a|⟨b,rfl⟩
 ·exact⟨a.pl,ab,by rw[a.pl];exact a.g3⟩
 ·exact⟨rfl,b,Im.snap (by simp)⟩
variable{alh amx am0:Bool}
theorem k89i(e:aj)(a:List aw)(c:aw)(ah:dW e)(aQ:kz e)(aU:ep e c.aq=ab)(bu:Z a<4294967296)(Y:∀c∈a,eO c.ad)(au:fY a):
 HR C 89 [.agg (cP alh amx e),eS am0 (cF aa) a,.agg (cF aa c)] ae6 (λa4 N=>hT ae6 N/\FactsV N a4 (dp e a c)):=by
 refine YG.hq ?_;obtain⟨n,y,B⟩:=zi aU;simp only[dS,sR,Q,eA,dZ,a6,aH,oe,iy,p5,ug,uh,aJ,y,aC B (hD _ _),yO,gF];have K:hT ae6 (ae6++[.arr 0 3 []]):=hT.app _ _;have aL:Z ae6<=Z (ae6++[Obj.arr 0 3 []]):=by simp
 generalize ae6++[Obj.arr 0 3 []]=h at*;have ak:hT ae6 h/\FactsV h (AV.pl (eS am0 (cF aa) a)) a:=⟨K,.inr ⟨am0,rfl⟩⟩;have bv:=aQ _ (bs B);have x:e8 e c.aq=if e.d[n].of<0 then D else e.m[e.d[n].of.toNat]?:=by
  rw[e8,y,ej,bC B]
 refine eh (N:=h) (match e8 e c.aq with|some u=>S (c.af=fy u [])|none=>aa) (λbz ac=>?_) ?_
 ·by_cases w:e.d[n].of<0
  ·refine aZ (λi=>by simp at i;omega) (λ_=>kB ac (by rw[x,if_pos w]))
  ·obtain⟨j,ae⟩:∃j:Nat,e.d[n].of=j:=by grind
   have J:j<Z e.m:=by omega
   have t:e8 e c.aq=T e.m[j]:=by rw[x,if_neg w,ae,ej,bC J]
   rw[ae];refine aZ (λ_=>?_) (λi=>by simp at i);simp only[aC J (jh _ _),Q,hF];refine f (zc _ (ah.aV _ (bs J))) ?_;simp only[c9,Q];exact kB ac (by rw[t]<;>rfl)
 simp only[G];refine b (λi=>?_) (λi=>?_)
 ·have:dp e a c=a:=by
   unfold dp;split
   ·rename_i u r
    rw[r]at i;rw[if_pos (by simpa using i)]
   ·rename_i r
    rw[r]at i;cases i
  rw[this];exact ak
 ·have k:dp e a c=match a.findIdx? (gW c.aq c.ad)with
   |some g=>(match e8 e c.aq,a[g]? with|some u,T L=>a.set g ⟨L.aq,L.ad,fy u [L.af,c.af]⟩|_,_=>a)
   |none=>j8 a c:=by
   unfold dp;cases r:e8 e c.aq with
   |none=>cases a.findIdx? (gW c.aq c.ad)<;>simp
   |some u=>
    rw[r]at i;simp only;rw[if_neg (by simpa using i)];cases o:a.findIdx? (gW c.aq c.ad)with
    |none=>rfl
    |some g=>
     have q:g<Z a:=(nW.1 o).1;simp only[bC q]
  have W:=En (V:=false) (F:=am0) (bp:=false) a c.aq c.ad (by grind[Sm]) Y au;rw[y]at W;refine f W ?_;rw[<-y];simp only[gF,Q];cases o:a.findIdx? (gW c.aq c.ad)with
  |none=>
   have z:sf a c.aq c.ad= -1:=by rw[sf,bN,o]
   have ax:dp e a c=j8 a c:=by rw[k,o]
   rw[z];refine bq ?_;simp only[a8,Q];refine bB (z:=Nat) (λg=>[I g]) (λ_=>h) (λg=>g) (λg=>g<=Z a/\kA a c (Z a)=kA a c g) (Z a) ⟨di _,rfl⟩ ?_;rintro g ⟨v,aB⟩ bp bw;simp only[G,er,Q,my,bo];have O:kA a c (Z a)=g->(bd (dV (.sl 3) (eS am0 (cF aa) a) D (T (I g)) h) λa9=>
 bd (fw 3 [(I 0),.ai,(I 0)] 1 [(0,.agg (cF aa c))]) λbb=>
 bd (dV (.sl 3) (eS am0 (cF aa) a) (T (I g)) D h) λM=>
 cc (cx 3 40 .dI a9 h) λbe R=>
 (
 bd (dV (.sl 3) (eS am0 (cF aa) a) (T (I g)) D R) λbf=>
 ob bf M)/\(
 (ob (.agg (cF aa c)) (.agg (cF aa c)))/\(
 cc (cx 3 40 be bb R) λbg U=>
 (
 bd (dV (.sl 3) (eS am0 (cF aa) a) (T (I g)) D U) λbi=>
 ob bi M)/\(
 cc (cx 3 40 bg M U) λbm V=>
 hT ae6 V/\FactsV V (AV.pl bm) (dp e a c))))):=by
    intro X;rw[Eg (hE _) v,Q,acF,Q,PV (hE _) v,Q];refine bj (nu (a2:=cF aa) (o:=a.take g) rfl (r8 (hE aa) _ _ _) (by simp;omega)) ?_;rw[DV h 3 (cF aa) (a.take g) (.arr 0 3 [])];have E:Z h<Z (h++[Obj.arr 0 3 []]):=by simp
    refine⟨by rw[PV (hE _) v,Q];simp,by simp,?_⟩;refine xq (a2:=cF aa) E rfl (by simp;omega) ?_;refine⟨by rw[PV (hE _) v,Q];simp,?_⟩;refine bj (Ho E (r8 (hE aa) _ _ _) (by simp;omega)) ?_;have ar:a.take g++[c]++a.drop g=j8 a c:=by rw[j8,X];simp
    rw[ar,ax];exact⟨K.trans ((hT.app _ _).set (di _)),.inl ⟨Z h,_,rfl,oo E⟩⟩
   cases g with
   |zero=>
    exact aZ (λi=>by simp at i) (λ_=>bq (O (by rw[aB]<;>rfl)))
   |succ l=>
    have H:l<Z a:=by omega
    have a0:aS .s .sub (I ((l+1:Nat):Int)) (I 1)=T (I (l:Int)):=by
     rw[og (by omega) (by omega)];simp
    have X:kA a c (l+1)=if 0<db a[l] c then kA a c l else l+1:=by
     rw[kA,bC H]
    refine aZ (λ_=>?_) (λi=>by simp at i);simp only[a0,Q,aC H (hE _ _),my];refine f (HY a[l] c (Y _ (bs H))) ?_;simp only[er,Q];refine b (λp=>?_) (λp=>?_)
    ·grind
    ·exact O (by grind)
  |some g=>
   have q:g<Z a:=(nW.1 o).1;have z:sf a c.aq c.ad=g:=by rw[sf,bN,o]
   rw[z];refine a7 ?_ (by simp);rw[o]at k;simp only[bC q]at k;refine b (λp=>?_) (λp=>?_)
   ·have p:0<=e.d[n].of:=by simpa using p
    obtain⟨j,P⟩:∃j:Nat,e.d[n].of=j:=by grind
    have A:j<Z e.m:=by omega
    have t:e8 e c.aq=T e.m[j]:=by rw[x,if_neg (by omega),P,ej,bC A]
    rw[t]at k;simp only at k;refine bj (nu (a2:=cF aa) (o:=a) rfl (r8 (hE aa) _ _ _) (by omega)) ?_;have a2:hT h (h++[.arr 0 3 (a.map (cF aa))]):=hT.app _ _;have F:(h++[Obj.arr 0 3 (a.map (cF aa))])[Z h]?=T (.arr 0 3 (a.map (cF aa))):=by simp
    simp only[P,aC A (jh _ _),Q,hF,aC q (hE _ _),a6,aH,aJ,uh];refine f (adj _ _ _ (ah.aV _ (bs A))) ?_;simp only[e3 F q,Q,oq F,aJ,Pd F q];rw[k];refine⟨?_,.inl ⟨Z h,0,by simp,?_⟩⟩
    ·exact(K.trans a2).set aL
    ·grind
   ·have w:e.d[n].of<0:=by simp at p;omega
    have t:e8 e c.aq=none:=by rw[x,if_pos w]
    rw[t]at k;rw[k];exact ak
variable{anl:Bool}
theorem k38i(d:aj)(g c:List aw)(w:dW d)(v:kz d)(J:Z g+Z c<4294967296)(z:xH d g)(s:∀n∈c,eO n.ad/\ep d n.aq=ab):
 HR C 38 [.agg (cP alh amx d),eS anl (cF aa) g,eS am0 (cF aa) c] ae6 (λm k=>FactsV k m (jm d g c)):=by
 refine Yz.hq ?_;simp only[dS,Q,eA,dZ,a8,fQ];refine bB (z:=Nat×AV×List Obj) (λf=>[f.2.1,I f.1]) (λf=>f.2.2) (λf=>Z c -f.1) (λf=>f.1<=Z c/\FactsV f.2.2 f.2.1 (jm d g (c.take f.1))) (0,eS anl (cF aa) g,ae6++[.arr 0 3 []]) ⟨by simp,.inr ⟨anl,rfl⟩⟩ ?_;rintro⟨j,y,r⟩ ⟨E,e⟩ F x;simp only at E e x⊢;simp only[i,G,A,Q,a];refine b (λh=>?_) (λh=>?_)
 ·have h:j<Z c:=by simpa using h
  have t:=s _ (bs h);have u:=By (c:=d) (c.take j) g;rw[gb]at u;have l:=Pg (c.take j) g z λn B=>s n (qL B);have p:=λy r e=>x (j+1,y,r) ⟨h,e⟩ (by simp;omega);simp only[jm,jB h]at p;simp only[jm]at e l u;generalize(c.take j).foldl (dp d) g=q at*;simp only[aC h (hE _ _),Q,my];rcases e with e|⟨H,rfl⟩
  ·refine cY (Es d q c[j] w v t.2 (by omega) l.sm l.fz e) (by simp[e.pl]) λm k o=>?_
   rw[ba,Q];exact p m k (.inl o.2)
  ·refine cY (k89i d q c[j] w v t.2 (by omega) l.sm l.fz) (by simp) λm k o=>?_
   rw[ba,Q];exact p m k o.2
 ·have:j=Z c:=by simp at h;omega
  subst this;rw[dB]at e;rw[e.g3.1];exact e
open Go.Law
noncomputable def goodB(a:aj):Bool:=iH a&&(Z (nA a):Int)==0&&(Z (se a):Int)==0
theorem k25(a:aj)(g:dW a)(d:Z a.ah<=20)(h:∀i∈a.ah,j6 i)(e:nN a->ky a):PR C 25 [.agg (cP aa alh a)] (.bool (goodB a)):=by
 refine r25.pr ?_;simp only[dS,Q,fQ,bo,G];refine f (afx a g) (aZ (λb=>?_) (λb=>bE (by rw[goodB,b]<;>rfl)));refine f (Ot a d h) ?_;simp only[a8,c9,Q];refine aZ (λc=>?_) (λc=>bE (by rw[goodB,b,c]<;>rfl));refine f (O4 a (e (QM.1 b)) d) ?_;simp only[a8,c9,Q];exact gU (by rw[goodB,b,c]<;>rfl)
noncomputable def fineB(a:aj)(b:List aw):Bool:=r9 a b 3000&&goodB a&&jk a b&&b.all (oB a)
theorem k31(b:aj)(c:List aw)(o:dW b)(n:Sm c)(w:∀v∈c,eO v.ad):PR C 31 [.agg (cP aa alh b),eS amx (cF aa) c] (.bool (fineB b c)):=by
 refine r31.pr ?_;simp only[dS,Q,fQ];refine eh (N:=[]) (!(r9 b c 3000&&goodB b&&jk b c)) (λH j=>?_) ?_
 ·refine f (acP b c 3000 (by omega) o n) ?_
  simp only[bD,Q];refine dx (λe=>?_) (λe=>kB j (by simp_all));have e:r9 b c 3000=true:=by simpa using e
  have s:=Ce e;obtain⟨B,z,-⟩:=Cd s;refine f (k25 b o z B (SW s)) ?_;simp only[bD,Q];refine dx (λh=>?_) (λh=>kB j (by simp_all));have h:goodB b=true:=by simpa using h
  have E:nN b:=by
   simp only[goodB,bG]at h;exact QM.1 h.1.1
  refine f (adS b c o (SM E) n w) ?_;simp only[bD,Q];exact kB j (by simp_all)
 simp only[G];refine c8 (λe=>bE (by rw[fineB,e]<;>rfl)) (λe=>?_);have x:jk b c=true:=by
  simp only[bG]at e;exact e.2
 have y:=aiO x;refine et (U:=Z c) (c:=λk=>[ff,I k]) (λk=>(c.take k).all (oB b)=ab) (by simp) rfl (λk g l t j=>?_) (λl t=>?_)
 ·obtain⟨u,q,m⟩:=y _ (bs g)
  have r:oB b c[k]=b.d[u].fI:=by
   unfold oB;rw[m,ej,bC q]
  simp only[i,G,a8,A,Q,a,g,decide_true,a6,aH,iy,aJ,aC g (hE _ _),p5,m,aC q (hD _ _),AP,bD];refine a7 ?_;refine c8 (λp=>bE ?_) (λp=>?_)
  ·rw[fineB,e,cu,List.all_eq_false]
   exact⟨_,bs g,by rw[r,p];simp⟩
  ·rw[n.inc g,Q]
   refine j ?_;rw[mD g,l,r,p]<;>rfl
 ·simp only[i,G,a8,A,Q,a,ca,decide_false]
  refine bq (hR ?_);rw[dB]at l;rw[fineB,e,l]<;>rfl
def negP(a:aj):Bool:=a.ah.any λb=>b.ae.any pc
theorem k37(c:aj)(E:Z c.ah<=100)(u:∀x∈c.ah,Z x.ae<=100):PR C 37 [.agg (cP alh amx c)] (.bool (negP c)):=by
 refine r37.pr ?_;simp only[dS,Q];refine et (U:=Z c.ah) (c:=λe=>[ff,I e]) (λe=>∀d(m:d<Z c.ah),d<e->c.ah[d].ae.any pc=aa) (by simp) rfl (λe j o s h=>?_) (λo s=>?_)
 ·simp only[i,G,a6,aH,mz,aJ,a8,A,Q,a,j,decide_true]
  refine a7 ?_;have z:=u _ (bs j);refine et (U:=Z c.ah[e].ae) (c:=λg=>[ff,I g]) (λg=>∀d(m:d<Z c.ah[e].ae),d<g->pc c.ah[e].ae[d]=aa) (by simp) rfl (λg n r t v=>?_) (λr t=>?_)
  ·simp only[i,G,aC j (kQ _ _),a6,aH,od,a8,A,Q,a,n,decide_true,aC n (h9 _ _),l1,aJ,mz]
   refine a7 ?_;refine f (O0 c.ah[e].ae[g]) ?_;refine b (λq=>hR ?_) (λq=>?_)
   ·rw[negP,FE]
    exact⟨_,bs j,FE.2 ⟨_,bs n,q⟩⟩
   ·rw[ba,Q]
    exact v (by grind)
  ·simp only[i,G,aC j (kQ _ _),a6,aH,od,a8,A,Q,a,ca,decide_false,aJ,mz]
   refine bq ?_;rw[ba,Q];refine h λd m B=>?_;by_cases l:d=e
   ·subst l
    rw[<-Kr,FE];rintro⟨y,p,k⟩;obtain⟨g,h,rfl⟩:=jS.1 p;rw[r g h h]at k;cases k
   ·exact o d m (by omega)
 ·simp only[i,G,a6,aH,mz,aJ,a8,A,Q,a,ca,decide_false]
  refine bq (bE ?_);rw[negP,<-Kr,FE];rintro⟨y,p,k⟩;obtain⟨g,h,rfl⟩:=jS.1 p;rw[o g h h]at k;cases k
def atMostAt(c:aj)(b:List aw)(a:aw):Bool:=S (0<=sf b a.aq a.ad)&& !(S (0<=hK c a.aq)&& !sg c a.aq a.af ((b[(sf b a.aq a.ad).toNat]?.map aw.af).getD 0))
theorem k36(c:aj)(b e:List aw)(P:dW c)(N:kz c)(E:Sm b)(F:Sm e)(J:∀u∈e,eO u.ad)(H:fY e)(K:∀u∈b,∃h:Nat,∃_:h<Z c.d,u.aq=h):PR C 36 [.agg (cP aa alh c),eS aa (cF aa) b,eS aa (cF aa) e] (.bool (atMostB c b e)):=by
 have y:atMostB c b e=b.all (atMostAt c e):=rfl;refine r36.pr ?_;simp only[dS,Q];refine et (U:=Z b) (c:=λg=>[ff,I g]) (λg=>(b.take g).all (atMostAt c e)=ab) (by simp) rfl (λg k t B L=>?_) (λt B=>?_)
 ·obtain⟨h,j,o⟩:=K _ (bs k)
  have O:hK c b[g].aq=c.d[h].of:=by rw[o,JT j]
  simp only[i,G,a8,A,Q,a,k,decide_true,a6,aH,iy,aJ,aC k (hE _ _),p5,ug,uh];refine a7 ?_;refine f (En e b[g].aq b[g].ad F J H) ?_;have v:=xW (gW b[g].aq b[g].ad) e;have v: -1<=sf e b[g].aq b[g].ad/\sf e b[g].aq b[g].ad<Z e:=v;simp only[o,aC j (hD _ _),a6,aH,yO,Q,aJ];refine eh (N:=[]) (!atMostAt c e b[g]) (λU s=>?_) ?_
  ·rw[atMostAt,O,o]at s
   rw[o]at v;generalize S:sf e (h:Int) b[g].ad=p at*;simp only[A,gF,Q];refine dx (λl=>?_) (λl=>kB s (by have l:p<0:=(by simpa using l);have:¬(0<=p):=(by omega);simp[this]));have l:0<=p:=by simp at l;omega
   refine aZ (λn=>?_) (λn=>kB s (by have n:¬(0<=c.d[h].of):=(by simp at n;omega);simp[l,n]));have n:0<=c.d[h].of:=by simpa using n
   obtain⟨r,w⟩:∃r:Nat,c.d[h].of=r:=⟨c.d[h].of.toNat,by omega⟩;have x:r<Z c.m:=by have:=N _ (bs j);omega
   obtain⟨q,rfl⟩:∃q:Nat,p=q:=⟨p.toNat,by omega⟩;have z:q<Z e:=by omega
   have M:sg c (h:Int) b[g].af e[q].af=ox c.m[r] b[g].af e[q].af:=by
    unfold sg;rw[ej,bC j];simp only[w,ej,bC x]
   simp only[a6,aH,oe,Q,aJ,w,aC x (jh _ _),hF,aC k (hE _ _),uh,aC z (hE _ _)];refine f (OO c.m[r] _ _ (P.aV _ (bs x))) ?_;simp only[bD,Q];refine kB s ?_;simp[w,M,bC z]
  ·simp only[G]
   refine c8 (λj=>bE ?_) (λj=>?_)
   ·rw[y,List.all_eq_false]
    exact⟨_,bs k,by rw[j];simp⟩
   ·rw[E.inc k,Q]
    refine L ?_;rw[mD k,t,j]<;>rfl
 ·simp only[i,G,a8,A,Q,a,ca,decide_false]
  refine bq (hR ?_);rw[dB]at t;exact y.trans t
theorem nb_facts(a:Int)(b:List aw):NB (.aE [eS aa (cF aa) b,I a]):=
 .aE _ (.cons _ _ (rA (λc=>.cons _ _ (.int _ _) (.cons _ _ (zE _) (.cons _ _ (.int _ _) .nil))) _) (.cons _ _ (.int _ _) .nil))
theorem nb_res(a:Option (List aw)):NB (BL a):=by
 cases a<;>exact nb_facts _ _
structure Fine(p:aj)(fs:List aw):Prop where
 r9:r9 p fs 3000=ab
 q3:qi p fs
 val:nN p
 uns:nA p=[]
 str:se p=[]
 form:jk p fs=ab
 fI:fs.all (oB p)=ab
theorem fine_of(a:fineB alm amz=ab):Fine alm amz:=by
 simp only[fineB,goodB,bG,beq_iff_eq]at a;obtain⟨⟨⟨b,⟨c,f⟩,g⟩,d⟩,e⟩:=a;exact⟨b,Ce b,QM.1 c,wF (by omega),wF (by omega),d,e⟩
theorem k23_fine(i:eP C)(j:wA C)(l:x5 C)(a:Fine alm amz)(h:dW alm)(d:∀k∈amz,eO k.ad):
 ∃b,ra alm (xV alm) amz b/\(∀gs,b=T gs->dq alm (pa alm amz) gs/\jP gs=aa)/\PR C 23 [.agg (cP aa alh alm),eS amx (cF aa) amz] (BL b):=by
 obtain⟨p,-,o⟩:=Cd a.q3;have f:=JV a.r9 a.val h d a.uns;have e:=JW a.val a.form;have r:=a.q3.facts;obtain⟨b,g,m⟩:=PT f.v (xV alm) e (Io (by omega));have n:qH alm amz=true:=by
  rw[qH,a.form,a.fI,QM.2 a.val]<;>rfl
 refine⟨b,g,m,jr i j l (V:=alh) (F:=amx) (bp:=false) alm amz h (by unfold Sm;omega) d (BL b) (λc=>by rw[n]at c;cases c) λ_=>?_⟩;exact⟨o,p,SW a.q3 a.val,λc=>absurd a.uns c,λ_ c=>absurd a.str c,λ_ _=>⟨_,b,f,e,by omega,g,rfl⟩⟩
theorem union_sm{c:List aw}(e:∀a∈c,eO a.ad)(f:∀a∈amz,eO a.ad):∀a∈jm alm c amz,eO a.ad:=by
 induction amz generalizing c with
 |nil=>exact e
 |cons b amz h=>
  have g:jm alm c (b::amz)=jm alm (dp alm c b) amz:=rfl;rw[g];exact h (λa d=>Pf (M:=alm) (b:=λ_ b=>eO b) e (f b (by simp)) a d) λa d=>f a (by simp[d])
theorem k8N(E:eP C)(F:wA C)(J:x5 C)(a:aj)(e g:List aw)(i:dW a)(M:Sm e)(w:∀k∈e,eO k.ad)(aU:Sm g)(K:∀k∈g,eO k.ad):
 PR C 8 [.agg (cP aa alh a),eS amx (cF aa) e,eS am0 (cF aa) g] (.bool ab):=by
 refine r8N.pr ?_;have j:∀p,aR 4 ab (.aK aa (cP aa alh a) 0) p=T (.agg (cP aa alh a)):=λ_=>rfl;refine aD (dD:=.aK aa (cP aa alh a) 0) rfl ?_;refine f (Jg E F J) ?_;refine eh (N:=[]) (!(fineB a e&&fineB a g&& !negP a)) (λA d=>?_) ?_
 ·try simp only[j,Q]
  refine f (k31 a e i M w) ?_;rw[bD,Q];refine dx (λb=>?_) (λb=>kB d (by simp_all));have b:fineB a e=true:=by simpa using b
  try simp only[j,Q]
  refine f (k31 a g i aU K) ?_;rw[bD,Q];refine dx (λq=>?_) (λq=>kB d (by simp_all));have q:fineB a g=true:=by simpa using q
  have z:=(fine_of b).q3
  try simp only[j,Q]
  refine f (k37 a (by have:=z.ah;omega) λu N=>by have:=z.ae u N;omega) ?_;exact kB d (by simp[b,q])
 simp only[G];refine c8 (λ_=>.bool _ _) (λb=>?_);simp only[bG,jt]at b;obtain⟨⟨ax,q⟩,X⟩:=b;have c:=fine_of ax;have B:=fine_of q;have L:=JW c.val c.form;have Z:=JW B.val B.form;have ak:=JV c.r9 c.val i w c.uns;have be:=c.q3.facts;have am0:=B.q3.facts
 try simp only[j,Q]
 refine cY (k38i a e g i (SM c.val) (by omega) (L.afy ak) λk x=>⟨K k x,(Z.ok k x).zn⟩) rfl λbb r z=>?_;have ac:LeI a e (jm a e g):=(unionF_up (SN c.val) g (λS m=>(L.ok S m).af) λS m=>(Z.ok S m).af).1;have bf:=By (c:=a) g e;have O:=union_sm (alm:=a) w K;generalize jm a e g=R at*;obtain⟨bg,H,a0⟩:=z.g3
 have P:bR r .cm ([AV.agg (cP aa alh a),bb].map AV.pl) [.agg (cP aa alh a),eS H (cF aa) R]:=.cons _ _ _ _ _ (Im.snap (by simp)) (.cons _ _ _ _ _ a0 (.nil _))
 try simp only[j,Q]
 refine ea _ (k31 (amx:=H) a R i (by unfold Sm;omega) O) P (.bool _) ?_;rw[bD,Q];refine c8 (λ_=>.bool _ _) (λaB=>?_);have o:=fine_of aB;obtain⟨aq,ar,V,au⟩:=k23_fine E F J (alh:=alh) (amx:=amx) c i w;obtain⟨a4,a9,W,U⟩:=k23_fine E F J (alh:=alh) (amx:=H) o i O
 try simp only[j,Q]
 refine f au ?_;cases a4 with
 |none=>
  have m:∃(n:List aw)(l:Int),BL aq=.aE [eS aa (cF aa) n,I l]/\True:=by cases aq<;>exact⟨_,_,rfl,trivial⟩
  obtain⟨n,l,m,-⟩:=m;rw[m];refine aD (dD:=eS aa (cF aa) n) rfl (aD (dD:=I l) rfl ?_)
  try simp only[j,Q]
  refine ea _ U P (nb_res _) ?_;refine aD (dD:=eS aa (cF aa) ([]:List aw)) rfl (aD (dD:=I 2) rfl ?_);refine eh (N:=r) ab (λA d=>?_) ?_
  ·simp only[cd,Q]
   refine dx (λ_=>?_) (λ_=>kB d rfl);exact kB d (by decide)
  simp only[G];refine a7 ?_;refine eh (N:=r) ab (λA d=>?_) (.bool _ _);refine aZ (λ_=>?_) (λb=>by cases b);simp only[c9,cd,Q];refine dx (λ_=>?_) (λ_=>kB d rfl);exact kB d (by decide)
 |some t=>
  have y:=JV o.r9 o.val i O o.uns;have Y:dq a (pa a R) e:=L.dom' ac.fB;have aQ:=JW o.val o.form;have a3:∀u∈a.ah,∀n∈u.ae,pc n=false:=λu N n M=>by
   simp only[negP,List.any_eq_false]at X;have:=X u N;rw[FE]at this;simpa usingλl=>this ⟨n,M,l⟩
  obtain⟨s,rfl,a2⟩:=runM_le y.v (mon_of c.val) a3 _ ar a9 Y aQ ac t rfl;have v1:=(runM_ok y.v ar Y s rfl).1;have v2:=(W t rfl).1;have bi:=(V s rfl).1.small ak.v (V s rfl).2;have bm:=v2.small y.v (W t rfl).2;refine aD (dD:=eS aa (cF aa) s) rfl (aD (dD:=I 0) rfl ?_)
  try simp only[j,Q]
  refine ea _ U P (nb_res _) ?_;refine aD (dD:=eS aa (cF aa) t) rfl (aD (dD:=I 0) rfl ?_);refine eh (N:=r) aa (λA d=>?_) ?_
  ·simp only[cd,Q]
   refine dx (λ_=>?_) (λb=>by simp at b);exact kB d (by decide)
  simp only[G];refine bq ?_;refine eh (N:=r) ab (λA d=>?_) (.bool _ _);refine aZ (λ_=>?_) (λb=>by cases b)
  try simp only[j,Q]
  refine f (k36 a s t i (SM c.val) (by unfold Sm;omega) (by unfold Sm;omega) (dq.re y v2.ok) v2.fz λk x=>by obtain⟨h,aL,l,-⟩:=(v1.ok k x).fJ;exact⟨h,aL,l⟩) ?_;rw[atMost_le (SN c.val) (SM c.val) v1 v2 a2];exact d
theorem fn8(e:aj)(a b:List aw)(k:dW e)(i:Sm a)(g:∀d∈a,eO d.ad)(j:Sm b)(h:∀d∈b,eO d.ad):∃c,jz a1 G0 8 [.agg (cP aa alh e),eS amx (cF aa) a,eS am0 (cF aa) b] [] (.bool ab) c:=by
 obtain⟨m,c,f,l⟩:=k8N aju ajx ajw (alh:=alh) (amx:=amx) (am0:=am0) e a b k i g j h;cases l
 exact⟨c,f⟩
open Go.Proofs.YtmkbfepnleajhaaGreatDoor Go.Deep Go.ChangeShapes Go.WideShapes Go.ChangeAt Go.RowKit
theorem ajV:∃a,a1.underlying 27=T (.struct a):=by
 simp
theorem Tk:a1.underlying 4=T .bool:=by kernel_rfl
variable{ani:Value}
theorem ajW{W:World}{base:Nat}(b:Value.okWide a1 W .any base 27 ani):∃a,ani=.agg a:=by
 grind[ajV,Value.okWide]
theorem ajX{W:World}{base:Nat}(a:Value.okWide a1 W .any base 28 ani):bU ani.cells=[ani]:=by
 unfold Value.okWide at a;rw[sE]at a;simp only[Cell.okWide,sE,Cell.ok]at a;cases ani<;>first|rfl|grind
theorem ajY(b:Type)(c:TypeId×Value->b)(W:World)(base:Nat)(args:Array Value)(i gs:List (DataW b))(C:List MemPlace)
 (g:∀(z:Nat) h a,Tryz.f8.params[z]?=T h->args[z]?=T a->Value.okWide a1 W .any base h a)
 (k:DataW.Whole c a1 (bU Tryz.f8.params) Rows.snapshotMonotoneSpec.vars aa W (bU args) i gs C)(Z:Rows.uptoSmall b (i++gs)=ab)(L:laidMetH a1 Rows.snapshotMonotoneUptoRow.laid W):
 Calls a1 8 args W λj q=>∃a,j=.returned a/\Rows.snapshotMonotoneSpec.post c a1 Tryz.f8 aa ab aa aa W args a q:=by
 have u:=k;have ac:=k.lt;obtain⟨aQ,bw,t,Q,rfl,bm,bp⟩:=k;have s:DataW.TrodAll c a1 W 0 (λ_=>ab) ab (bU Tryz.f8.params) (bU args) i aQ:=t;rw[Tryz.params8]at s g;obtain⟨v0,v1,v2,E,F,G,aU,a0,a2,rfl,rfl,rfl,I,J,K⟩:=trodAll_three s;obtain⟨rfl,rfl⟩:=trodVars_none Q;have S:Rows.uptoBulkAll [E,F,G]<=1048576:=by
  have:=of_decide_eq_true Z;simpa using this
 simp only[Rows.uptoBulkAll]at S;obtain⟨r,rfl⟩:=ajW (g 0 27 v0 rfl rfl);have U:=ajX (g 1 28 v1 rfl rfl);have V:=ajX (g 2 28 v2 rfl rfl);obtain⟨ax,a3⟩:=I;obtain⟨aB,a4⟩:=J;obtain⟨aL,a9⟩:=K;obtain⟨o,x,ah⟩:=(ab1 (H:=b) (enc:=c) (w:=W) (sp:=λ_=>ab) (λ_=>rfl) aa aa).2 ax _ _ _ a3 (by omega);obtain⟨p,e,ad,ak⟩:=(ab3 (H:=b) (enc:=c) (w:=W) (sp:=λ_=>ab) (λ_=>rfl) aa aa).2 aB _ _ _ a4 (by omega)
 obtain⟨B,y,ae,aq⟩:=(ab3 (H:=b) (enc:=c) (w:=W) (sp:=λ_=>ab) (λ_=>rfl) aa aa).2 aL _ _ _ a9 (by omega);rw[U]at e;rw[V]at y;have N:R (E0 W) (.agg (cP aa aa o)) (.agg r):=by
  have Y:∀a∈cP aa aa o,a.bP=true:=by simp[cP,AV.bP,eS]
  refine .agg _ _ x ?_;have one:∀{vs:List AV}{f:List Value},RL (E0 W) vs f->(∀a∈vs,a.bP=ab)->∀n∈f,n.oneCell'=true:=by
   intro vs f d;induction vs generalizing f with
   |nil=>intro _ n ar;cases d;simp at ar
   |cons a vs br=>
    cases d with
    |cons _ n _ f au w=>
     intro l p e;rcases cf.1 e with rfl|e
     ·exact au.Ab (l _ (by simp))
     grind
  exact one x Y
 have O:R (E0 W) (eS aa (cF aa) p) v1:=by
  cases e with
  |cons _ _ _ _ d _=>exact d
 have P:R (E0 W) (eS aa (cF aa) B) v2:=by
  cases y with
  |cons _ _ _ _ d _=>exact d
 obtain⟨be,-,X⟩:=fn8 (alh:=false) (amx:=false) (am0:=false) o p B ah (Sm.of ad) ak (Sm.of ae) aq;have l:=X (E0 W) [.agg r,v1,v2] (abE W) (λ_=>rfl) rfl (.cons _ _ _ _ N (.cons _ _ _ _ O (.cons _ _ _ _ P .nil))) (ajU (show laidMetH a1 g2.laid W from L));refine l.mono λj q v=>?_;cases j with
 |returned a=>
  obtain⟨bb,rfl,H,-,-,M⟩:=v;obtain rfl:a=.bool true:=by cases M;rfl
  simp only[rP]at u ac;refine⟨_,rfl,ajC (i:=aU++a0++a2) (j:=[]) u (λ_ _ _=>trodAll_cons_mk (shut_bool Tk _) trodAll_mk0) (λm af=>?_) (λ_ _=>rfl) (by simp) (ajz H _) (by grind[ajB]) (ok_one (by kernel_rfl) rfl (okWide_bool_mk Tk _))⟩;exact Th ajE ajF (λh w=>by rw[Tryz.params8]at w;revert h;decide) t (by grind[ajA]) af
 |_=>exact v.elim
end AM
end Go
