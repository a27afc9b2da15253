/- The law DeriveSequencesUptoCardSaid: part 5 of 14 of the proof. No condition. -/
import Derived.Test.YtegalmbcaggfiaaGreatDoorXd
import Derived.Shelf.Spec.SlicesInsertGrow
set_option maxRecDepth 100000
open List renaming length->Z,range->ay,map->QU,replicate->db,getElem_set->arU,map_const'->OJ,map_singleton->I8,perm_middle->arW
open Option renaming some->aa,none->ae,map_none->Cu
open Bool renaming true->ad,false->ab
open Decidable renaming decide->y,not_not->avB
open Array renaming toList->bI
open Go.Proofs.Tryz renaming prog->aU
open List.Pairwise renaming imp->avC
open List.Perm renaming append_left->l6
open Nat renaming min_le_left->aa2
namespace Go
namespace AM
open Go.Law
variable{p:List d}{mE:List gU}{dt:Nat -> Int}{rb:gU}
theorem iM.const{aC:Nat->Nat}(h:iM p mE aC dt)(b:∀a,rb.sat a):iM p (mE++[rb]) aC dt:=
 ⟨h.nd,h.nb,h.lt,h.rt,h.yt,λa=>by rw[uv,<-h.wY];grind⟩
theorem iM.W0{aC:Nat->Nat}{b:gU}(h:iM p (mE++[rb]) aC dt)(c:∀a,rb.sat a<->b.sat a):iM p (mE++[b]) aC dt:=
 ⟨h.nd,h.nb,h.lt,h.rt,h.yt,λa=>by rw[uv,<-c,<-uv,h.wY]⟩
theorem W1{b:gU}(c:∀a,rb.sat a<->b.sat a):lW (mE++[rb])<->lW (mE++[b]):=by
 refine⟨λ⟨a,h⟩=>⟨a,?_⟩,λ⟨a,h⟩=>⟨a,?_⟩⟩;rw[uv,c]at h;grind;rw[uv]at h;grind
def Mo(i h:Nat)(c:List d)(f:aL)(b:List gU)(j:AV)(g:List Obj):Prop:=∃a aC e,j=.bool a/\Holds g (ie i h c aC e f)/\(a=ad->iM c b aC e)/\(a=ab->¬lW b)
theorem tw(a b:Int):aT .s .eql (I a) (I b)=aa (.bool (a==b)):=rfl
variable{U N:Nat}{k:aL}{M:List Obj}
theorem Mp{aC:Nat->Nat}(t:aJ)(a:Int)(g:iM p mE aC dt)(w:Z p<=36)(y:0<a)(B:t.aE=[]\/t.aE∈p)
 (f:Holds M (ie U N p aC dt k)):HR C 341 [.ptr N 0 0 0,.agg (cT t),I a] M (Mo U N p k (mE++[.ty t a])):=by
 apply RC.hq;have x:j0 4 (.agg (cT t))=aa (.aH ab (cT t) 0):=rfl;simp only[x,O,bj,aK,rO,De,e,fW,gT];refine b (λh=>?_) (λh=>?_);have q:t.aE=[]:=by simpa using h
 have A:∀m,gU.sat m (.ty t a)<->t.const.ty=a:=by
  intro m;show ek m t=a<->_;unfold ek;grind
 rw[tw,O];refine⟨t.const.ty==a,aC,dt,rfl,f,λc=>g.const (by grind),λc i=>?_⟩;let⟨m,i⟩:=i;have:=(A m).1 (i _ (by simp));grind;have q:t.aE≠[]:=by simpa using h
 have z:=B.resolve_left q;let⟨u,n,s⟩:=sL z;let⟨D,r,o⟩:=g.rt u n;have G:=g.zY o n;have l:r<36:=by omega
 apply qJ _ ((HG (U:=U) (N:=N) (k:=k) t.aE g.nd w g.lt).1 u D r n s o M f);let⟨E,H,J⟩:=g.set (t:=t) y n s.symm o;simp only[bw,uz f,tv f,O,e,w6 f l,cl_2 f l,tw];refine b (λc=>?_) (λc=>?_);have c:dt r=0:=by simpa using c
 refine WZ f a l λF j=>?_;have v:bN dt r a r=a:=by simp[bN]
 simp only[uz j,tv j,O,e,w6 j l,cl_2 j l,v,tw];refine⟨_,_,_,rfl,j,λ_=>E c,λi=>?_⟩;simp at i;have c:dt r≠0:=by simpa using c
 refine⟨_,_,_,rfl,f,by grind,by grind⟩
theorem alu(a b:Int):sR [I a,I b]=aa (I (max a b)):=by
 have:(if b>a then b else a)=max a b:=by split<;>omega
 show aa (AV.int .i64 (if b>a then b else a))=_;rw[this]
theorem alv{aC:Nat->Nat}(a c:aJ)(i:iM p mE aC dt)(q:Z p<=36)
 (x:a.aE∈p\/a.aE=[]/\0<a.const.ty)(z:c.aE∈p\/c.aE=[]/\0<c.const.ty)
 (f:Holds M (ie U N p aC dt k)):HR C 320 [.ptr N 0 0 0,.agg (cT a),.agg (cT c)] M (Mo U N p k (mE++[.eq a c])):=by
 apply ad8.hq;have W:j0 4 (.agg (cT a))=aa (.aH ab (cT a) 0):=rfl;have X:j0 4 (.agg (cT c))=aa (.aH ab (cT c) 0):=rfl;simp only[W,X,O,bj,aK,lL,rO,De,e,fW,gT];refine b (λh=>?_) (λh=>?_);have n:a.aE=[]:=by simpa using h
 have A:¬a.aE∈p:=λh=>i.nb _ h n;have F:∀g,gU.sat g (.ty c a.const.ty)<->gU.sat g (.eq a c):=by
  intro g;show ek g c=_<->ek g a=ek g c;have:ek g a=a.const.ty:=by unfold ek;rw[if_pos n]
  rw[this];exact eq_comm
 refine c7 (Mp (mE:=mE) c a.const.ty i q (x.resolve_left A).2 (z.symm.imp (·.1) id) f) rfl λaz T B=>?_;obtain⟨v,w,J,rfl,H,I,au⟩:=B;exact⟨v,w,J,rfl,H,λh=>(I h).W0 F,by grind[W1]⟩;have ai:a.aE≠[]:=by simpa using h
 refine b (λh=>?_) (λh=>?_);have n:c.aE=[]:=by simpa using h
 have A:¬c.aE∈p:=λh=>i.nb _ h n;have F:∀g,gU.sat g (.ty a c.const.ty)<->gU.sat g (.eq a c):=by
  intro g;show ek g a=_<->ek g a=ek g c;have:ek g c=c.const.ty:=by unfold ek;rw[if_pos n]
  rw[this]
 refine c7 (Mp (mE:=mE) a c.const.ty i q (z.resolve_left A).2 (x.symm.imp (·.1) id) f) rfl λaz T B=>?_;obtain⟨v,w,J,rfl,H,I,au⟩:=B;exact⟨v,w,J,rfl,H,λh=>(I h).W0 F,by grind[W1]⟩;have aj:c.aE≠[]:=by simpa using h
 have af:=x.resolve_right λh=>ai h.1;have ah:=z.resolve_right λh=>aj h.1;let⟨P,t,K⟩:=sL af;let⟨Q,u,L⟩:=sL ah;let⟨ak,r,D⟩:=i.rt P t;let⟨am,j,E⟩:=i.rt Q u;have a0:=i.zY D t;have a2:=i.zY E u;have l:r<36:=by omega
 have m:j<36:=by omega
 let⟨a4,ax⟩:=i.same (bQ:=a) (rj:=c) t u K.symm L.symm D E;apply qJ _ ((HG (U:=U) (N:=N) (k:=k) a.aE i.nd q i.lt).1 P ak r t K D M f);simp only[mf,true_and];apply qJ _ ((HG (U:=U) (N:=N) (k:=k) c.aE i.nd q i.lt).1 Q am j u L E M f);refine yr (M:=M) (y (dt r≠0)&&(y (dt j≠0)&&y (dt r≠dt j))) [] (λa3 aZ=>?_) ?_;have V:∀R S:Int,(R !=S)=y (R≠S):=by grind
 simp only[uz f,tv f,O,e,w6 f l,cl_2 f l,w6 f m,cl_2 f m,cx,V];grind[aW];simp only[G];refine b (λo=>?_) (λo=>?_);simp only[bc,decide_eq_true_eq]at o;exact⟨ab,aC,dt,rfl,f,λh=>(by cases h),by grind⟩;have ac:dt r=0\/dt j=0\/dt r=dt j:=by
  simp only[I7,decide_eq_false_iff_not,avB]at o;exact o
 simp only[uz f,tv f,O,e,w6 f l,cl_2 f l,w6 f m,cl_2 f m,alu];refine WZ f _ m λaA s=>?_;simp only[uz s,tv s,O,e,w6 s l];refine WY s j l λaR Y=>?_;exact⟨ad,_,_,rfl,Y,λ_=>ax ac,λh=>by cases h⟩
def uA(b:List aJ)(d:List Int)(c:Nat):List gU:=((b.zip d).take c).map λa=>.ty a.1 a.2
variable{z:Nat}
theorem W2{aC:Nat->Nat}(j:D)(c:List aJ)(l:Nat)(S:l<Z j.Q)(o:iM p mE aC dt)(L:Z p<=36)(az:Sm c)
 (ax:Z c<=Z j.Q[l].aZ)(aR:∀ai∈j.Q[l].aZ,0<ai)(aA:∀B∈c,B.aE=[]\/B.aE∈p)(P:∀M,Holds M k->SC j z M)
 (R:Holds M (ie U N p aC dt k)):HR C 319 [.ptr z 0 0 0,.ptr N 0 0 0,I (l:Int),eS ab cT c] M (Mo U N p k (mE++uA c j.Q[l].aZ (Z c))):=by
 apply Rz.hq;simp only[a1,O];apply bG (K:=Nat×List Obj×(Nat->Nat)×(Nat->Int)) (λm=>[ff,I m.1]) (λm=>m.2.1) (λm=>Z c -m.1) (λm=>m.1<=Z c/\Holds m.2.1 (ie U N p m.2.2.1 m.2.2.2 k)/\iM p (mE++uA c j.Q[l].aZ m.1) m.2.2.1 m.2.2.2) (0,M,aC,dt) ⟨by simp,R,by simpa[uA]using o⟩;rintro⟨f,am,aC,dt⟩ ⟨W,q,o⟩ au v;simp only at W q o v⊢;simp only[G,i,A,O,a];refine b (λh=>?_) (λh=>?_)
 have h:f<Z c:=by simpa using h
 have K:f<Z j.Q[l].aZ:=by omega
 have ac:f<Z (c.zip j.Q[l].aZ):=by simp;omega
 have T:uA c j.Q[l].aZ (f+1)=uA c j.Q[l].aZ f++[.ty c[f] j.Q[l].aZ[f]]:=by
  rw[uA,iu ac,hE];simp[uA]
 have n:=P _ (qa q);let⟨a2,aj,J⟩:=n.s7;let⟨id,gi,af,u,ah⟩:=J.at S;have V:(AV.agg [g (cT c[f]) 0,g (cT c[f]) 1,g (cT c[f]) 2,g (cT c[f]) 3])=.agg (cT c[f]):=rfl;have X:(bO ab j.Q[l])[1]?=aa (eS ab cI j.Q[l].aZ):=rfl;simp only[aF h (kq _),lL,xO,V,n.nc,n.ao,O,e,fW,aj,af,o8 u,cY u ah,X,aF K (jf _),aK,lM];refine c7 (Mp c[f] _ o L (by simp_all) (by grind) q) rfl λa3 F Y=>?_;obtain⟨H,t,E,rfl,w,x,y⟩:=Y
 rw[gY,<-T]at x y;simp only[bK,O];refine dw (λs=>?_) (λs=>?_);refine⟨ab,t,E,rfl,w,λh=>(by cases h),λ_ n=>y s ?_⟩;refine lW.mono (λH r=>?_) n;rcases dm.1 r with r|r;grind;refine dm.2 (.inr ?_);obtain⟨ak,a0,rfl⟩:=cy.1 r;refine cy.2 ⟨ak,?_,rfl⟩;grind;rw[a6 (by grind[Sm]),O];exact v (f+1,F,t,E) ⟨h,w,x s⟩ (by simp;omega);have:f=Z c:=by simp at h;omega
 subst this;exact⟨ad,aC,dt,rfl,q,λ_=>o,λh=>by cases h⟩
variable{bL:d}
theorem alw(h:p.Nodup):(ej p bL).Nodup:=by
 grind[ej]
theorem HH:∀(b:List aJ){a:List d},a.Nodup->(c8 a b).Nodup
 |[],_,h=>h
 |t::b,a,h=>HH b (a:=ej a t.aE) (alw h)
theorem Mq:∀(c:List aJ){b:List d}{a:d},a∈c8 b c<->a∈b\/(a≠[]/\∃t∈c,t.aE=a)
 |[],b,a=>by simp[c8]
 |t::c,b,a=>by
  have:=Mq c (b:=ej b t.aE) (a:=a);grind[c8,ej]
theorem Mr:∀(a:List (List aJ)){b:List d},b.Nodup->(a.foldl c8 b).Nodup
 |[],_,h=>h
 |x::a,_,h=>Mr a (HH x h)
theorem Ms:∀(c:List (List aJ)){b:List d}{a:d},a∈c.foldl c8 b<->a∈b\/(a≠[]/\∃e∈c,∃f∈e,f.aE=a)
 |[],b,a=>by simp
 |y::c,b,a=>by
  rw[ni,Ms c,Mq];grind
def mZ(r:aD)(a:Nat):List d:=((r.ah.take a).map Lit.af).foldl c8 (c8 [] r.af)
theorem Mt(r:aD)(a:Nat):(mZ r a).Nodup:=Mr _ (by grind[HH])
theorem Eh{r:aD}:bL∈mZ r U<->bL≠[]/\((∃a∈r.af,a.aE=bL)\/∃b∈r.ah.take U,∃a∈b.af,a.aE=bL):=by
 rw[mZ,Ms,Mq];grind
theorem W3{r:aD}:bL∈fB r<->bL≠[]/\((∃a∈r.af,a.aE=bL)\/∃b∈r.ah,∃a∈b.af,a.aE=bL):=by
 rw[fB,Ms];grind
theorem alx(r:aD):Z (mZ r (Z r.ah))=Z (fB r):=by
 refine((OI (Mt r _) (Mr _ xt)).2 λa=>?_).length_eq;show a∈mZ r (Z r.ah)<->a∈fB r;rw[Eh,W3,dU]
theorem aly{r:aD}:bL∈mZ r (Z r.ah)<->bL∈fB r:=by rw[Eh,W3,dU]
theorem W4{r:aD}(h:U<Z r.ah):mZ r (U+1)=c8 (mZ r U) r.ah[U].af:=by
 rw[mZ,iu h,hE,yZ]<;>rfl
theorem Mu(b:List aJ)(a:List d):Z (c8 a b)<=Z a+Z b:=zz b a
theorem W5{aC:Nat->Nat}(e:List aJ)(H:p.Nodup)(X:Z p+Z e<=36)(l:∀c,c<Z p->aC c=c)(F:∀M,Holds M k->M[z]?=aa (.arr 0 1 [[.ptr N 0 0 0]]))
 (E:Holds M (ie U N p aC dt k)):HR C 317 [eS ab cT e,.ptr z 0 0 0] M (λx t=>x=.aB []/\∃n,Holds t (ie U N (c8 p e) n dt k)/\∀c,c<Z (c8 p e)->n c=c):=by
 apply S4.hq;simp only[a1,O];apply bG (K:=Nat×List Obj×(Nat->Nat)) (λf=>[I f.1]) (λf=>f.2.1) (λf=>Z e -f.1) (λf=>f.1<=Z e/\Holds f.2.1 (ie U N (c8 p (e.take f.1)) f.2.2 dt k)/\∀c,c<Z (c8 p (e.take f.1))->f.2.2 c=c) (0,M,aC) ⟨by simp,by simpa[c8]using E,by simpa[c8]using l⟩;rintro⟨c,m,aC⟩ ⟨o,j,l⟩ V v;simp only at o j l v⊢;simp only[G,A,O,a];refine b (λh=>?_) (λh=>?_);have h:c<Z e:=by simpa using h
 have Q:c8 p (e.take (c+1))=ej (c8 p (e.take c)) e[c].aE:=by
  rw[c8,iu h,yZ]<;>rfl
 have J:=HH (e.take c) H;have L:=Mu (e.take c) p;rw[hW]at L;have s:=λy n i D=>v (c+1,y,n) ⟨h,i,D⟩ (by simp;omega);simp only[Q]at s;generalize c8 p (e.take c)=W at*;have B:∀w:aJ,g (cT w) 0=.str w.aE:=λ_=>rfl;have K:aQ 1 ab (.ptr z 0 0 0) m=aa (.ptr N 0 0 0):=gx (F _ (qa j)) rfl;simp only[bw,aF h (kq _),lL,xO,B,O,jD,K,a6 (show c<4611686018427387904 by omega)];refine dw (λi=>?_) (λi=>?_)
 have i:e[c].aE≠[]:=by simpa using i
 let⟨S,T⟩:=HG (U:=U) (N:=N) (aC:=aC) (dt:=dt) (k:=k) e[c].aE J (by omega) (λc o=>by rw[l c o];exact o);by_cases q:e[c].aE∈W;let⟨r,u,R⟩:=sL q;refine qJ _ (S r 0 r u R (.stop r (l r u)) m j) (s m aC ?_ ?_);rw[ej,if_pos (.inr q)];exact j;grind[ej];refine c7 (T q (by omega) m j) rfl λx t P=>s t (bN aC (Z W) (Z W)) ?_ ?_;rw[ej,if_neg (λh=>h.elim i q)];exact P.2;grind[ej,bN]
 have i:e[c].aE=[]:=by simpa using i
 refine s m aC ?_ ?_;rw[ej,if_pos (.inl i)];exact j;rw[ej,if_pos (.inl i)];exact l;grind
theorem Mv(a:Lit):dS 9 (.agg (ef a))=aa (ef a):=ji rfl rfl
@[simp] theorem alz(a:Lit):Z (ef a)=9:=rfl
theorem alA(a:Nat)(aC:Nat->Nat)(b:Nat->Int):dS 73 (.agg (jU a aC b))=aa (jU a aC b):=by
 grind[ji,Mn,jU,pc,AV.bU]
theorem alB(a:Nat)(c:AV)(b:List AV):ma (c::b) [(0,1,.b7 a)]=aa (.b7 a::b):=by
 have d:(AV.b7 a).pl.cells=[.b7 a]:=rfl;simp[ma,AV.bU,eV]
theorem fill_73(a:Nat):ma [.oO,(I 0),(I 0),(I 0),(I 0),(I 0),(I 0),(I 0),(I 0),(I 0),(I 0),(I 0),(I 0),(I 0),(I 0),(I 0),(I 0),(I 0),(I 0),(I 0),(I 0),(I 0),(I 0),(I 0),(I 0),(I 0),(I 0),(I 0),(I 0),(I 0),(I 0),(I 0),(I 0),(I 0),(I 0),(I 0),(I 0),(I 0),(I 0),(I 0),(I 0),(I 0),(I 0),(I 0),(I 0),(I 0),(I 0),(I 0),(I 0),(I 0),(I 0),(I 0),(I 0),(I 0),(I 0),(I 0),(I 0),(I 0),(I 0),(I 0),(I 0),(I 0),(I 0),(I 0),(I 0),(I 0),(I 0),(I 0),(I 0),(I 0),(I 0),(I 0),(I 0)] [(0,1,.b7 a)]=aa (jU a (λ_=>0) (λ_=>0)):=by
 rw[alB]<;>rfl
def Ah(c:D)(b:Lit):List gU:=((jT c b).map λa=>.ty a.1 a.2)++(si b).map λa=>.eq a.1 a.2
def qb(a:D)(r:aD)(c:Nat):List gU:=((BR a r).map λb=>.ty b.1 b.2)++((r.ah.take c).map (Ah a)).flatten
variable{V:D}
theorem alC{r:aD}(h:U<Z r.ah):qb V r (U+1)=qb V r U++Ah V r.ah[U]:=by
 grind[qb,List.take_succ_eq_append_getElem,List.flatten_append,List.append_assoc]
theorem alD{r:aD}:rb∈qb V r U<->rb∈wX (wZ V r U) (w2 r U):=by
 grind[qb,wX,Ah,wZ,w2,List.mem_flatten]
theorem W6{r:aD}:lW (qb V r U)<->lW (wX (wZ V r U) (w2 r U)):=
 by grind[lW.mono,alD]
theorem W7(c:U<Z V.Q)(a:List aJ):uA a V.Q[U].aZ (Z a)=(lX V (U:Int) a).map λb=>gU.ty b.1 b.2:=by
 grind[uA,lX,Int.toNat_natCast,List.getElem?_eq_getElem,List.take_of_length_le,List.length_zip]
structure Mw(P:D)(r:aD):Prop extends D4 P r where
 HI:Z r.af<=4
 W8:Z r.ah<=8
 vi:∀x∈r.ah,Z x.af<=4
 ba:∀q∈P.Q,∀k∈q.aZ,0<k
 W9:∀x∈r.ah,∀t∈x.af,t.aE=[]->0<t.const.ty
 Xa:∀x∈r.ah,x.ax=5->x.ai<0
 kn:∀x∈r.ah,x.ax≠5->0<=x.ai
theorem pVars_36{r:aD}(h:Mw V r):∀n,n<=Z r.ah->Z (mZ r n)<=4+4*n
 |0,_=>by
  have a:=Mu r.af [];have b:=h.HI;grind[mZ]
 |n+1,c=>by
  have d:=pVars_36 h n (by omega);have a:=Mu r.ah[n].af (mZ r n);have b:=h.vi r.ah[n] (bp _);grind[W4]
def HJ(c:D)(r:aD)(d:aL)(f:AV)(b:List Obj):Prop:=∃a e,f=.aB [I a,I e]/\(a=0<->vA c r)/\Holds b d
variable{f b9:Int}
theorem HJ.bad{r:aD}(h:Holds M k)(a:f≠0)(b:¬vA V r):HJ V r k (.aB [I f,I b9]) M:=⟨f,b9,rfl,by grind,h⟩
variable{rA:List AV -> List Obj -> Prop}
theorem kR{b:(List AV->List Obj->Prop)->Prop}(nW:List AV->List Obj->Prop)(d:∀c:List AV->List Obj->Prop,(∀a h,nW a h->c a h)->b c)(e:∀a h,nW a h->rA a h):jn b rA:=d rA e
variable{P:Lit}{bQ rj:aJ}
theorem litCn_5(a:P.ax=5)(c:P.ai<0)(b:P.af=[bQ,rj]):Ah V P=[.eq bQ rj]:=by
 grind[Ah,jT,si]
theorem alE(a:P.ax≠5)(b:U<Z V.Q)(c:P.ai=U):Ah V P=uA P.af V.Q[U].aZ (Z P.af):=by
 simp_all[Ah,jT,si,W7]
theorem alF{H:List Obj}(d:D)(r:aD)(h:Mw d r)(gQ:∀H,Holds H k->SC d z H)(gc:∀H,Holds H k->H[U]?=aa (.arr N 9 (r.ah.map ef)))(ca:Holds H k):
 HR C 275 [.ptr z 0 0 0,.agg (fb r (.q U N 0 (Z r.ah)))] H (HJ d r k):=by
 have i1:=h.W8;apply Tq.hq;have az:j0 9 (.agg (fb r (.q U N 0 (Z r.ah))))=aa (.aH ab (fb r (.q U N 0 (Z r.ah))) 0):=rfl;refine aI az (aY rfl (aI (fill_73 _) ?_));have a9:nw 73 (.agg (jU (Z H) (λ_=>0) (λ_=>0))) (H++[.mp ad [] []])=aa (.ptr (Z H+1) 0 0 0,H++[cf (vN [])]++[.arr 0 73 [jU (Z H) (λ_=>0) (λ_=>0)]]):=by
  simp only[nw,alA,kd,gy,jW];rfl
 refine aY a9 (aY (dR:=.ptr (Z H+1+1) 0 0 0) (oK:=H++[cf (vN [])]++[.arr 0 73 [jU (Z H) (λ_=>0) (λ_=>0)]]++[.arr 0 1 [[.gE]]]) (by simp[lA]) ?_);have Y:=((ca.alloc (cf (vN []))).alloc (.arr 0 73 [jU (Z H) (λ_=>0) (λ_=>0)])).alloc (.arr 0 1 [[.gE]]);simp only[gy,jW]at Y;generalize H++[cf (vN [])]++[.arr 0 73 [jU (Z H) (λ_=>0) (λ_=>0)]]++[.arr 0 1 [[.gE]]]=cl at*;generalize g6:Z H=am at*
 generalize go:am+1=o at*;generalize g0:o+1=t at*;apply aI (lE (bE:=[.gE]) (Y.get (U:=t) (hL:=.arr 0 1 [[.gE]]) (by simp)) rfl (by omega) rfl rfl);have Y:=Y.set (.arr 0 1 [[AV.ptr o 0 0 0]]);have Y:Holds (cl.set t (.arr 0 1 [[AV.ptr o 0 0 0]])) (ie am o [] (λ_=>0) (λ_=>0) ((t,.arr 0 1 [[AV.ptr o 0 0 0]])::k)):=by
  apply Y.perm;exact(List.Perm.swap _ _ _).trans (List.Perm.cons _ (List.Perm.swap _ _ _))
 change Holds (cl.set t (.arr 0 1 [[AV.gE].set 0 (.ptr o 0 0 0)])) _ at Y;generalize cl.set t (.arr 0 1 [[AV.gE].set 0 (.ptr o 0 0 0)])=h4 at*;clear a9 g6 go g0 ca;have eo:∀H,Holds H ((t,.arr 0 1 [[AV.ptr o 0 0 0]])::k)->H[t]?=aa (.arr 0 1 [[AV.ptr o 0 0 0]]):=λH h=>h.get (by simp);have a0:∀{H},Holds H ((t,.arr 0 1 [[AV.ptr o 0 0 0]])::k)->Holds H k:=λh=>h.tail
 have c2:∀H,Holds H ((t,.arr 0 1 [[AV.ptr o 0 0 0]])::k)->SC d z H:=λH h=>gQ H h.tail;generalize ge:(t,Obj.arr 0 1 [[AV.ptr o 0 0 0]])::k=a5 at*;clear ge;have hu:∀S,(fb r S)[1]?=aa (I r.ai):=λ_=>rfl;have h1:∀S,(fb r S)[2]?=aa (eS ab cT r.af):=λ_=>rfl;have hw:∀S,(fb r S)[3+2]?=aa (.str r.aj.aE):=λ_=>rfl;have hH:∀S,(fb r S)[7]?=aa S:=λ_=>rfl;have hO:∀S,(fb r S)[8]?=aa (I r.ba):=λ_=>rfl
 have f4:∀c:Lit,g (ef c) 0=I c.ax:=λ_=>rfl;have f5:∀c:Lit,g (ef c) 2=I c.ai:=λ_=>rfl;have d6:∀c:Lit,g (ef c) 3=eS ab cT c.af:=λ_=>rfl;have co:∀c:Lit,g (ef c) 4=.str c.bind:=λ_=>rfl;have cs:∀c:Lit,g (ef c) 8=I c.ba:=λ_=>rfl;simp only[bj,O,aK,e,hu,h1,hw,hH,hO,o0];apply aY (dR:=317) (oK:=[eS ab cT r.af,.ptr t 0 0 0]) rfl
 refine c7 (W5 r.af xt (by have:=h.HI;simp;omega) (by grind) eo Y) rfl λJ f2 ak=>?_;obtain⟨rfl,aC,el,M⟩:=ak;have d0:∀{H f},Holds H a5->∀P:f<Z r.ah,bT 9 (.q U N 0 (Z r.ah)) (I (f:Int)) H=aa (.ptr U N f 0)/\aQ 9 ad (.ptr U N f 0) H=aa (.agg (ef r.ah[f])):=by
  intro H f ca P;have w:=gc H (a0 ca);exact⟨fu w P,mi w (by simp[P]) (alz _)⟩
 apply bG (K:=Nat×List Obj×(Nat->Nat)) (λj=>[I j.1]) (λj=>j.2.1) (λj=>Z r.ah -j.1) (λj=>j.1<=Z r.ah/\Holds j.2.1 (ie am o (mZ r j.1) j.2.2 (λ_=>0) a5)/\∀f,f<Z (mZ r j.1)->j.2.2 f=f) (0,f2,aC) ⟨by simp,el,M⟩;clear el M Y;rintro⟨f,W,aC⟩ ⟨P,l,M⟩ id V;simp only at P l M V⊢;simp only[G,A,O,a];refine b (λw=>?_) (λw=>?_);have w:f<Z r.ah:=by simpa using w
 let⟨bi,bm⟩:=d0 (qa l) w;have g7:=pVars_36 h f P;have g4:=h.vi r.ah[f] (bp w);have cc:=W4 (r:=r) w;simp only[bi,bm,O,Mv,d6,a6 (show f<4611686018427387904 by omega)];apply aY (dR:=317) (oK:=[eS ab cT r.ah[f].af,.ptr t 0 0 0]) rfl;refine c7 (W5 r.ah[f].af (Mt r f) (by omega) M eo l) rfl λJ f3 ak=>?_;obtain⟨rfl,L,B,p⟩:=ak;rw[<-cc]at B p;exact V (f+1,f3,L) ⟨w,B,p⟩ (by simp;omega)
 have:f=Z r.ah:=by simp at w;omega
 subst this;clear V;have g7:=pVars_36 h _ P;have i5:=alx r;have gt:∀K,K∈mZ r (Z r.ah)<->K∈fB r:=λK=>aly;have hg:∀F∈r.af,F.aE=[]\/F.aE∈mZ r (Z r.ah):=by grind[Eh]
 have he:∀c∈r.ah,∀F∈c.af,F.aE=[]\/F.aE∈mZ r (Z r.ah):=by grind[Eh]
 have a2:iM (mZ r (Z r.ah)) [] aC (λ_=>0):=iM.start (Mt r _) (by grind[Eh]) M (λ_ _=>rfl);generalize mZ r (Z r.ah)=R at*;have ds:∀{H},Holds H a5->aQ 1 ab (.ptr t 0 0 0) H=aa (.ptr o 0 0 0):=by grind[gx]
 have ex:gk .map (.b7 am) W=aa (I (Z R)):=by simp[gk,BY l,cf,qZ,WV]
 simp only[ds (qa l),uz l,tv l,O,fW,cl_0 l,ex,eX];refine b (λbD=>?_) (λbD=>?_);refine .bad (a0 (qa l)) (by omega) ?_;rintro⟨x,-⟩;grind;have f9:Z (fB r)<=12:=by simp only[decide_eq_false_iff_not]at bD;omega
 have fd:∀ci,ci<=Z r.ah->yu d r->lW (qb d r ci):=by grind[W6,Wn]
 refine kR (λJ u=>∃X aC be,J=[.bool (!X)]/\Holds u (ie am o R aC be a5)/\(X=ad->iM R (qb d r 0) aC be)/\(X=ab->¬lW (qb d r 0))) (λd4 a3=>?_) ?_;simp only[h0,O];have g8:qb d r 0=(BR d r).map λK=>gU.ty K.1 K.2:=by simp[qb]
 refine aW (λx=>?_) (λx=>?_);have x:0<=r.ai:=by simpa using x
 let⟨s,T,az,a9⟩:=h.fit x;rw[az];have g9:qb d r 0=[]++uA r.af d.Q[s].aZ (Z r.af):=by
  rw[g8,BR,if_pos x,az,W7 T]<;>rfl
 refine c7 (W2 d r.af s T a2 (by omega) (by have:=h.HI;grind[Sm]) a9 (h.ba _ (bp T)) hg c2 l) rfl λJ u ak=>?_;obtain⟨v,L,au,rfl,B,p,E⟩:=ak;rw[<-g9]at p E;simp only[bK,O];grind;have x:¬0<=r.ai:=by simpa using x
 refine a3 _ _ ⟨ad,aC,_,rfl,l,λ_=>?_,λh=>(by cases h)⟩;grind[BR];rintro J G0 ⟨X,f7,h3,rfl,d9,p,E⟩;clear a2 M ex l;simp only[G];refine dw (λx=>?_) (λx=>?_);exact .bad (a0 (qa d9)) (by omega) λd2=>E x (fd 0 (by omega) d2.2.1)
 apply bG (K:=Nat×List Obj×(Nat->Nat)×(Nat->Int)) (λj=>[I 0,I 0,I j.1]) (λj=>j.2.1) (λj=>Z r.ah -j.1) (λj=>j.1<=Z r.ah/\Holds j.2.1 (ie am o R j.2.2.1 j.2.2.2 a5)/\iM R (qb d r j.1) j.2.2.1 j.2.2.2) (0,G0,f7,h3) (by grind);clear p E d9;rintro⟨f,W,aC,be⟩ ⟨P,l,a2⟩ ii V;simp only at P l a2 V⊢;simp only[G,i,A,O,a];refine b (λm=>?_) (λm=>?_);have m:f<Z r.ah:=by simpa using m
 let⟨bi,bm⟩:=d0 (qa l) m;have ac:r.ah[f]∈r.ah:=bp m;have cc:=alC (V:=d) m;have d5:=λu L au w bD=>V (f+1,u,L,au) ⟨m,w,bD⟩ (by simp;omega);simp only[bi,bm,O,Mv];generalize r.ah[f]=c at*;refine kR (λJ u=>∃X aC be,J=.bool (!X)::ef c/\Holds u (ie am o R aC be a5)/\(X=ad->iM R (qb d r (f+1)) aC be)/\(X=ab->¬lW (qb d r (f+1)))) (λd4 a3=>?_) ?_;simp only[f4,f5,d6,co,cs,tw,cx,O,ds (qa l)]
 refine aW (λn=>?_) (λn=>?_);have n:c.ax=5:=by simpa using n
 let⟨F,a4,d1⟩:∃F a4,c.af=[F,a4]:=by
  have:=h.cmp c ac n
  match g4:c.af,this with
  |[F,a4],_=>grind
 have hj:bT 4 (eS ab cT c.af) (I 0) W=aa (.aH ab (cT F) 0):=by rw[d1];exact aF (x:=[F,a4]) (U:=0) (by simp) rfl
 have d3:bT 4 (eS ab cT c.af) (I 1) W=aa (.aH ab (cT a4) 0):=by rw[d1];exact aF (x:=[F,a4]) (U:=1) (by simp) rfl
 have i6:∀K∈c.af,K.aE∈R\/K.aE=[]/\0<K.const.ty:=λK hh=>by
  by_cases br:K.aE=[];exact .inr ⟨br,h.W9 c ac K hh br⟩;grind
 simp only[hj,d3,lL,O];refine c7 (alv F a4 a2 (by omega) (by grind) (by grind) l) rfl λJ u ak=>?_;obtain⟨v,L,au,rfl,B,p,E⟩:=ak;rw[<-litCn_5 n (h.Xa c ac n) d1,<-cc]at p E;simp only[bK,O];refine h7 (λaA=>?_) (λaA=>?_);have:(c.ax !=5)=false:=by simp[n]
 rw[this];simp only[jC,eZ,if_false];subst aA;exact a3 _ _ ⟨ad,L,au,rfl,B,p,E⟩;subst aA;exact a3 _ _ ⟨ab,L,au,rfl,B,p,E⟩;have n:c.ax≠5:=by simpa using n
 let⟨s,T,az,a9⟩:=h.fits c ac (h.kn c ac n);have:(c.ax !=5)=true:=by simpa using n
 rw[this];simp only[jC,if_true];rw[az];refine c7 (W2 d c.af s T a2 (by omega) (by have:=h.vi c ac;grind[Sm]) a9 (h.ba _ (bp T)) (he c ac) c2 l) rfl λJ u ak=>?_;obtain⟨v,L,au,rfl,B,p,E⟩:=ak;rw[<-alE n T az,<-cc]at p E;simp only[bK,O];rw[<-az];exact a3 _ _ ⟨v,L,au,rfl,B,p,E⟩;rintro J u ⟨X,L,au,rfl,B,p,E⟩;simp only[G,i,cs,a6 (show f<4611686018427387904 by omega),O];refine dw (λn=>?_) (λn=>?_)
 exact .bad (a0 (qa B)) (by omega) λd2=>E n (fd (f+1) m d2.2.1);exact d5 u L au B (p n);have:f=Z r.ah:=by simp at m;omega
 subst this;clear V;have ha:yu d r:=W6.1 a2.sat;have i7:vA d r<->tm d r=true:=⟨λh=>h.2.2,λh=>⟨f9,ha,h⟩⟩;have i2:∀s:Int,tm d r=ab->HJ d r k (.aB [I 72,I s]) W:=λs i4=>.bad (a0 (qa l)) (by omega) (by grind);apply bG (K:=Nat×Bool) (λj=>[I 0,I 0,.bool j.2,I j.1]) (λ_=>W) (λj=>Z r.ah -j.1) (λj=>j.1<=Z r.ah/\mW d r r.ah ab=mW d r (r.ah.drop j.1) j.2) (0,ab) ⟨by simp,by simp⟩;rintro⟨f,bv⟩ ⟨P,aR⟩ io V
 simp only at P aR V⊢;simp only[G,i,A,O,a];refine b (λm=>?_) (λm=>?_);have m:f<Z r.ah:=by simpa using m
 let⟨bi,bm⟩:=d0 (qa l) m;have ac:r.ah[f]∈r.ah:=bp m;rw[Wo m]at aR;have d5:=λf8 g3=>V (f+1,f8) ⟨m,g3⟩ (by simp;omega);rw[bw];simp only[bi,bm,O,Mv,co,gT];generalize r.ah[f]=c at*;refine b (λn=>?_) (λn=>?_);rw[if_pos (by grind)]at aR;simp only[G,i,a6 (show f<4611686018427387904 by omega),O];exact d5 bv aR;have eq:c.bind≠[]:=by simpa using n
 rw[if_neg eq]at aR;let⟨hn,f0,kw⟩:=Eb (E:=.b7 am) (iA:=vN R) (M:=W) c.bind (by simp[mc,BY l,cf]);have g2:((vN R).map Prod.fst).contains c.bind=y (c.bind∈fB r):=by
  rw[Mm,iQ];simp only[E7,decide_eq_true_eq];exact gt _
 rw[g2]at f0;simp only[ds (qa l),uz l,tv l,O,fW,cl_0 l,f0,fH,de,eF];refine kR (λJ u=>J=.bool (bv|| !y (c.bind=r.aj.aE)||y (c.bind∈fB r)||hR d c.ai !=hR d r.ai)::ef c/\u=W) (λd4 a3=>?_) ?_;have ce:∀v:Bool,(bv|| !y (c.bind=r.aj.aE)||y (c.bind∈fB r)||hR d c.ai !=hR d r.ai)=v->d4 (.bool v::ef c) W:=λv br=>a3 _ _ ⟨by rw[br],rfl⟩
 refine ei (λaA=>ei (λd8=>?_) (λd8=>ce ad (by grind))) (λaA=>ce ad (by grind));simp only[O,jD];have g1:(!(c.bind==r.aj.aE))= !y (c.bind=r.aj.aE):=by rw[iQ];simp
 rw[g1];refine h7 (λc1=>?_) (λc1=>ce ad (by grind));have i0:c.bind=r.aj.aE:=by simpa using c1
 let⟨s,T,em⟩:=h.bind _ ac eq;let⟨v,M,es⟩:=h.aE (by grind);have ho:hR d c.ai=d.Q[s].of:=by rw[hR,T,eN,bu em]
 have hs:hR d r.ai=d.Q[v].of:=by rw[hR,M,eN,bu es]
 have dl:=c2 _ (qa l);let⟨ke,ht,d7⟩:=dl.s7;let⟨i8,it,d3,fn,hk⟩:=d7.at em;let⟨i9,iC,hl,fx,hm⟩:=d7.at es;have B:(bO ab d.Q[s])[3]?=aa (I d.Q[s].of):=rfl;have p:(bO ab d.Q[v])[3]?=aa (I d.Q[v].of):=rfl;have kl:(fb r (.q U N 0 (Z r.ah)))[1]?=aa (I (v:Int)):=by rw[<-M]<;>rfl
 have f6:g (ef c) 2=I (s:Int):=by rw[<-T]<;>rfl
 have key:=ce (d.Q[s].of !=d.Q[v].of) (by rw[aA,d8,c1,ho,hs]<;>rfl);have g5:ef c=[g (ef c) 0,g (ef c) 1,g (ef c) 2,g (ef c) 3,g (ef c) 4,g (ef c) 5,g (ef c) 6,g (ef c) 7,g (ef c) 8]:=rfl;rw[g5]at key;simp only[co]at key;simp only[dl.nc,dl.ao,O,e,fW,ht,M,f6,d3,hl,o8 fn,o8 fx,cY fn hk,cY fx hm,B,p,cx]at key⊢;exact key;rintro J u ⟨rfl,rfl⟩;simp only[G,i,cs];refine b (λaA=>?_) (λaA=>?_);simp_all[tm]
 rw[if_neg (by grind)]at aR;simp only[a6 (show f<4611686018427387904 by omega),O];grind;have:f=Z r.ah:=by simp at m;omega
 subst this;rw[qk,mW]at aR;have i3:tm d r=(r.aj.aE==[]||bv):=by rw[tm,aR]
 simp only[O,jD,bK,bw,G];refine Bq (λx=>?_) (λx=>?_);refine dw (λm=>?_) (λm=>?_);simp_all;exact⟨0,0,rfl,by grind,a0 (qa l)⟩;simp only[c3,eZ,if_false];exact⟨0,0,rfl,by grind,a0 (qa l)⟩
variable{hF:Nat × Obj}
section
variable{H:List Obj}{S m1 m2 m3:Nat}{lv fv pv rv dv:AV}{n1 n2 n3:hx}{PD PL PF PP F:aL}
theorem HK(a:aL):bf S m1 m2 m3 lv fv pv rv dv n1 n2 n3 PD PL PF PP (a++F)=bf S m1 m2 m3 lv fv pv rv dv n1 n2 n3 PD PL PF PP []++(a++F):=by simp[bf]
theorem bf.out{a:aL}(h:Holds H (bf S m1 m2 m3 lv fv pv rv dv n1 n2 n3 PD PL PF PP (a++F))):Holds H (a++bf S m1 m2 m3 lv fv pv rv dv n1 n2 n3 PD PL PF PP F):=by
 rw[HK]at h;have b:=h.swap;grind[bf]
theorem bf.HL{a:aL}(h:Holds H (a++bf S m1 m2 m3 lv fv pv rv dv n1 n2 n3 PD PL PF PP F)):Holds H (bf S m1 m2 m3 lv fv pv rv dv n1 n2 n3 PD PL PF PP (a++F)):=by
 have b:bf S m1 m2 m3 lv fv pv rv dv n1 n2 n3 PD PL PF PP F=bf S m1 m2 m3 lv fv pv rv dv n1 n2 n3 PD PL PF PP []++F:=HK [];rw[b]at h;rw[HK];exact h.swap
theorem bf.Xb(h:Holds H (bf S m1 m2 m3 lv fv pv rv dv n1 n2 n3 PD PL PF PP (hF::F))):Holds H (hF::bf S m1 m2 m3 lv fv pv rv dv n1 n2 n3 PD PL PF PP F):=bf.out (a:=[hF]) h
theorem bf.alG(h:Holds H (hF::bf S m1 m2 m3 lv fv pv rv dv n1 n2 n3 PD PL PF PP F)):Holds H (bf S m1 m2 m3 lv fv pv rv dv n1 n2 n3 PD PL PF PP (hF::F)):=bf.HL (a:=[hF]) h
end
structure HM(p:D)(lv fv pv:AV)(n1 n2 n3:hx)(PL PF PP:aL):Prop where
 gl:bB lv (bo ab) 4 p.aw PL
 gf:bB fv (cg ab) 7 (p.aO.map (eK p)) PF
 gp:bB pv (bO ab) 7 (p.Q.map (ew p)) PP
 k2:ot Fn.au p.aO n2
 alH:ot cO.au p.Q n3
variable{K bZ:Type}
theorem Xc(a:K->bZ)(c:bZ->Bool)(b:List K):b1 c (b.map a)=b1 (λd=>c (a d)) b:=by
 unfold b1;rw[List.findIdx?_map]<;>rfl
variable{E dQ oF:AV}{iA:hx}{bn hG:aL}{dh:Nat}{oM oI:AV}{js mF:aL}
theorem HM.SC{c d:hx}(h:HM V E dQ oF iA c d k bn hG)
 (a:Holds M (bf U N z dh E dQ oF oM oI iA c d js k bn hG mF)):SC (ee V []) U M:=
 ⟨E,dQ,oF,oM,N,z,dh,oI,c,d,bf.sc a,h.gl.gr (bf.pl a),h.gf.gr (bf.pf a),h.gp.gr (bf.pp a),bf.ak9 a,bf.ala a,
  λb=>by rw[h.k2 b];exact(Xc (eK V) (λe=>e.au==b) V.aO).symm,
  λb=>by rw[h.alH b];exact(Xc (ew V) (λe=>e.au==b) V.Q).symm⟩
theorem alI(h:iJ bQ=ad)(a:bQ.aE=[]):0<bQ.const.ty:=by
 grind[iJ,nE]
theorem alJ(h:bY bL=ad):bL≠[]:=by
 rintro rfl;have:bY []=false:=by decide
 grind
theorem alK(h:n4 P=ad):(P.ax=3\/P.ax=4)<->P.aj≠[]:=by
 unfold n4 at h;simp only[bc]at h;grind[alJ]
theorem alL{r:aD}(h:nF r=ad):∀a∈r.ah,n4 a=true:=by
 unfold nF at h;simp only[bc]at h;exact(ux h.2).2
theorem alM(m:∀j∈V.Q,Z j.aZ<=4/\∀i∈j.aZ,i=1\/i=2){r:aD}(f:HA r)(k:gN V r=ad)(h:r.ah.all (hQ V)=ad):Mw V (fh V r):=by
 have l:=Wx m f k h;rw[eL]at h;have g:∀c∈(fh V r).ah,∃a∈r.ah,c=iq V a:=by
  intro c b;simp only[fh,cy]at b;obtain⟨a,d,rfl⟩:=b;exact⟨a,d,rfl⟩
 refine{toD4:=l,HI:=f.af,W8:=?_,vi:=λc b=>?_,ba:=λj u i e=>?_,W9:=λc b p n o=>?_,Xa:=λc b e=>?_,kn:=λc b e=>?_};have:=f.ah;grind[fh];obtain⟨a,d,rfl⟩:=g c b;exact(f.lit a d).af;grind;obtain⟨a,d,rfl⟩:=g c b;exact alI ((f.lit a d).Ab p n) o;obtain⟨a,d,rfl⟩:=g c b;have e:a.ax=5:=e;show nN V a<0;grind[nN];obtain⟨a,d,rfl⟩:=g c b;have e:a.ax≠5:=e;let⟨q,t,s,_⟩:=HB (h a d) e;show 0<=nN V a;grind[nN]
theorem alN(a:List K)(e d:K)(c:List K)(b:Nat)(h:Z a=b):(a++e::c).set b d=a++d::c:=by
 simp_all
def rr(r:aD)(a b:Int)(c:List Lit):aD:=⟨r.au,a,r.af,⟨r.aj.ax,r.aj.au,r.aj.aE,b⟩,c,r.ba⟩
theorem alO(r:aD)(id g a:Nat):dS 9 (.agg (fb r (.q id g 0 a)))=aa (fb r (.q id g 0 a)):=ji rfl rfl
theorem Xd(b d:List (Int×Int))(c a:Int):oq (b++d) c a=b++oq d c a:=by
 grind[oq]
section
variable{H:List Obj}{S m1 m2 m3:Nat}{lv fv pv rv dv:AV}{n1 n2 n3:hx}{PD PL PF PP F:aL}
theorem bf.alP{a:Nat×Obj}(h:Holds H (bf S m1 m2 m3 lv fv pv rv dv n1 n2 n3 PD PL PF PP (hF::a::F))):Holds H (a::bf S m1 m2 m3 lv fv pv rv dv n1 n2 n3 PD PL PF PP (hF::F)):=by
 have b:=(bf.out (a:=[hF,a]) h).perm (List.Perm.swap a hF _);have e:Holds H ([a]++(hF::bf S m1 m2 m3 lv fv pv rv dv n1 n2 n3 PD PL PF PP F)):=b;have d:Holds H (bf S m1 m2 m3 lv fv pv rv dv n1 n2 n3 PD PL PF PP (a::hF::F)):=bf.HL (a:=[a,hF]) b;exact bf.Xb d
theorem bf.alQ{a:Nat×Obj}(h:Holds H (a::bf S m1 m2 m3 lv fv pv rv dv n1 n2 n3 PD PL PF PP (hF::F))):Holds H (bf S m1 m2 m3 lv fv pv rv dv n1 n2 n3 PD PL PF PP (hF::a::F)):=by
 have c:=bf.out (a:=[a,hF]) (bf.alG h);exact bf.HL (a:=[hF,a]) (c.perm (List.Perm.swap hF a _))
end
def alR(c:D)(r:aD)(m p s t:Nat)(o n x y:AV)(u v w:hx)(k j l h:aL)(f:List (Int×Int))(z:AV)(i:List Obj):Prop:=
 ∃a d g e b,z=.agg (fb a (.q d 0 0 (Z a.ah)))/\bB g b2 2 b e/\Holds i (bf m p s t o n x y g u v w e k j l ((d,.arr 0 9 (a.ah.map ef))::h))/\Z b<=Z f+10/\
  (b=[]<->f=[]/\lD (ee c []) r)/\(lD (ee c []) r->a=fh (ee c []) r)
variable{ey:List (Int × Int)}{T:Bool}
theorem e8.alS(a5:e8 C){s t:hx}(v:D)(r:aD)(fx:eI (ee v []))(f0:HM v E dQ oF iA s t bn hG js)
 (ho:∀f6∈v.Q,Z f6.aZ<=4/\∀f1∈f6.aZ,f1=1\/f1=2)(fd:nF r=ad)(ce:bB oI b2 2 ey k)(i0:Z ey<=900000)
 (d5:Holds M (bf U N z dh E dQ oF oM oI iA s t k bn hG js mF)):HR C 211 [.ptr U 0 0 0,.agg (aS T r)] M (alR v r U N z dh E dQ oF oM iA s t bn hG js mF ey):=by
 have W:=Wu fd;have iC:=W.ah;have hu:=Wy (rs:=[]) ho;have ex:=HC v [];apply Tm.hq;apply aY (dR:=.ptr (Z M) 0 0 0) (oK:=M++[.arr 0 9 [aS T r]]) (by simp[nw]);have ak:=d5.alloc (.arr 0 9 [aS T r]);generalize M++[.arr 0 9 [aS T r]]=B at*;generalize Z M=p at*;have H:=bf.sc ak.tail;have am:B[p]?=aa (.arr 0 9 [aS T r]):=ak.get (by simp);have aE:aQ 1 ab (.ptr U 0 0 7) B=aa oI:=gx H rfl
 have f2:aQ 1 ab (.ptr p 0 0 2) B=aa (eS T cT r.af):=gx am rfl;have f3:aQ 1 ab (.ptr p 0 0 7) B=aa (eS T (bg T) r.ah):=gx am rfl;simp only[hT H,eD H,eD am,O,e,aE,f2,f3,ce.ln];refine c (a5.WK r.af (by have:=W.af;omega)) ?_;apply qJ _ (by simpa using a5.akY r.ah (by omega) B);have F:=(ak.alloc (.arr 0 9 [])).alloc (.arr 0 9 (r.ah.map (bg T)))
 have d4:B++[Obj.arr 0 9 [],.arr 0 9 (r.ah.map (bg T))]=B++[Obj.arr 0 9 []]++[.arr 0 9 (r.ah.map (bg T))]:=by simp
 rw[gy,jW]at F;rw[d4];generalize B++[Obj.arr 0 9 []]++[.arr 0 9 (r.ah.map (bg T))]=gc at*;generalize g5:Z B+1=d at*;have F:Holds gc ((p,.arr 0 9 [aS T r])::(d,.arr 0 9 (r.ah.map (bg T)))::bf U N z dh E dQ oF oM oI iA s t k bn hG js mF):=by
  refine Holds.perm (k:=(d,.arr 0 9 (r.ah.map (bg T)))::(p,.arr 0 9 [aS T r])::bf U N z dh E dQ oF oM oI iA s t k bn hG js mF) ?_ (List.Perm.swap _ _ _);exact Holds.tail (F.perm (List.Perm.swap _ _ _))
 clear d4 g5 ak H am aE f2 f3 d5;have ev:∀(f4:List AV)(m:List Obj),Holds m ((p,.arr 0 9 [f4])::(d,.arr 0 9 (r.ah.map (bg T)))::bf U N z dh E dQ oF oM oI iA s t k bn hG js mF)->Holds m ((p,.arr 0 9 ([[]].set 0 f4))::(d,.arr 0 9 (r.ah.map (bg T)))::bf U N z dh E dQ oF oM oI iA s t k bn hG js mF):=λ_ _ h=>h;have V:0<Z ([[]]:List (List AV)):=by decide
 have F:=ev _ _ F;simp only[mY F,O,e];refine tu V F (by simp[aS]) rfl rfl λio bv=>?_;simp only[mY bv,O,e];refine tu V bv (by simp[aS]) rfl rfl λge P=>?_;have P:Holds ge ((p,.arr 0 9 ([[]].set 0 (fb r (.q d 0 0 (Z r.ah)))))::(d,.arr 0 9 (r.ah.map (bg T)))::bf U N z dh E dQ oF oM oI iA s t k bn hG js mF):=P;have f7:∀a3 ac,(fb a3 ac)[8]?=aa (I a3.ba):=λ_ _=>rfl;simp only[mY P,ss V P,O,e,f7]
 clear F bv;have d8:∀m,Holds m ((d,.arr 0 9 (r.ah.map (bg T)))::bf U N z dh E dQ oF oM oI iA s t k bn hG js mF)->SC (ee v []) U m:=λm n=>f0.SC n.tail;refine c7 (alj (ee v []) r fx (by have:=W.af;grind[Sm]) ex V d8 P) rfl λJ go w=>?_;obtain⟨bi,l,o,rfl,hg,g9,R⟩:=w;simp only[mY R,ss V R,O,e,f7,mf,true_and];have f5:(ic r l o).ba=r.ba:=rfl;rw[f5];simp only[mf,true_and]
 have R:Holds go (bf U N z dh E dQ oF oM oI iA s t k bn hG js ((p,.arr 0 9 [fb (ic r l o) (.q d 0 0 (Z r.ah))])::(d,.arr 0 9 (r.ah.map (bg T)))::mF)):=bf.HL (a:=[(p,.arr 0 9 [fb (ic r l o) (.q d 0 0 (Z r.ah))]),(d,.arr 0 9 (r.ah.map (bg T)))]) R;refine c7 (bf.report R bi r.ba ce (by omega)) rfl λJ c1 w=>?_;obtain⟨rfl,d2,dl,d9,bD⟩:=w;have d0:∀a3 ac,(fb a3 ac)[7]?=aa ac:=λ_ _=>rfl
 have cc:c1[p]?=aa (.arr 0 9 [fb (ic r l o) (.q d 0 0 (Z r.ah))]):=bD.get (by simp[bf]);simp only[eD cc,O,e,gx cc (d0 _ _),o0];clear cc R P;have el:bB d2 b2 2 (ey++oq [] bi r.ba) dl:=by rw[<-Xd,sO];exact d9
 have fn:gN (ee v []) r=ad->l=j8 (ee v []) r/\o=oo (ee v []) r:=λh=>by
  have S:=g9 h;exact⟨congrArg aD.ai S,congrArg (λY=>Y.aj.aR) S⟩
 generalize d6:ee v []=g at*;have d7:∀{oI:AV}{k:aL}{mF:aL}{m:List Obj},Holds m (bf U N z dh E dQ oF oM oI iA s t k bn hG js mF)->SC g U m:=λn=>by rw[<-d6];exact f0.SC n
 clear d8 f5 ev ce d9;refine bG (K:=Nat×List Obj×List Lit×AV×List (Int×Int)×aL) (λj=>[I j.1,.str [],I 0,.aq,I 0,.str [],.str [],I 0,.aq,I 0]) (λj=>j.2.1) (λj=>Z r.ah -j.1) (λj=>j.1<=Z r.ah/\Holds j.2.1 (bf U N z dh E dQ oF oM j.2.2.2.1 iA s t j.2.2.2.2.2 bn hG js ((p,.arr 0 9 [fb (ic r l o) (.q d 0 0 (Z r.ah))])::(d,.arr 0 9 (j.2.2.1.map ef++(r.ah.drop j.1).map (bg T)))::mF))/\
  bB j.2.2.2.1 b2 2 (ey++j.2.2.2.2.1) j.2.2.2.2.2/\Z j.2.2.2.2.1<=1+j.1/\Z j.2.2.1=j.1/\(j.2.2.2.2.1=[]<->gN g r=ad/\(r.ah.take j.1).all (hQ g)=ad)/\((r.ah.take j.1).all (hQ g)=ad->j.2.2.1=(r.ah.take j.1).map (iq g))) (0,c1,[],d2,oq [] bi r.ba,dl) ⟨by simp,bD,el,BW,rfl,by simp[BV,hg],by simp⟩ ?_
 clear bD el;rintro⟨f,m,x,oI,Y,k⟩ ⟨hk,n,au,h1,az,ax,aA⟩ ip co;simp only at hk n au h1 az ax aA co⊢;simp only[G,i,A,O,a];have ca:m[p]?=aa (.arr 0 9 [fb (ic r l o) (.q d 0 0 (Z r.ah))]):=n.get (by simp[bf]);refine b (λh=>?_) (λh=>?_);have h:f<Z r.ah:=by simpa using h
 have eq:r.ah[f]∈r.ah:=bp h;have em:r.ah.drop f=r.ah[f]::r.ah.drop (f+1):=oC h;have eo:∀a9:List AV,(x.map ef++(r.ah.drop f).map (bg T)).set f a9=x.map ef++a9::(r.ah.drop (f+1)).map (bg T):=by
  intro a9;rw[em];exact alN _ _ _ _ _ (by simp[az])
 have X:f<Z (x.map ef++(r.ah.drop f).map (bg T)):=by simp;omega
 have hH:(x.map ef++(r.ah.drop f).map (bg T)).set f (bg T r.ah[f])=x.map ef++(r.ah.drop f).map (bg T):=by rw[eo,em]<;>rfl
 have K:=bf.alP n;rw[<-hH]at K;have hs:∀gQ h3,(ef (j9 r.ah[f] gQ h3))[8]?=aa (I r.ah[f].ba):=λ_ _=>rfl;have ht:(ef r.ah[f])[8]?=aa (I r.ah[f].ba):=rfl;have i7:(r.ah.take (f+1)).map (iq g)=(r.ah.take f).map (iq g)++[iq g r.ah[f]]:=by
  rw[iu h,hE]<;>rfl
 have ha:=Wr (ea:=hQ g) h;have cl:=W.lit _ eq;have hl:=alK (alL fd _ eq);generalize i6:r.ah[f]=y at*;generalize i2:x.map ef++(r.ah.drop f).map (bg T)=g4 at*;have h4:bT 9 (.q d 0 0 (Z r.ah)) (I (f:Int)) m=aa (.ptr d 0 f 0):=fu (Ef K) h;have g1:(bg T y)[3]?=aa (eS T cT y.af):=rfl;simp only[eD ca,O,e,gx ca (d0 _ _),h4,p9 K,mY K,ss X K,g1];refine c (a5.WK y.af (by have:=cl.af;omega)) ?_
 refine tu X K (by simp[bg]) rfl rfl λf9 L=>?_;have L:Holds f9 ((d,.arr 0 9 (g4.set f (ef y)))::bf U N z dh E dQ oF oM oI iA s t k bn hG js ((p,.arr 0 9 [fb (ic r l o) (.q d 0 0 (Z r.ah))])::mF)):=L;simp only[p9 L,mY L,ss X L,O,e,ht];refine c7 (alk g y fx (by have:=cl.af;grind[Sm]) ex cl.cmp hl X (λm n=>d7 n) L) rfl λJ a4 w=>?_;obtain⟨bm,g0,id,rfl,hh,i5,u⟩:=w
 simp only[p9 u,mY u,ss X u,O,e,hs,mf,true_and];rw[eo]at u;have u:=bf.alQ u;refine c7 (bf.report u bm y.ba au (by grind)) rfl λJ cs w=>?_;obtain⟨rfl,d3,ds,ci,g6⟩:=w;rw[Xd]at ci;rw[a6,O];have i8:=BW (ey:=Y) (f:=bm) (b9:=y.ba);refine co (f+1,cs,x++[j9 y g0 id],d3,oq Y bm y.ba,ds) ⟨h,?_,ci,by simp only;omega,by simp[az],?_,?_⟩ (by simp;omega);grind;rw[BV,ax,ha,hh,and_assoc];grind
 have:f=Z r.ah:=by simp at h;omega
 subst this;clear co;rw[dU]at ax aA;rw[qk,nj,sO]at n;have g8:lD g r<->(gN g r=ad/\r.ah.all (hQ g)=ad)/\vA g (fh g r):=by unfold lD;rw[and_assoc]
 refine kR (λJ f8=>∃d1 c2 be,bB d1 b2 2 be c2/\Holds f8 (bf U N z dh E dQ oF oM d1 iA s t c2 bn hG js ((p,.arr 0 9 [fb (ic r l o) (.q d 0 0 (Z r.ah))])::(d,.arr 0 9 (x.map ef))::mF))/\Z be<=Z ey+10/\(be=[]<->ey=[]/\lD g r)) (λi9 i4=>?_) ?_;have H:=bf.sc n;have aE:aQ 1 ab (.ptr U 0 0 7) m=aa oI:=gx H rfl
 simp only[hT H,eD H,O,e,aE,au.ln,di,mi ca (show([fb (ic r l o) (.q d 0 0 (Z r.ah))])[0]?=aa _ from rfl) (show Z (fb (ic r l o) (.q d 0 0 (Z r.ah)))=9 from rfl)];refine b (λbr=>?_) (λbr=>?_);have hO:Y=[]:=by
  rw[beq_iff_eq]at br;rw[gy]at br;exact tH (by omega)
 subst hO;let⟨a0,a2⟩:=ax.1 rfl;obtain⟨rfl,rfl⟩:=fn a0;have hm:=aA a2;have hw:fb (ic r (j8 g r) (oo g r)) (.q d 0 0 (Z r.ah))=fb (fh g r) (.q d 0 0 (Z (fh g r).ah)):=by
  have:Z (fh g r).ah=Z r.ah:=by simp[fh]
  rw[this]<;>rfl
 have hn:x.map ef=(fh g r).ah.map ef:=by rw[hm]<;>rfl
 rw[hw];refine c7 (alF (U:=d) (N:=0) g (fh g r) (alM hu W a0 a2) (λm n=>d7 n) (λm n=>?_) n) rfl λJ a4 w=>?_;rw[<-hn];exact n.get (by simp[bf]);obtain⟨S,l,rfl,i1,u⟩:=w;simp only[fH,de,eF,O];refine c7 (bf.report u S l au (by grind)) rfl λJ cs w=>?_;obtain⟨rfl,d3,ds,ci,g6⟩:=w;grind[BW,BV];grind;rintro J a4 ⟨g3,gt,g2,hj,u,he,i3⟩
 have g7:a4[p]?=aa (.arr 0 9 [fb (ic r l o) (.q d 0 0 (Z r.ah))]):=u.get (by simp[bf]);simp only[mi g7 (show([fb (ic r l o) (.q d 0 0 (Z r.ah))])[0]?=aa _ from rfl) (show Z (fb (ic r l o) (.q d 0 0 (Z r.ah)))=9 from rfl),O,alO];refine⟨rr r l o x,d,g3,gt,g2,?_,hj,(bf.Xb u).tail,he,by grind,λes=>?_⟩;have:Z (rr r l o x).ah=Z r.ah:=az;rw[this]<;>rfl
 rw[d6]at es⊢;let⟨⟨a0,a2⟩,_⟩:=g8.1 es;obtain⟨rfl,rfl⟩:=fn a0;rw[aA a2]<;>rfl
def vF(a:aD×Nat):List AV:=fb a.1 (.q a.2 0 0 (Z a.1.ah))
def HN(a:aD×Nat):Nat×Obj:=(a.2,.arr 0 9 (a.1.ah.map ef))
@[simp] theorem alT(a:aD×Nat):Z (vF a)=9:=rfl
variable{iz:List Obj -> Prop}
section
variable{H:List Obj}{S m1 m2 m3:Nat}{lv fv pv rv dv:AV}{n1 n2 n3:hx}{PD PL PF PP PR PB:aL}
theorem bf.yh(h:Holds H (bf S m1 m2 m3 lv fv pv rv dv n1 n2 n3 PD PL PF PP (hF::(PR++PB)))){b:List (aD×Nat)}(s:bB rv vF 9 b PR)(a:aD×Nat)(y:Z b<1000000)
 (f:∀n l j,bB n vF 9 (b++[a]) l->Holds j (bf S m1 m2 m3 lv fv pv n dv n1 n2 n3 PD PL PF PP (l++(hF::PB)))->iz j):
 cj (cJ 9 128 rv (.sl ab [vF a]) H) λt c=>bd (iH (.ptr S 0 0 0) c) λu=>bd (dD 0 u c) λv=>bd (dD 3 v c) λw=>bd (dp 1 w t c) λr=>iz r:=by
 let T:=PD++((m1,cf n1)::(m2,cf n2)::(m3,cf n3)::(PL++(PF++PP)));have eq:∀rv i,bf S m1 m2 m3 lv fv pv rv dv n1 n2 n3 PD PL PF PP i=(S,fU lv fv pv rv m1 m2 m3 dv)::(T++i):=by grind[bf]
 rw[eq]at h;simp only[eq]at f;clear eq;have p:Holds H (((S,fU lv fv pv rv m1 m2 m3 dv)::(T++[hF]))++(PR++PB)):=by simpa using h
 let⟨id,g,k,o,m⟩:=s.app (bytes:=128) p.swap a (alT a) (by omega);apply aY o;have d:=m.get (U:=S) (hL:=fU lv fv pv rv m1 m2 m3 dv) (by simp);simp only[hT d,eD d,O,e,fW];refine aI (lE d rfl (by omega) rfl rfl) (f _ [(id,.arr g 9 ((b++[a]).map vF))] _ bB.of ?_);have x:Holds k (((S,fU lv fv pv rv m1 m2 m3 dv)::T)++(id,.arr g 9 ((b++[a]).map vF))::(hF::PB)):=by
  apply Holds.front;simpa using m
 change Holds (k.set S (fU lv fv pv (.q id g 0 (Z (b++[a]))) m1 m2 m3 dv)) _;grind[Holds.set]
end
theorem alU{a:aD×Nat}(h:M[a.2]?=aa (.arr 0 9 (a.1.ah.map ef))):b6 M .res (vF a) (aS ab a.1):=
 .ck (.str _ _) (.ck (.int _ _ _) (.ck eu (.ck (.int _ _ _) (.ck (.str _ _) (.ck (.str _ _) (.ck (.int _ _ _) (.ck (h8 (a7:=bg ab) h (by simp)) (.ck (.int _ _ _) (.nil _)))))))))
theorem alV{b:List (aD×Nat)}(h:Gr M E vF 9 b)(e:∀a∈b,M[a.2]?=aa (.arr 0 9 (a.1.ah.map ef))):aM M .res E (eS ab (aS ab) (b.map Prod.fst)):=by
 rcases h with⟨c,h⟩|⟨id,g,h,d⟩;rw[c,h];exact .aq _ _;rw[h];refine .pE id g 0 _ 9 _ _ d (by simp) ?_;rw[ll,gP (by simp)];exact Mc λa f=>alU (e a f)
theorem alW:ma [.aq,.aq,.aq,.aq] []=aa [.aq,.aq,.aq,.aq]:=rfl
def alX(c:D)(d:AV):Prop:=∃a b,d=.aB [.agg a,eS ab b2 b]/\Z a=4/\a.all AV.bU=ad/\(b=[]<->w4 c)/\(b=[]->a=cP ab ab (sq c))
theorem Mx(a b:Int):tO [I a,I b]=aa (I (min a b)):=by
 have:(if b<a then b else a)=min a b:=by split<;>omega
 show aa (AV.int .i64 (if b<a then b else a))=_;rw[this]
variable{b0:List (List AV)}
theorem alY{id g len:Nat}(h:M[id]?=aa (.arr g N b0))(a:Z b0=len)(b:U<=len):fy (.sl N) (.q id g 0 len) ae (aa (I (U:Int))) M=aa (.q id g 0 U):=by
 simp_all[eO,fy]
variable{F:Bool}
theorem e8.alZ(bi:e8 C)(d:D)(aA:eI d):∃N,PR C 150 [.agg (cP T F d)] N/\alX d N:=by
 apply Rp.ex;simp only[eP,O,gS];apply c (bi.aib d aA);simp only[bK,O];have d4:∀be:List Obj,aM be .res (.agg [.aq,.aq,.aq,.aq]) (.agg [.sl ab [],.sl ab [],.sl ab [],.sl ab []]):=λbe=>.agg _ _ _ (.ck (.aq _ _) (.ck (.aq _ _) (.ck (.aq _ _) (.ck (.aq _ _) (.nil _)))));refine dw (λh=>?_) (λh=>?_)
 refine aI (dR:=[.aq,.aq,.aq,.aq]) rfl (aI (dR:=[I 1,I 0]) rfl (aI (dR:=.sl ab [[I 1,I 0]]) rfl (aI (dR:=[.aq,.aq,.aq,.aq]) rfl ?_)));refine⟨.aB [.agg [.sl ab [],.sl ab [],.sl ab [],.sl ab []],eS ab b2 [(1,0)]],.aB _ _ _ (.ck (d4 _) (.ck ?_ (.nil _))),_,_,rfl,rfl,rfl,?_,by simp⟩;exact Im.snap (ny (a7:=b2) (by simp) ab [((1:Int),(0:Int))]);constructor;grind;intro f0;have:=f0.1;grind
 ·have U:=BT h
  have d1:Z d.ak<=40/\∀r∈d.ak,nF r=true:=by
   unfold rR at h;simp only[bc]at h;have:=ux h.2;exact⟨by omega,this.2⟩
  refine c7 (bi.alh (T:=T) (F:=F) (M:=[]) (k:=[]) d aA ⟨by simp,by simp⟩ (by have:=U.aw;omega) (by have:=U.aO;omega) (by have:=U.Q;omega) (λcs eq=>(U.fn cs eq).1)) rfl λN d7 cl=>?_;obtain⟨t,a0,a2,a3,L,B,M,k,a4,a5,a9,s,Y,R,ac,g4,j,rfl,bv,o,ca,ce,cc,ci,ha,f4,f5,c2,dl⟩:=cl;have g6:∀r∈d.ak,pT r:=aA.iS;have gc:eI (ee d []):=Wz aA (by simp[Sm]) (by simp)
  have f2:∀{n:List Obj}{k:AV}{co:List AV},n[t]?=aa (.arr 0 8 [co])->co[7]?=aa k->aQ 1 ab (.ptr t 0 0 7) n=aa k:=λu p=>gx u p;have g9:=d1.1;refine kR (λN n=>∃k j s w y PR,bB k b2 2 j s/\bB w vF 9 y PR/\Holds n (bf t a0 a2 a3 L B M w k a4 a5 a9 s Y R ac (PR++y.reverse.map HN))/\Z j<=2000/\(j=[]<->w4 d)/\(j=[]->y.map Prod.fst=d.ak.map (fh (ee d [])))) (λhh d0=>?_) ?_;have m:=bf.sc bv
  simp only[hT m,eD m,O,e,f2 m (show(HF L B M .aq a0 a2 a3 k)[7]?=aa k from rfl),o.ln,di,bj,aK,o4,a1];refine b (λu=>?_) (λu=>?_);have v:j=[]:=by
   rw[beq_iff_eq]at u;exact tH (by omega)
  subst v;have E:p7 d=true:=c2.1 rfl;have ge:HM d L B M a4 a5 a9 Y R ac:=by
   refine⟨ce,?_,ci,f4,f5⟩;have br:=dl E;rcases cc with⟨az,S,bm⟩|⟨id,g,az,S⟩;refine .inl ⟨?_,S,bm⟩;simp_all;refine .inr ⟨id,g,?_,?_⟩;grind;simp_all
  refine bG (K:=Nat×List Obj×AV×List (Int×Int)×aL×AV×List (aD×Nat)×aL) (λf=>[I f.1,.aq,.aq,.aq,.aq]) (λf=>f.2.1) (λf=>Z d.ak -f.1) (λf=>f.1<=Z d.ak/\bB f.2.2.1 b2 2 f.2.2.2.1 f.2.2.2.2.1/\bB f.2.2.2.2.2.1 vF 9 f.2.2.2.2.2.2.1 f.2.2.2.2.2.2.2/\Holds f.2.1 (bf t a0 a2 a3 L B M f.2.2.2.2.2.1 f.2.2.1 a4 a5 a9 f.2.2.2.2.1 Y R ac (f.2.2.2.2.2.2.2++f.2.2.2.2.2.2.1.reverse.map HN))/\
   Z f.2.2.2.1<=10*f.1/\Z f.2.2.2.2.2.2.1=f.1/\(f.2.2.2.1=[]<->∀r∈d.ak.take f.1,lD (ee d []) r)/\((∀r∈d.ak.take f.1,lD (ee d []) r)->f.2.2.2.2.2.2.1.map Prod.fst=(d.ak.take f.1).map (fh (ee d [])))) (0,d7,k,[],s,.aq,[],[]) ⟨by simp,o,bB.nil _ _,by simpa using bv,by simp,rfl,by simp,by simp⟩ ?_
  clear o bv m;rintro⟨W,n,k,j,s,w,y,PR⟩ ⟨f1,o,H,l,ca,d2,J,K⟩ g3 d3;simp only at f1 o H l ca d2 J K d3⊢;simp only[G,i,A,O,a];refine b (λp=>?_) (λp=>?_);have p:W<Z d.ak:=by simpa using p
  have f8:d.ak[W]∈d.ak:=bp p;have m:=bf.sc l;have gt:aQ 1 ab (.ptr t 0 0 3) n=aa w:=gx m rfl;have eo:∀r:aD,(AV.agg [.str r.au,I r.ai,eS T cT r.af,I r.aj.ax,.str r.aj.au,.str r.aj.aE,I r.aj.aR,eS T (bg T) r.ah,I r.ba])=.agg (aS T r):=λ_=>rfl;simp only[aF p (mM _ _),O,nA,xR,vb,wG,vc,vd,ve,vf,wH,vg,ud,eo,hT m,eD m,e,gt]
  refine c7 (bi.alS (T:=T) d d.ak[W] gc ge U.aZ (d1.2 _ f8) o (by omega) l) rfl λN d5 cl=>?_;obtain⟨X,P,em,d8,el,rfl,es,c1,g7,g8,f7⟩:=cl;have bD:=bf.sc c1;have gQ:aQ 1 ab (.ptr t 0 0 3) d5=aa w:=gx bD rfl;simp only[hT bD,eD bD,O,e,gQ,mf,true_and];rw[vD (U:=9) (row:=fb X (.q P 0 0 (Z X.ah))) rfl rfl,O];refine bf.yh (hF:=HN (X,P)) c1 H (X,P) (by omega) λg1 d9 d6 fx g5=>?_;rw[a6,O]
  refine d3 (W+1,d6,em,el,d8,g1,y++[(X,P)],d9) ⟨p,es,fx,?_,by grind,by simp[d2],?_,?_⟩ (by simp;omega);grind;grind[List.take_succ_eq_append_getElem];intro z;rw[iu p]at z⊢;have br:=f7 (z _ (dm.2 (.inr (by simp))));rw[hE,hE,K λr f6=>z r (dm.2 (.inl f6)),I8,I8,<-br];have:W=Z d.ak:=by simp at p;omega
  subst this;rw[dU]at J K;refine d0 _ _ ⟨k,j,s,w,y,PR,o,H,l,by omega,?_,λV=>K (J.1 V)⟩;rw[J];exact⟨λx=>⟨h,E,x⟩,λx=>x.2.2⟩;have v:j≠[]:=by
   rintro rfl;simp at u
  have E:¬p7 d=true:=λh=>v (c2.2 h);refine d0 _ _ ⟨k,j,s,.aq,[],[],o,bB.nil _ _,by grind,by omega,?_,λV=>absurd V v⟩;exact⟨λV=>absurd V v,λx=>absurd x.2.1 E⟩
  ·rintro N n ⟨k,j,s,w,y,PR,o,H,l,ca,J,K⟩
   have m:=bf.sc l;have g0:aQ 1 ab (.ptr t 0 0 7) n=aa k:=gx m rfl;simp only[hT m,eD m,O,e,g0,o.ln,eX];refine b (λu=>?_) (λu=>?_);have v:j≠[]:=by
    rintro rfl;simp at u
   rcases o with⟨az,-,-⟩|⟨id,g,rfl,rfl⟩;grind;have ds:n[id]?=aa (.arr g 2 (j.map b2)):=l.get (by simp[bf]);have f3:min ((Z j:Nat):Int) 20=((min (Z j) 20:Nat):Int):=by omega
   rw[alW,O,Mx,O,f3,alY ds (by simp) (by omega),O];refine aI (dR:=[.aq,.aq,.aq,.aq]) rfl ?_;simp only[O,mf,true_and];refine⟨.aB [.agg [.sl ab [],.sl ab [],.sl ab [],.sl ab []],eS ab b2 (j.take (min (Z j) 20))],.aB _ _ _ (.ck (d4 _) (.ck ?_ (.nil _))),_,_,rfl,rfl,rfl,?_,?_⟩;refine .pE id g 0 _ 2 _ _ ds (by simp;omega) ?_;rw[ll,<-OE];exact D5 λz _=>bS.snap (by simp);simp_all;simp_all
   ·have v:j=[]:=by simpa using u
    have x:=J.1 v;have E:=x.2.1;have go:aQ 4 ad (.ptr t 0 0 0) n=aa (.agg [L,B,M,w]):=by simp[aQ,wc,m,fU,HF,qo]
    rw[go,O,ji (U:=4) rfl (by simp[ce.cell,cc.cell,ci.cell,H.cell]),O];simp only[G,i];have fd:bB B (cg ab) 7 (d.aO.map (eK d)) R:=by
     have br:=dl E;rcases cc with⟨az,S,bm⟩|⟨id,g,az,S⟩;refine .inl ⟨?_,S,bm⟩;simp_all;refine .inr ⟨id,g,?_,?_⟩;grind;simp_all
    have f9:Holds n (PR++(bf t a0 a2 a3 L B M w k a4 a5 a9 s Y R ac []++y.reverse.map HN)):=by
     rw[HK]at l;exact l.swap
    refine⟨.aB [.agg (cP ab ab (sq d)),eS ab b2 []],.aB _ _ _ (.ck (.agg _ _ _ (.ck ((ce.gr (bf.pl l)).res (by simp)) (.ck ((fd.gr (bf.pf l)).res (by simp)) (.ck ((ci.gr (bf.pp l)).res (by simp)) (.ck ?_ (.nil _)))))) (.ck (.aq _ _) (.nil _))),_,_,rfl,rfl,rfl,⟨λ_=>x,λ_=>rfl⟩,λ_=>rfl⟩;have:=alV (H.gr f9) λz he=>l.get (U:=z.2) (hL:=.arr 0 9 (z.1.ah.map ef)) (by
     simp only[bf,b5,dm]
     right;right;right;right;right;right;right;right;right
     exact cy.2 ⟨z,by grind,rfl⟩)
    rw[K v]at this;exact this
theorem al0{r:aD}:r=fh V r<->(r.ai=j8 V r/\r.aj={r.aj with aR:=oo V r})/\r.ah=r.ah.map (iq V):=by
 constructor;intro h;exact⟨⟨congrArg aD.ai h,congrArg aD.aj h⟩,congrArg aD.ah h⟩;rintro⟨⟨a,b⟩,c⟩;have h:fh V r=⟨r.au,j8 V r,r.af,{r.aj with aR:=oo V r},r.ah.map (iq V),r.ba⟩:=rfl;rw[h,<-a,<-b,<-c]
theorem al1:vE P (iq V P)=ad<->P=iq V P:=by
 simp only[vE,bc,beq_iff_eq];constructor;rintro⟨a,b⟩;have h:iq V P=⟨P.ax,P.au,(iq V P).ai,P.af,P.bind,P.aj,(iq V P).iC,P.op,P.ba⟩:=rfl;rw[h,<-a,<-b];intro h;exact⟨congrArg Lit.ai h,congrArg Lit.iC h⟩
variable{x:List K}
theorem HO{b:K->K}:x=x.map b<->∀a∈x,a=b a:=by
 constructor;intro h a c;obtain⟨d,g,rfl⟩:=sL c;grind;intro h;refine ql (by simp) λd e f=>?_;grind
variable{ct:Nat -> Bool}
theorem Xf{b:K->K}{c:K->K->Bool}(f:∀a(e:a<Z x),ct a=c x[a] (b x[a])):(ay (Z x)).all ct=ad<->∀d∈x,c d (b d)=true:=by
 grind[List.getElem_of_mem]
theorem Xg{r:aD}:w5 r (fh V r)=ad<->r=fh V r:=by
 rw[al0,HO];simp only[w5,bc,beq_iff_eq,decide_eq_true_eq];have c:(fh V r).ah=r.ah.map (iq V):=rfl;rw[c];constructor;rintro⟨a,-,b⟩;exact⟨a,λe d=>al1.1 ((Xf (c:=vE) (b:=iq V) (by grind)).1 b e d)⟩;rintro⟨a,g⟩;exact⟨a,by simp,by grind[vE,iq]⟩
theorem al2{a:List aD}:D9 a (a.map (fh V))=ad<->a=a.map (fh V):=by
 rw[HO,D9,bc];constructor;rintro⟨-,b⟩;exactλd c=>Xg.1 ((Xf (c:=w5) (b:=fh V) (by grind)).1 b d c);grind[Xg]
theorem Xh:V=sq V<->(∀a∈V.aO,a=eK V a)/\(∀b∈V.Q,b=ew V b)/\V.ak=V.ak.map (fh (ee V [])):=by
 rw[<-HO,<-HO];constructor;intro h;exact⟨congrArg D.aO h,congrArg D.Q h,congrArg D.ak h⟩;rintro⟨c,d,e⟩;have h:sq V=⟨V.aw,V.aO.map (eK V),V.Q.map (ew V),V.ak.map (fh (ee V []))⟩:=rfl;rw[h,<-c,<-d,<-e]
theorem al3{a:Fn}:a=eK V a<->a.of=(eK V a).of/\a.gQ=(eK V a).gQ:=by
 constructor;grind;rintro⟨b,c⟩;have h:eK V a={a with of:=(eK V a).of,gQ:=(eK V a).gQ}:=rfl;rw[h,<-b,<-c]
variable{oL:cO}
theorem Xi:oL=ew V oL<->oL.of=(ew V oL).of:=by
 constructor;grind;intro a;have h:ew V oL={oL with of:=(ew V oL).of}:=rfl;rw[h,<-a]
open Classical in
theorem e8.Xj(H:e8 C)(d:D)(n:eI d):PR C 90 [.agg (cP T F d)] (.bool (lg d)):=by
 apply Sk.pr;obtain⟨aZ,ac,aR,J,rfl,V,N,U,X⟩:=H.alZ (T:=T) (F:=F) d n;simp only[eP,O,gS];apply c ac;simp only[fH,de,eF,O];rw[ji V N,O];have x:lg d=y (w4 d/\d=sq d):=by
  rw[lg,decide_eq_decide];unfold iW w4 sq;constructor;rintro⟨q,T,t,o⟩;exact⟨⟨q,T,t⟩,o⟩;rintro⟨⟨q,T,t⟩,o⟩;exact⟨q,T,t,o⟩
 simp only[a1,eX,O];refine b (λh=>?_) (λh=>?_);grind[bJ];have B:J=[]:=by simpa using h
 have L:=U.1 B;rw[X B];have x:lg d=y (d=sq d):=by
  rw[x,decide_eq_decide];exact⟨λh=>h.2,λh=>⟨L,h⟩⟩
 have K:cP ab ab (sq d)=[eS ab (bo ab) d.aw,eS ab (cg ab) (d.aO.map (eK d)),eS ab (bO ab) (d.Q.map (ew d)),eS ab (aS ab) (d.ak.map (fh (ee d [])))]:=rfl;have W:¬d=sq d->lg d=false:=by grind
 rw[Xh]at W;simp only[K,G,i,bj,O,aK,wk,kt,o4,e,a1];apply bG (K:=Nat) (λl=>[ff,I l,eS ab (bo ab) d.aw,eS ab (cg ab) (d.aO.map (eK d)),eS ab (bO ab) (d.Q.map (ew d)),eS ab (aS ab) (d.ak.map (fh (ee d [])))]) (λ_=>[]) (λl=>Z d.aO -l) (λl=>l<=Z d.aO/\∀k(w:k<Z d.aO),k<l->d.aO[k]=eK d d.aO[k]) 0 ⟨by simp,λk _ h=>by omega⟩;rintro g ⟨E,v⟩ z p;have R:=n.aO;have az:=n.Q;simp only[G,i,A,O,a]
 refine b (λf=>?_) (λf=>?_);have f:g<Z d.aO:=by simpa using f
 have u:g<Z (d.aO.map (eK d)):=by simpa using f
 have S:d.aO[g]∈d.aO:=bp f;simp only[aF f (sZ _ _),aF u (sZ _ _),O,Dc,FW,GC,GD,Uj,GF,GG,Uk,GH,xq,bj,aK,Qw,Qx,e,cx];have ah:d.aO[g]=eK d d.aO[g]->bd (aT .s .add (I g) (I 1)) λai=>z [ff,ai,eS ab (bo ab) d.aw,eS ab (cg ab) (d.aO.map (eK d)),eS ab (bO ab) (d.Q.map (ew d)),eS ab (aS ab) (d.ak.map (fh (ee d [])))] []:=by
  intro P;rw[a6 (by unfold Sm at R;omega),O];refine p (g+1) ⟨f,λk w ax=>?_⟩ (by omega);by_cases o:k=g;subst o;exact P;exact v k w (by omega)
 have M:=(n.fn _ S).2.2;generalize d.aO[g]=j at*;rw[al3]at ah;have af:¬(j.of=(eK d j).of/\j.gQ=(eK d j).gQ)->lg d=false:=by grind
 rw[bw];refine ei (λm=>?_) (λm=>?_);have m:j.of=(eK d j).of:=by simpa using m
 apply c (akP j.gQ (eK d j).gQ M);simp only[bK,O,G,i];refine dw (λam=>bJ (af λh=>?_)) (by grind);grind;simp_all;have:g=Z d.aO:=by simp at f;omega
 subst this;clear p;have au:∀j∈d.aO,j=eK d j:=by grind[List.getElem_of_mem]
 apply bG (K:=Nat) (λl=>[ff,I l,eS ab (bo ab) d.aw,eS ab (cg ab) (d.aO.map (eK d)),eS ab (bO ab) (d.Q.map (ew d)),eS ab (aS ab) (d.ak.map (fh (ee d [])))]) (λ_=>[]) (λl=>Z d.Q -l) (λl=>l<=Z d.Q/\∀k(w:k<Z d.Q),k<l->d.Q[k]=ew d d.Q[k]) 0 ⟨by simp,λk _ h=>by omega⟩;clear v E f;rintro g ⟨E,v⟩ z p;simp only[G,i,A,O,a];refine b (λf=>?_) (λf=>?_);have f:g<Z d.Q:=by simpa using f
 have u:g<Z (d.Q.map (ew d)):=by simpa using f
 have aE:d.Q[g]∈d.Q:=bp f;simp only[aF f (jg _ _),aF u (jg _ _),O,wg,xP,s9,xq,bj,aK,Dh,e,cx];refine b (λm=>?_) (λm=>?_);grind[bJ,Xi];have m:d.Q[g].of=(ew d d.Q[g]).of:=by simpa using m
 grind[a6,Sm,O,Xi];have:g=Z d.Q:=by simp at f;omega
 subst this;clear p;have aA:∀j∈d.Q,j=ew d j:=by grind[List.getElem_of_mem]
 apply c (akU d.ak (d.ak.map (fh (ee d []))) n.ak λr Y=>(n.iS r Y).2.1);apply iT;rw[x,iQ,decide_eq_true_eq,al2,Xh];grind
theorem Xk(b:D)(a:Int):PR C 103 [.agg (cP T F b),I a] (.bool (ep b a)):=by
 apply RH.pr;simp only[eP,O,bj,aK,kt,e,a1,h0,A,bw,G];exact aW (by simp_all[ep]) (by grind[bJ,ep])
theorem Xl(a:Lit):PR C 96 [.agg (bg T a)] (.bool (jF a)):=by
 apply SO.pr;simp only[rN,O,bj,aK,tW,e,di,bw,G];exact ei (by simp_all[jF]) (by simp_all[jF])
variable{bC c6:Bool}
theorem Xm(a:D)(r:aD)(b:Lit):PR C 95 [.agg (cP T F a),.agg (aS bC r),.agg (bg c6 b)] (.bool (nJ a r b)):=by
 apply SN.pr;simp only[eP,o2,rN,O,bj,aK,gS,Bc,tW,zr,e,cx,bw,G];refine aW (λd=>?_) (by simp_all[nJ]);refine c (Xk a _) (aW (λh=>?_) (λh=>bJ (by rw[nJ,h]<;>rfl)));exact c (Xk a _) (iT (by rw[nJ,h,d];simp))
def tx(id:Nat)(a:List Edge):AV:=.q id (Z a) 0 (Z a)
def na(a:List Edge):List Obj:=[.arr 0 2 [],.arr 0 1 [],.arr (Z a) 2 (a.map oe),.arr (Z a) 1 (a.map sb)]
theorem al4(a:List Edge)(b:Edge)(n:Z a<1099511627776):∃f,cJ 2 16 (tx 2 a) (.sl ab [b2 b.1]) (na a)=aa (tx 2 (a++[b]),f)/\cJ 1 1 (tx 3 a) (.sl ab [cB b.2]) f=aa (tx 3 (a++[b]),na (a++[b])):=by
 have c:=pW (M:=na a) (id:=2) (U:=2) (bytes:=16) (N:=Z a) (a7:=oe) (x:=a) b (by simp[na]) rfl (by omega);have h:aX (na a) 2 2 oe (Z a) a=na a:=rfl;rw[h]at c;have e:Z (a++[b])=Z a+1:=by simp
 have d:=pW (M:=aX (na a) 2 2 oe (Z a+1) (a++[b])) (id:=3) (U:=1) (bytes:=1) (N:=Z a) (a7:=sb) (x:=a) b (by simp[na,aX]) rfl (by omega);have i:aX (aX (na a) 2 2 oe (Z a+1) (a++[b])) 3 1 sb (Z a) a=aX (na a) 2 2 oe (Z a+1) (a++[b]):=rfl;rw[i]at d;rw[e]at c d;refine⟨aX (na a) 2 2 oe (Z a+1) (a++[b]),?_,?_⟩;simp only[tx,e];exact c;simp only[tx,na,e];exact d
theorem al5(a:List Edge):aM (na a) .res (.aB [(tx 2 a).pl,(tx 3 a).pl]) (.aB [eS ab b2 (a.map (·.1)),eS ab cB (a.map (·.2))]):=by
 refine .aB _ _ _ (.ck ?_ (.ck ?_ (.nil _)));have:=h8 (M:=na a) (id:=2) (U:=2) (N:=Z a) (a7:=b2) (x:=a.map (·.1)) (by simp_all[na,oe]) (by simp);rw[kc]at this;exact this;have:=h8 (M:=na a) (id:=3) (U:=1) (N:=Z a) (a7:=cB) (x:=a.map (·.2)) (by simp_all[na,sb]) (by simp);rw[kc]at this;exact this
theorem Xn(d:D)(p:mn d):PR C 73 [.agg (cP T F d)] (.aB [eS ab b2 ((kM d).map (·.1)),eS ab cB ((kM d).map (·.2))]):=by
 apply Sj.pr;simp only[eP,O,e3,ft,bj,aK,gS,o4,e,a1,dK,eU,hD,kD];apply bG (K:=Nat) (λf=>[tx 2 ((d.ak.take f).foldl (p2 d) []),tx 3 ((d.ak.take f).foldl (p2 d) []),I f]) (λf=>na ((d.ak.take f).foldl (p2 d) [])) (λf=>Z d.ak -f) (λf=>f<=Z d.ak) 0 (by simp);intro f P K B;simp only[i,G,A,O,a];refine b (λh=>?_) (λh=>?_);have h:f<Z d.ak:=by simpa using h
 have s:=B (f+1) h (by omega);simp only[mS h]at s;have N:=p.2.1 _ (bp h);have S:=p.1;have v:=DR d 100 (d.ak.take f) (λr z=>p.2.1 r (sI z)) [];rw[hW,eU]at v;have R:min f (Z d.ak)*100<=100*100:=my _ (by omega);generalize(d.ak.take f).foldl (p2 d) []=l at*;simp only[aF h (mM _ _),O,nA,xR,vb,wG,vc,vd,ve,vf,wH,vg,ud,a1]
 apply bG (K:=Nat) (λg=>tx 2 ((d.ak[f].ah.take g).foldl (j3 d d.ak[f]) l)::tx 3 ((d.ak[f].ah.take g).foldl (j3 d d.ak[f]) l)::I g::aS T d.ak[f]) (λg=>na ((d.ak[f].ah.take g).foldl (j3 d d.ak[f]) l)) (λg=>Z d.ak[f].ah -g) (λg=>g<=Z d.ak[f].ah) 0 (by simp);intro g Q L E;simp only[i,G,vb,wG,vc,vd,ve,vf,wH,vg,ud,A,O,a];refine b (λk=>?_) (λk=>?_);have k:g<Z d.ak[f].ah:=by simpa using k
 have n:=E (g+1) k (by omega);simp only[mS k]at n;have w:=Hc d d.ak[f] (d.ak[f].ah.take g) l;rw[hW]at w;generalize(d.ak[f].ah.take g).foldl (j3 d d.ak[f]) l=m at*;have y:∀j:Lit,(AV.agg [AV.int .i64 j.ax,.str j.au,I j.ai,eS T cT j.af,.str j.bind,.str j.aj,I j.iC,I j.op,I j.ba])=.agg (bg T j):=λ_=>rfl;simp only[aF k (jB _ _),O,o1,xQ,wz,wA,yd,wB,wC,wD,ye,wE,wF,y,bw,wM,yj,mf,true_and]
 have x:(AV.agg [AV.str d.ak[f].au,I d.ak[f].ai,eS T cT d.ak[f].af,I d.ak[f].aj.ax,.str d.ak[f].aj.au,.str d.ak[f].aj.aE,I d.ak[f].aj.aR,eS T (bg T) d.ak[f].ah,I d.ak[f].ba])=.agg (aS T d.ak[f]):=rfl;rw[x];refine c (Xm d d.ak[f] d.ak[f].ah[g]) (b (λo=>?_) (λo=>?_));have q:j3 d d.ak[f] m d.ak[f].ah[g]=m++[((d.ak[f].ai,d.ak[f].ah[g].ai),jF d.ak[f].ah[g])]:=by rw[j3,if_pos o]
 rw[q]at n;let⟨J,t,u⟩:=al4 m ((d.ak[f].ai,d.ak[f].ah[g].ai),jF d.ak[f].ah[g]) (by omega);refine aY t (c (Xl d.ak[f].ah[g]) ?_);refine aI (dR:=.sl ab [cB (jF d.ak[f].ah[g])]) rfl (aY u ?_);rw[a6,O];exact n;have q:j3 d d.ak[f] m d.ak[f].ah[g]=m:=by rw[j3,if_neg (by rw[o];decide)]
 rw[q]at n;rw[a6,O];exact n;have:g=Z d.ak[f].ah:=by simp at k;omega
 subst this;rw[a6,O,dU];exact s;have:f=Z d.ak:=by simp at h;omega
 subst this;rw[dU];exact al5 _
def yx(C:fq):Prop:=∀(c d:Bool)(a:D),mn a->Z a.ak<=12->∃(b:List (List Nat))(of:Nat->Nat),PR C 72 [.agg (cP c d a)] (.aB [eS ab cN ((ay (Z a.Q)).map of),eS ab cG b])/\tg (Z a.Q) (c4 a) b of/\Z b<=Z a.Q
theorem al6:cQ (c4 V) U N=He V U N:=rfl
variable{fk:List (List Nat)}
theorem al7(a:D)(r:aD)(f:Lit){of:Nat->Nat}(q:tg (Z a.Q) (c4 a) fk of):
 PR C 94 [.agg (bg c6 f),.aH ad (cP T F a) 0,.aH ad (aS bC r) 0,.aH ad [eS ab cN ((ay (Z a.Q)).map of)] 0] (.bool (lf a r f)):=by
 apply adV.pr;simp only[rN,O,bj,aK,gS,nA,o1,Bc,zr,e,bw,G,de];refine c (Xm a r f) (aW (λb=>c (Xl f) (aW (λh=>?_) (λh=>bJ (by rw[lf,h];simp)))) (λb=>bJ (by rw[lf,b]<;>rfl)));have g:=b;simp only[nJ,bc]at g;let⟨i,k,l⟩:=BH g.1.1;let⟨j,m,n⟩:=BH g.1.2;have s:i<Z ((ay (Z a.Q)).map of):=by simpa using l
 have t:j<Z ((ay (Z a.Q)).map of):=by simpa using n
 have p:∀d:Nat,(cN d)[0]?=aa (I (d:Int)):=λ_=>rfl;have o:∀d:Nat,Z (cN d)=1:=λ_=>rfl;simp only[k,m,aF s (o _),aF t (o _),O,aK,p,tw,xq,Cr];apply iT;have u:=q.th i j l n;rw[lf,b,h,k,m];simp only[cZ,eN];grind[al6]
variable{iB:Bool}
theorem al8(c:D)(r:aD)(d:List Lit)(m:Sm d){of:Nat->Nat}(l:tg (Z c.Q) (c4 c) fk of):
 PR C 93 [eS iB (bg c6) d,.fn 94 [] [.aH ad (cP T F c) 0,.aH ad (aS bC r) 0,.aH ad [eS ab cN ((ay (Z c.Q)).map of)] 0]] (I (b1 (lf c r) d)):=by
 apply KH.pr rfl;simp only[cK,hZ];simp only[a1,O];refine eC (U:=Z d) (c:=λe=>[I 0,I e]) (λe=>∀g(p:g<Z d),g<e->lf c r d[g]=ab) (by simp) rfl (λe f n k q=>?_) (λn k=>?_);simp only[i,G,A,O,a,f,decide_true,aF f (jB _ _),o1];refine a8 (aY (dR:=94) (oK:=[.agg (bg c6 d[e]),.aH ad (cP T F c) 0,.aH ad (aS bC r) 0,.aH ad [eS ab cN ((ay (Z c.Q)).map of)] 0]) rfl ?_)
 refine⟨.df,_,_,by decide,?_,al7 (T:=T) (F:=F) (bC:=bC) (c6:=c6) c r d[e] l,(λj=>by cases j),?_⟩;simp[bS.snap];refine b (λh=>?_) (λh=>?_);grind[jR,tX];rw[m.inc f,O];grind;simp only[i,G,A,O,a,cn,decide_false];refine bz (jR ?_);grind[sd,lf]
variable{bE:List AV}
theorem stO_9{id:Nat}{a:List AV}(h:M[id]?=aa (.arr 0 U [bE]))(c:Z bE=U)(b:Z a=U)(e:a.all AV.bU=ad):dp U (.ptr id 0 0 0) (.agg a) M=aa (M.set id (.arr 0 U [a])):=by
 have d:eV bE 0 a=a:=by simp[eV,c,b]
 have f:(AV.agg a).pl.cells=a:=rfl;simp[dp,b,c,h,d];simpa using e
theorem Xo(au:yx C)(d:D)(L:mn d)(aE:Z d.ak<=12):PR C 45 [.agg (cP T F d)] (eS ab b2 (qT d)):=by
 apply adS.pr;let⟨a4,of,ai,az,_⟩:=au T F d L aE;have m:nw 4 (.agg (cP T F d)) []=aa (.ptr 0 0 0 0,[.arr 0 4 [cP T F d]]):=rfl;refine aY m (aY rfl ?_);simp only[hD,dK];have aZ:∀j:List Obj,j[0]?=aa (.arr 0 4 [cP T F d])->aQ 4 ad (.ptr 0 0 0 0) j=aa (.agg (cP T F d)):=λj h=>mi h rfl rfl;rw[aZ _ rfl,O];apply c ai;simp only[fH,de,eF,O,lA,e3,hD,dK,kD,eU]
 apply aI (lE (bE:=[.aq]) (M:=[.arr 0 4 [cP T F d],.arr 0 2 [],.arr 0 1 [[.aq]]]) (id:=2) rfl rfl (by omega) rfl rfl);simp only[ft,e3,On,yU,hD,dK,kD,eU];have M:Holds [.arr 0 4 [cP T F d],.arr 0 2 [],.arr 0 1 [[eS ab cN ((ay (Z d.Q)).map of)]],.arr 0 2 []] ([(3,.arr 0 2 (([]:List (Int×Int)).map b2))]++[(0,.arr 0 4 [cP T F d]),(2,.arr 0 1 [[eS ab cN ((ay (Z d.Q)).map of)]])]):=by
  refine⟨by simp,λce aR=>?_⟩;simp only[hD,dK,b5,jM,or_false]at aR;grind
 have X:(cP T F d)[3]?=aa (eS F (aS T) d.ak):=rfl;rw[eD (M:=[.arr 0 4 [cP T F d],.arr 0 2 [],.arr 0 1 [[eS ab cN ((ay (Z d.Q)).map of)]],.arr 0 2 []]) (id:=0) (U:=4) (b0:=[cP T F d]) rfl,O,e,gx (M:=[.arr 0 4 [cP T F d],.arr 0 2 [],.arr 0 1 [[eS ab cN ((ay (Z d.Q)).map of)]],.arr 0 2 []]) (id:=0) rfl X,O,a1,O]
 have J:bB (.q 3 0 0 0) b2 2 ([]:List (Int×Int)) [(3,.arr 0 2 (([]:List (Int×Int)).map b2))]:=bB.of (x:=([]:List (Int×Int)));generalize br:[(0,Obj.arr 0 4 [cP T F d]),(2,Obj.arr 0 1 [[eS ab cN ((ay (Z d.Q)).map of)]])]=z at*
 apply bG (K:=Nat×List Obj×AV×aL) (λf=>[f.2.2.1,I f.1]) (λf=>f.2.1) (λf=>Z d.ak -f.1) (λf=>f.1<=Z d.ak/\bB f.2.2.1 b2 2 ((d.ak.take f.1).foldl (p4 d) []) f.2.2.2/\Holds f.2.1 (f.2.2.2++z)) (0,_,.q 3 0 0 0,_) ⟨by simp,J,M⟩;clear M J;rintro⟨l,j,a0,B⟩ ⟨aA,k,u⟩ a3 N;simp only at aA k u N⊢;simp only[i,G,A,O,a];refine b (λh=>?_) (λh=>?_);have h:l<Z d.ak:=by simpa using h
 have w:=λR a2 U=>N (l+1,R,a2,U);simp only[mS h]at w;have bv:=L.2.1 _ (bp h);have ax:=Lu d (d.ak.take l) [];rw[hW,eU]at ax;generalize(d.ak.take l).foldl (p4 d) []=x at*;simp only[bw,aF h (mM _ _),nA,O];generalize d.ak[l]=r at*;have E:=u.alloc (.arr 0 9 [[.str [],I 0,.aq,I 0,.str [],.str [],I 0,.aq,I 0]])
 apply aI (stO_9 (E.get (U:=Z j) (hL:=.arr 0 9 [[.str [],I 0,.aq,I 0,.str [],.str [],I 0,.aq,I 0]]) (by simp)) rfl rfl rfl);have t:=E.set (.arr 0 9 [aS T r]);generalize(j++[Obj.arr 0 9 [[AV.str [],I 0,.aq,I 0,.str [],.str [],I 0,.aq,I 0]]]).set (Z j) (.arr 0 9 [aS T r])=n at*;generalize Z j=P at*;have v:n[P]?=aa (.arr 0 9 [aS T r]):=t.get (by simp)
 have af:n[0]?=aa (.arr 0 4 [cP T F d]):=t.get (by grind);have aj:n[2]?=aa (.arr 0 1 [[eS ab cN ((ay (Z d.Q)).map of)]]):=t.get (by grind);have Y:(aS T r)[7]?=aa (eS T (bg T) r.ah):=rfl;simp only[eD v,O,e,gx v Y]
 apply e4 _ (al8 (T:=T) (F:=F) (bC:=T) (c6:=T) (iB:=T) d r r.ah (by grind[Sm]) az) (.ck eu (.ck (.fn _ _ _ _ _ _ (.nil _) (.ck (.oU _ _ _ _ _ _ _ _ af rfl (bS.snap (by simp))) (.ck (.oU _ _ _ _ _ _ _ _ v rfl (bS.snap (by simp))) (.ck (.oU _ _ _ _ _ _ _ _ aj rfl (bS.snap (by simp))) (.nil _))))) (.nil _))) (.int _ _);have am:y ((Z x:Int)<20)=true:=by simp;omega
 simp only[h0,k.ln,A,am,O,a6 (show l<4611686018427387904 by omega)];have H:Holds n (B++z):=t.tail;refine aW (λo=>?_) (λo=>?_);have o:0<=b1 (lf d r) r.ah:=by simpa using o
 rcases sd (lf d r) r.ah with⟨p,K,m,s⟩|⟨m,-⟩;have ac:(bg T r.ah[p])[8]?=aa (I r.ah[p].ba):=rfl;simp only[G,c3,if_true,m,aF K (jB _ _),O,bj,aK,ac,e,wM,yj];let⟨id,g,S,V,W⟩:=k.app (bytes:=16) H (90,r.ah[p].ba) rfl (by omega);apply aY V;refine w S _ [(id,Obj.arr g 2 (QU b2 (x++[((90:Int),r.ah[p].ba)])))] ⟨h,?_,W⟩ (by omega);rw[p4,s];exact bB.of;omega;have o:¬0<=b1 (lf d r) r.ah:=by simpa using o
 rcases sd (lf d r) r.ah with⟨p,K,m,s⟩|⟨m,s⟩;omega;simp only[G,c3,eZ,if_false];refine w n a0 B ⟨h,?_,H⟩ (by omega);rw[p4,s];exact k;have:l=Z d.ak:=by simp at h;omega
 subst this;rw[dU]at k;rw[k.pl];exact(k.gr u).res (by simp)
def iX(a:Nat->List Nat)(c:Nat):List (List AV):=(ay c).map λb=>cG (a b)
def gq(c:AV)(d:Nat->List Nat)(a:Nat)(b:aL):Prop:=(a=0/\c=.dG/\b=[])\/∃id g e,c=.q id g 0 a/\b=[(id,.arr g 1 (iX d a++e))]
def fV(a:List Nat):Int:=(a.headD 0:Nat)
theorem BZ(b:Nat->List Nat)(a:Nat):Z (iX b a)=a:=by simp[iX]
theorem Xp(a:Nat->List Nat)(h:N<U):(iX a U)[N]?=aa (cG (a N)):=by simp[iX,h]
theorem al9(a:Nat->List Nat)(c b:Nat)(d:List Nat):(iX a c).set b (cG d)=iX (bN a b d) c:=by
 refine yR λe=>?_;grind[bN,iX]
theorem ama(c:Nat->K)(a b:Nat):swp c a b=bN (bN c a (c b)) b (c a)\/a=b:=by
 by_cases d:a=b;exact .inr d;refine .inl (funext λe=>?_);unfold swp bN;grind
theorem amb(a:Nat->K)(b c:Nat):swp a b c=bN (bN a b (a c)) c (a b):=by
 rcases ama a b c with h|rfl;exact h;grind[swp,bN]
section
variable{v:AV}{f:Nat->List Nat}{n:Nat}{P F:aL}{H:List Obj}
theorem gq.ln(h:gq v f n P)(a:List Obj):gk .sl v a=aa (I n):=by
 rcases h with⟨rfl,rfl,-⟩|⟨id,g,b,rfl,-⟩<;>rfl
theorem gq.pl(h:gq v f n P):v.pl=v:=by
 rcases h with⟨rfl,rfl,-⟩|⟨id,g,a,rfl,-⟩<;>rfl
theorem gq.cell(h:gq v f n P):v.bU=true:=by
 rcases h with⟨rfl,rfl,-⟩|⟨id,g,a,rfl,-⟩<;>rfl
theorem gq.q(h:gq v f n P)(b:0<n):∃id g a,v=.q id g 0 n/\P=[(id,.arr g 1 (iX f n++a))]:=by
 rcases h with⟨rfl,-,-⟩|h;omega;exact h
end
variable{dZ:Nat -> List Nat}
theorem B0{id g:Nat}(h:M[id]?=aa (.arr g 1 (iX dZ U++b0)))(a:N<U):bT 1 (.q id g 0 U) (I (N:Int)) M=aa (.ptr id g N 0):=fu h a
theorem Ei{id g:Nat}(h:M[id]?=aa (.arr g 1 (iX dZ U++b0)))(b:N<U):aQ 1 ab (.ptr id g N 0) M=aa (eS ab cN (dZ N)):=by
 rw[cY h (bE:=cG (dZ N)) (by grind[List.getElem?_append_left,BZ,Xp])]<;>rfl
theorem Xq{id g:Nat}(a:List Nat)(h:M[id]?=aa (.arr g 1 (iX dZ U++b0)))(c:N<U):dp 1 (.ptr id g N 0) (eS ab cN a) M=aa (M.set id (.arr g 1 (iX (bN dZ N a) U++b0))):=by
 rw[Ee h (bE:=cG (dZ N)) (by grind[List.getElem?_append_left,BZ,Xp]) (by simp) rfl rfl];have:(cG (dZ N)).set 0 (eS ab cN a)=cG a:=rfl;grind[List.set_append_left,BZ,al9]
theorem My(h:gq E dZ U k):C 75 [E] M (I (U:Int)) M:=by
 refine R2.hr ?_ (by simp[h.pl]);simp only[h.ln,O];simp
theorem Mz(h:gq E dZ U k)(l:Holds M (k++bn))(d:N<U)(e:z<U)(i:dZ N≠[])(j:dZ z≠[]):
 C 362 [E,I (N:Int),I (z:Int)] M (.bool (y (fV (dZ N)<fV (dZ z)))) M:=by
 refine afZ.hr ?_ (by simp[h.pl]);obtain⟨id,g,m,rfl,rfl⟩:=h.q (by omega);have b:=l.get (U:=id) (hL:=.arr g 1 (iX dZ U++m)) (by simp);have c:∀{a:List Nat},a≠[]->bT 1 (eS ab cN a) (I 0) M=aa (.aH ab (cN (a.headD 0)) 0):=by
  intro a o;rcases a with _|⟨n,a⟩;grind;exact aF (by simp) rfl
 have f:∀U:Nat,(cN U)[0]?=aa (I (U:Int)):=λ_=>rfl;simp only[B0 b d,B0 b e,Ei b d,Ei b e,O,c i,c j,aK,f,A];exact⟨rfl,trivial⟩
theorem MA(h:gq E dZ U k)(f:Holds M (k++bn))(d:N<U)(c:z<U):
 HR C 365 [E,I (N:Int),I (z:Int)] M (λr j=>r=.aB []/\∃e,gq E (swp dZ N z) U e/\Holds j (e++bn)):=by
 refine SH.hq ?_ (by simp[h.pl]);obtain⟨id,g,b,rfl,rfl⟩:=h.q (by omega);have a:=f.get (U:=id) (hL:=.arr g 1 (iX dZ U++b)) (by simp);simp only[B0 a d,B0 a c,Ei a d,Ei a c,O];apply aI (Xq (dZ z) a d);have l:Holds (M.set id (.arr g 1 (iX (bN dZ N (dZ z)) U++b))) ((id,.arr g 1 (iX (bN dZ N (dZ z)) U++b))::bn):=Holds.set f _;have i:=l.get (U:=id) (hL:=.arr g 1 (iX (bN dZ N (dZ z)) U++b)) (by simp)
 simp only[B0 i c,O];refine aI (Xq (dZ N) i c) ⟨trivial,_,.inr ⟨id,g,b,rfl,rfl⟩,?_⟩;grind[amb,Holds.set]
theorem amc(h:gq E dZ U k)(m:Holds M (k++bn))(a:List Nat)(t:U<1000000):
 ∃i d e,cJ 1 24 E (.sl ab [[eS ab cN a]]) M=aa (i,d)/\gq i (bN dZ U a) (U+1) e/\Holds d (e++bn):=by
 have f:iX dZ U++[cG a]=iX (bN dZ U a) (U+1):=by
  rw[iX,iX,uK,hE];have l:(ay U).map (λb=>cG (bN dZ U a b))=(ay U).map λb=>cG (dZ b):=by
   refine sM λb s=>?_;unfold bN;grind
  rw[l];simp[bN]
 rcases h with⟨rfl,rfl,rfl⟩|⟨id,g,o,rfl,rfl⟩;have c:=pX (M:=M) (U:=1) (bytes:=24) (a7:=λp:List AV=>p) (x:=[cG a]) (E:=.dG) (dQ:=.sl ab [cG a]) rfl rfl (by simp);refine⟨_,_,[(Z M,.arr 0 1 [cG a])],c,.inr ⟨Z M,0,[],rfl,?_⟩,?_⟩;rw[<-f]<;>rfl
 grind[Holds.alloc];have n:=m.get (U:=id) (hL:=.arr g 1 (iX dZ U++o)) (by simp);have c:cJ 1 24 (.q id g 0 U) (.sl ab [[eS ab cN a]]) M=aa (.q id (g+1) 0 (U+1),M.set id (.arr (g+1) 1 (iX (bN dZ U a) (U+1)))):=by
  have j:ij M 1 (.sl ab [[eS ab cN a]])=aa [cG a]:=rfl;simp only[cJ,j,AV.isNil,eZ,if_false,n,true_and,gy,BZ,jW];rw[if_pos (by omega),ET (by rw[BZ];exact c5 _),gP (by rw[BZ];exact c5 _),f]
 refine⟨_,_,[(id,.arr (g+1) 1 (iX (bN dZ U a) (U+1)))],c,.inr (by simp),?_⟩;grind[Holds.set]
def dI(a:Nat)(d:AV)(c b:aL):aL:=(a,.arr 0 1 [[d]])::(c++b)
theorem dI.tl(h:Holds M (dI U E k bn)):Holds M (k++((U,.arr 0 1 [[E]])::bn)):=Holds.front h
theorem dI.bk(h:Holds M (k++((U,.arr 0 1 [[E]])::bn))):Holds M (dI U E k bn):=Holds.back h
theorem dI.get(h:Holds M (dI U E k bn)):M[U]?=aa (.arr 0 1 [[E]]):=h.get (by simp[dI])
theorem dI.ld(h:Holds M (dI U E k bn)):aQ 1 ab (.ptr U 0 0 0) M=aa E:=gx (dI.get h) rfl
def hy(a:Nat->List Nat)(b:Nat):List (List Nat):=(ay b).map a
variable{bq:List Nat}
theorem w7:bq∈hy dZ U<->∃a,a<U/\dZ a=bq:=by simp[hy]
theorem Xr(a:Nat->List Nat)(b:Nat):hy a (b+1)=hy a b++[a b]:=by simp[hy,uK]
theorem amd{b:Nat->List Nat}(h:∀a,a<U->dZ a=b a):hy dZ U=hy b U:=sM (by grind)
theorem MB(d:N<U)(e:z<U):((ay U).map (swp (λg=>g) N z)).Perm (ay U):=by
 refine(OI ?_ EU).2 λa=>?_
 ·show List.Pairwise _ _
  rw[aa1];refine avC ?_ (EU);intro i j k;simp only[swp];split<;>split<;>(try split)<;>(try split)<;>omega
 simp only[cy,iw];constructor;grind[swp];intro f;by_cases b:a=N;subst b;refine⟨z,e,?_⟩;unfold swp;split;rename_i h;exact h;rw[if_pos rfl];by_cases c:a=z;subst c;exact⟨N,d,by unfold swp;rw[if_pos rfl]⟩;exact⟨a,f,by grind[swp]⟩
theorem MD(c:N<U)(d:z<U):(hy (swp dZ N z) U).Perm (hy dZ U):=by
 have b:swp dZ N z=λa=>dZ (swp (λa=>a) N z a):=by
  funext a;unfold swp;split
  rfl;split<;>rfl
 have:=(MB c d).map dZ;rw[vP]at this;rw[hy,b];exact this
theorem ME(b:Nat->List Nat)(c d:Nat):(λa=>fV (swp b c d a))=swp (λa=>fV (b a)) c d:=by
 grind[swp]
theorem ame(e:List Nat)(h:gq E dZ N k)(m:N<1000000)(d:Holds M (dI U E k bn)):
 HR C 364 [.ptr U 0 0 0,.iface 31 (eS ab cN e)] M (λr i=>r=.aB []/\∃b a,gq b (bN dZ N e) (N+1) a/\Holds i (dI U b a bn)):=by
 apply RD.hq;have l:=dI.get d;simp only[hT l,O,dI.ld d,A5,if_true];let⟨b,n,a,j,c,f⟩:=amc h (dI.tl d) e m;refine aI rfl (aY j ?_);have g:=f.get (U:=U) (hL:=.arr 0 1 [[E]]) (by simp);simp only[hT g,O];refine aI (lE g rfl (by omega) c.pl c.cell) ⟨trivial,b,a,c,?_⟩;exact Holds.set (Holds.back f) _
theorem amf{id g len:Nat}(h:M[id]?=aa (.arr g 1 b0))(a:U<=len):fy (.sl 1) (.q id g 0 len) ae (aa (I (U:Int))) M=aa (.q id g 0 U):=by
 simp_all[eO,fy]
theorem amg(h:gq E dZ (N+1) k)(m:N<1000000)(a:Holds M (dI U E k bn)):
 HR C 363 [.ptr U 0 0 0] M (λr i=>r=.iface 31 (eS ab cN (dZ N))/\∃f d,gq f dZ N d/\Holds i (dI U f d bn)):=by
 apply Sh.hq;have e:=dI.get a;obtain⟨id,g,b,rfl,rfl⟩:=h.q (by omega);have c:M[id]?=aa (.arr g 1 (iX dZ (N+1)++b)):=a.get (by simp[dI]);have l:aT .s .sub (I ((N+1:Nat):Int)) (I 1)=aa (I (N:Int)):=by
  rw[nB (by omega) (by omega)];simp
 simp only[hT e,O,dI.ld a,o0,l,B0 c (aaN N),Ei c (aaN N),amf c (AB N)];refine aI (lE e rfl (by omega) rfl rfl) ⟨rfl,.q id g 0 N,[(id,.arr g 1 (iX dZ N++(cG (dZ N)::b)))],.inr (by grind),?_⟩;have j:iX dZ (N+1)++b=iX dZ N++(cG (dZ N)::b):=by
  rw[iX,uK,hE,gY]<;>rfl
 rw[<-j];exact Holds.set a _
variable{gC:List Obj}{iy:AV -> List Obj -> Prop}
theorem w8{args:List AV}{r:AV}(a:args.map AV.pl=args)(h:C U args M r gC)(b:iy r gC):ch C U args M iy:=qJ r (a.symm▸h) b
theorem amh(a: -1<=f)(b:f<1000000000):aT .s .quo (I f) (I 2)=aa (I (f.tdiv 2)):=by
 have h: -9223372036854775808<=f.tdiv 2/\f.tdiv 2<9223372036854775808:=by
  rcases E1 f 0 with h|h;have:f= -1:=by omega
  subst this
  decide
  rw[arM h];omega
 simp[aT,kE,wrap64 h.1 h.2]
theorem ami(h:0<U):((U:Int) -1).tdiv 2=(((U -1)/2:Nat):Int):=by
 grind
theorem B1{fn:Nat}{args:List AV}(a:Holds M (dI U E k bn))(b:E.pl=E):rL [(132,fn,aa (1,ab))] (.iface 132 (.ptr U 0 0 0)) args M=aa (fn,E::args):=by
 simp[rL,look,dI.ld a,b]
theorem Xs(a:Holds M (dI U E k bn))(b:E.pl=E):rL [(17,358,ae),(132,75,aa (1,ab))] (.iface 132 (.ptr U 0 0 0)) [] M=aa (75,[E]):=by
 simp[rL,look,dI.ld a,b]
theorem amj(h:gq E dZ N k)(P:N<1000000)(f:z<N)(i:uq (λb=>fV (dZ b)) N z)(Q:∀b,b<N->dZ b≠[])(c:Holds M (dI U E k bn)):
 HR C 126 [.iface 132 (.ptr U 0 0 0),I (z:Int)] M (λr u=>r=.aB []/\∃n o,gq E n N o/\Holds u (dI U E o bn)/\Hp (λb=>fV (n b)) N/\(hy n N).Perm (hy dZ N)):=by
 apply SP.hq;apply bG (K:=Nat×(Nat->List Nat)×aL×List Obj) (λa=>[I a.1]) (λa=>a.2.2.2) (λa=>a.1) (λa=>a.1<N/\gq E a.2.1 N a.2.2.1/\Holds a.2.2.2 (dI U E a.2.2.1 bn)/\uq (λb=>fV (a.2.1 b)) N a.1/\(hy a.2.1 N).Perm (hy dZ N)) (z,dZ,k,M) ⟨f,h,c,i,.refl _⟩;clear f c i;rintro⟨z,e,p,J⟩ ⟨f,d,c,i,l⟩ K t;simp only at f d c i l t⊢;have q:∀b,b<N->e b≠[]:=λb B=>by
  let⟨R,L,j⟩:=w7.1 (l.mem_iff.1 (w7.2 ⟨b,B,rfl⟩));grind
 simp only[G];have H:aT .s .sub (I (z:Int)) (I 1)=aa (I ((z:Int) -1)):=by grind[nB]
 rw[H,O,amh (by omega) (by omega),O,bw];by_cases x:z=0;subst x;have:(((0:Nat):Int) -1).tdiv 2=0:=by decide
 rw[this];have j:aT .s .eql (I 0) (I ((0:Nat):Int))=aa tt:=rfl;rw[j,O];simp only[jC,Bool.true_eq_false,if_false,c3,if_true,G];exact⟨trivial,e,p,d,c,i.stop (.inl rfl),l⟩;have D:(z -1)/2<z:=by omega
 have m:(z -1)/2<N:=by omega
 rw[ami (by omega)];have j:aT .s .eql (I (((z -1)/2:Nat):Int)) (I (z:Int))=aa ff:=by
  have:((((z -1)/2:Nat):Int)==(z:Int))=false:=by rw[beq_eq_false_iff_ne];omega
  rw[tw,this]
 rw[j,O];simp only[jC,if_true];apply aY (B1 c d.pl);apply w8 (by simp[d.pl]) (Mz d (dI.tl c) f m (q _ f) (q _ m));simp only[bK,O,G];refine dw (λg=>?_) (λg=>?_);have g:fV (e ((z -1)/2))<=fV (e z):=by simpa using g
 exact⟨trivial,e,p,d,c,i.stop (.inr g),l⟩;have g:fV (e z)<fV (e ((z -1)/2)):=by simpa using g
 apply aY (B1 c d.pl);refine c7 (MA d (dI.tl c) m f) (by simp[d.pl]) λr v F=>?_;obtain⟨rfl,w,A,y⟩:=F;refine t ((z -1)/2,swp e ((z -1)/2) z,w,v) ⟨m,A,dI.bk y,?_,by grind[MD]⟩ D;simp only[ME];exact i.step f (by omega) g
theorem Xt(a:List Nat)(h:gq E dZ N k)(J:N<900000)(z:Hp (λb=>fV (dZ b)) N)(K:∀b,b<N->dZ b≠[])(L:a≠[])(q:Holds M (dI U E k bn)):
 HR C 74 [.iface 132 (.ptr U 0 0 0),.iface 31 (eS ab cN a)] M (λr j=>r=.aB []/\∃i c f,gq i c (N+1) f/\Holds j (dI U i f bn)/\Hp (λb=>fV (c b)) (N+1)/\(hy c (N+1)).Perm (a::hy dZ N)):=by
 apply RG.hq;have n:rL [(132,364,ae)] (.iface 132 (.ptr U 0 0 0)) [(AV.iface 31 (eS ab cN a)).pl] M=aa (364,[.ptr U 0 0 0,.iface 31 (eS ab cN a)]):=rfl;refine aY n (c7 (ame a h (by omega) q) rfl λr l e=>?_);let⟨rfl,v1,H,d,g⟩:=e;refine aY (Xs g d.pl) (w8 (by simp[d.pl]) (My (M:=l) d) ?_);have D:aT .s .sub (I ((N+1:Nat):Int)) (I 1)=aa (I (N:Int)):=by
  rw[nB (by omega) (by omega)];simp
 rw[D,O];have u:(hy (bN dZ N a) (N+1)).Perm (a::hy dZ N):=by
  rw[Xr,amd (dZ:=bN dZ N a) (b:=dZ) (by grind[bN])];have:bN dZ N a N=a:=by simp[bN]
  rw[this];exact I5
 have v:uq (λb=>fV (bN dZ N a b)) (N+1) N:=by
  refine uq.push (λF p x=>?_);have:=z F p x;unfold bN;rw[if_neg (by omega),if_neg (by omega)];exact this
 have y:∀b,b<N+1->bN dZ N a b≠[]:=by grind[bN]
 refine c7 (amj d (by omega) (by omega) v y g) rfl λr G e=>?_;obtain⟨rfl,o,m,w,t,A,B⟩:=e;exact⟨trivial,v1,o,m,w,t,A,B.trans u⟩
theorem amk(h:gq E dZ N k)(aZ:N<1000000)(a2:z<=N)(n:ur (λc=>fV (dZ c)) z 0)(a0:∀c,c<N->dZ c≠[])(j:Holds M (dI U E k bn)):
 HR C 127 [.iface 132 (.ptr U 0 0 0),I 0,I (z:Int)] M (λr R=>∃m p,gq E m N p/\Holds R (dI U E p bn)/\Hp (λc=>fV (m c)) z/\(∀c,z<=c->m c=dZ c)/\(hy m z).Perm (hy dZ z)):=by
 apply RJ.hq;refine kR (λw t=>(∃a ax:Int,w=[I a,I ax])/\∃m p,gq E m N p/\Holds t (dI U E p bn)/\Hp (λc=>fV (m c)) z/\(∀c,z<=c->m c=dZ c)/\(hy m z).Perm (hy dZ z)) (λa4 L=>?_) ?_
 refine bG (K:=Nat×(Nat->List Nat)×aL×List Obj) (λf=>[I f.1]) (λf=>f.2.2.2) (λf=>z -f.1) (λf=>f.1<=N/\gq E f.2.1 N f.2.2.1/\Holds f.2.2.2 (dI U E f.2.2.1 bn)/\ur (λc=>fV (f.2.1 c)) z f.1/\(∀c,z<=c->f.2.1 c=dZ c)/\(hy f.2.1 z).Perm (hy dZ z)) (0,dZ,k,M) ⟨by simp,h,j,n,λ_ _=>rfl,.refl _⟩ ?_;clear j n;rintro⟨a,e,J,H⟩ ⟨ai,l,j,n,F,D⟩ aA Q;simp only at ai l j n F D Q⊢;have B:∀c,c<z->e c≠[]:=λc P=>by
  let⟨a3,aR,aE⟩:=w7.1 (D.mem_iff.1 (w7.2 ⟨c,P,rfl⟩));grind
 simp only[G];have V:aT .s .mul (I 2) (I (a:Int))=aa (I ((2*a:Nat):Int)):=by
  rw[QF (by omega) (by omega)];simp
 have W:aT .s .add (I ((2*a:Nat):Int)) (I 1)=aa (I ((2*a+1:Nat):Int)):=a6;have X:aT .s .add (I ((2*a+1:Nat):Int)) (I 1)=aa (I ((2*a+2:Nat):Int)):=a6;rw[V,O,W,O,bw,h0,O];have a5:∀d,0<d->(d -1)/2=a->d=2*a+1\/d=2*a+2:=by omega
 refine ei (λo=>?_) (λo=>?_);have o:2*a+1<z:=by simp only[decide_eq_false_iff_not]at o;omega
 have aj:a<z:=by omega
 have Y:aT .s .lss (I ((2*a+1:Nat):Int)) (I 0)=aa ff:=by
  rw[A];have:y (((2*a+1:Nat):Int)<0)=false:=by simp;omega
  rw[this]
 rw[Y,O];simp only[G,c3,eZ,if_false];refine kR (λw t=>t=H/\∃i:Nat,w=[I (i:Int),I ((2*a+2:Nat):Int)]/\0<i/\i<z/\(i -1)/2=a/\∀d,0<d->d<z->(d -1)/2=a->fV (e i)<=fV (e d)) (λaz ak=>?_) ?_;rw[X,O,bw,A,O];have one:(∀d,0<d->d<z->(d -1)/2=a->fV (e (2*a+1))<=fV (e d))->az [I ((2*a+1:Nat):Int),I ((2*a+2:Nat):Int)] H:=by grind
 refine aW (λg=>?_) (λg=>?_);have g:2*a+2<z:=by simp only[decide_eq_true_eq]at g;omega
 apply aY (B1 j l.pl);apply w8 (by simp[l.pl]) (Mz l (dI.tl j) (by omega) (by omega) (B _ g) (B _ o));simp only[G];refine b (λq=>?_) (λq=>?_);have q:fV (e (2*a+2))<fV (e (2*a+1)):=by simpa using q
 refine ak _ _ ⟨rfl,2*a+2,rfl,by omega,g,by omega,λd u x v=>?_⟩;grind;have q:fV (e (2*a+1))<=fV (e (2*a+2)):=by simpa using q
 refine one λd u x v=>?_;grind;have g:¬2*a+2<z:=by simp only[decide_eq_false_iff_not]at g;omega
 simp only[G,c3,eZ,if_false];refine one λd u x v=>?_;grind;rintro w t ⟨rfl,i,rfl,ac,K,af,am⟩;simp only[G];apply aY (B1 j l.pl);apply w8 (by simp[l.pl]) (Mz l (dI.tl j) (show i<N by omega) (show a<N by omega) (B _ K) (B _ aj));simp only[bK,O];refine dw (λg=>?_) (λg=>?_);have g:fV (e a)<=fV (e i):=by simpa using g
 refine L _ _ ⟨⟨_,_,rfl⟩,e,J,l,j,n.stop (λd u x v=>?_),F,D⟩;grind;have g:fV (e i)<fV (e a):=by simpa using g
 apply aY (B1 j l.pl);refine c7 (MA l (dI.tl j) (show a<N by omega) (show i<N by omega)) (by simp[l.pl]) λr S au=>?_;obtain⟨rfl,T,ah,Z⟩:=au;refine Q (i,swp e a i,T,S) ⟨by omega,ah,dI.bk Z,?_,λc P=>?_,by grind[MD]⟩ (by omega);simp only[ME];exact n.step ac K af g am;grind[swp];have o:z<=2*a+1:=by simp only[decide_eq_true_eq]at o;omega
 simp only[G,c3,if_true];refine L _ _ ⟨⟨_,_,rfl⟩,e,J,l,j,n.stop (λd u x v=>?_),F,D⟩;omega;simp_all
theorem aml(h:gq E dZ (N+1) k)(P:N<900000)(i:Hp (λa=>fV (dZ a)) (N+1))(Q:∀a,a<N+1->dZ a≠[])(d:Holds M (dI U E k bn)):
 HR C 76 [.iface 132 (.ptr U 0 0 0)] M (λr l=>r=.iface 31 (eS ab cN (dZ 0))/\(∀a,a<N+1->fV (dZ 0)<=fV (dZ a))/\∃j c e,gq j c N e/\Holds l (dI U j e bn)/\Hp (λa=>fV (c a)) N/\(hy dZ (N+1)).Perm (dZ 0::hy c N)):=by
 apply Td.hq;refine aY (Xs d h.pl) (w8 (by simp[h.pl]) (My (M:=M) h) ?_);have G:aT .s .sub (I ((N+1:Nat):Int)) (I 1)=aa (I (N:Int)):=by
  rw[nB (by omega) (by omega)];simp
 rw[G,O];apply aY (B1 d h.pl);refine c7 (MA h (dI.tl d) (by grind) (by omega)) (by simp[h.pl]) λr H b=>?_;obtain⟨rfl,K,x,q⟩:=b;have v:ur (λa=>fV (swp dZ 0 N a)) N 0:=by
  rw[ME];exact ur.pop i
 have D:∀a,a<N+1->swp dZ 0 N a≠[]:=by grind[swp]
 refine c7 (amk (z:=N) x (by omega) (by omega) v D (dI.bk q)) rfl λr m b=>?_;let⟨g,L,y,t,F,B,R⟩:=b;have o:rL [(132,363,ae)] (.iface 132 (.ptr U 0 0 0)) [] m=aa (363,[.ptr U 0 0 0]):=rfl;refine aY o (c7 (amg y (by omega) t) rfl λr J b=>?_);obtain⟨rfl,v3,n,z,u⟩:=b;have w:g N=dZ 0:=by
  rw[B N (c5 N)];unfold swp;by_cases f:N=0;subst f;rfl;rw[if_neg f,if_pos rfl]
 refine⟨by rw[w]<;>rfl,λa A=>i.root a A,v3,g,n,z,u,F,?_⟩;have p:=MD (dZ:=dZ) (show 0<N+1 by omega) (show N<N+1 by omega);rw[Xr]at p;grind
end AM
namespace Law
variable{U:Nat}{mz:List (Nat × Nat)}{N:Nat}{bq:List Nat}
section
def b4(b:List (Nat×Nat))(done:List Nat)(c:Nat):Nat:=Z (b.filter λa=>a.1==c&& !done.contains a.2)
def dW(a:List (Nat×Nat))(b:Nat):List Nat:=(a.filter λc=>c.2==b).map Prod.fst
theorem Xu(b:Nat×Nat)(c:List (Nat×Nat))(done:List Nat)(a:Nat):b4 (b::c) done a=(if b.1=a/\b.2∉done then 1 else 0)+b4 c done a:=by
 grind[b4]
theorem MF{done:List Nat}{b:Nat}(d:U∉done):∀{a:List (Nat×Nat)},a.Nodup->b4 a done b=b4 a (done++[U]) b+(if(b,U)∈a then 1 else 0)
 |[],_=>by simp[b4]
 |k::a,c=>by
  rw[kZ]at c;have e:=MF (b:=b) d c.2;rw[Xu,Xu,e];grind
theorem amm{done:List Nat}:b4 mz done U=0<->∀a,(U,a)∈mz->a∈done:=by
 unfold b4;rw[I3,I9];grind
theorem amn:N∈dW mz U<->(N,U)∈mz:=by
 simp only[dW,cy,l4,beq_iff_eq];constructor;rintro⟨⟨b,c⟩,⟨a,rfl⟩,rfl⟩;exact a;intro h;exact⟨(N,U),⟨h,rfl⟩,rfl⟩
theorem Xv{b:Nat}:∀{a:List (Nat×Nat)},a.Nodup->(dW a b).Nodup
 |[],_=>by simp[dW]
 |k::a,c=>by
  rw[kZ]at c;have d:=Xv (b:=b) c.2;grind[dW]
structure HP(d:cA)(of:Nat->Nat)(K:List (Nat×Nat)):Prop where
 nd:K.Nodup
 mem:∀x y,(x,y)∈K<->x≠y/\∃a c,d a c=ad/\of a=x/\of c=y
variable{n:Nat}{D d:cA}{L:List (List Nat)}{of:Nat->Nat}{K:List (Nat×Nat)}
theorem MG(e:HP d of K){done:List Nat}:BP d L of (λj=>y (j∈done)) U<->U<Z L/\U∉done/\b4 K done U=0:=by
 rw[amm];unfold BP;constructor;rintro⟨a,g,c⟩;refine⟨a,by grind,λn i=>?_⟩;obtain⟨m,f,b,h,rfl,rfl⟩:=(e.mem _ _).1 i;grind;rintro⟨a,g,c⟩;refine⟨a,by grind,λf b h k l=>?_⟩;have:=c (of b) ((e.mem _ _).2 (by grind));grind
structure vG(d:cA)(L:List (List Nat))(of:Nat->Nat)(K:List (Nat×Nat))(done R:List Nat):Prop where
 MH:R.Nodup
 Ai:∀i,i∈R<->i<Z L/\i∉done/\b4 K done i=0
 Xw:∀i,i∈done->b4 K done i=0
 run:∀rest,wW d L of (λj=>y (j∈done)) rest->wW d L of (λ_=>ab) (done.map (λi=>L[i]?.getD [])++rest)
theorem vG.start{R:List Nat}(b:R.Nodup)(c:∀a,a∈R<->a<Z L/\b4 K [] a=0):vG d L of K [] R:=by
 refine⟨b,by grind,by grind,λe h=>?_⟩;grind
theorem vG.last{done:List Nat}(b:HP d of K)(h:vG d L of K done []):wW d L of (λ_=>ab) (done.map λa=>L[a]?.getD []):=by
 have:=h.run [] (.done _ λa c=>by
  have:=(h.Ai a).2 ((MG b).1 c);cases this)
 grind
theorem vG.step{done R:List Nat}(k:HP d of K)(h:vG d L of K done R)(o:U∈R)(t:∀a∈R,qX L U<=qX L a)(n:bq.Nodup)
 (s:∀a,a∈bq<->(a∈R/\a≠U)\/(a<Z L/\(a,U)∈K/\b4 K (done++[U]) a=0)):vG d L of K (done++[U]) bq:=by
 let⟨q,p,u⟩:=(h.Ai U).1 o;have m:∀c,b4 K done c=b4 K (done++[U]) c+(if(c,U)∈K then 1 else 0):=λc=>MF p k.nd;refine⟨n,λa=>?_,λa b=>?_,λf v=>?_⟩;rw[s,h.Ai];have:=m a;simp only[dm,l5,not_or];constructor;rintro(⟨⟨g,i,j⟩,e⟩|⟨g,i,j⟩);grind;rw[if_pos i]at this;refine⟨g,⟨λr=>?_,λe=>?_⟩,j⟩;have:=h.Xw a r;omega;grind;grind;rcases dm.1 b with b|b;have:=m a;have:=h.Xw a b;omega;grind
 have l:L[U]?=aa L[U]:=bu q;have e:(done++[U]).map (λU=>L[U]?.getD [])++f=done.map (λU=>L[U]?.getD [])++(L[U]::f):=by simp[l]
 rw[e];refine h.run _ (.step _ U L[U] f (by grind[MG]) l (λa b=>t a ((h.Ai a).2 ((MG k).1 b))) ?_);grind
end
end Law
namespace AM
open Go.Law
def b8(b:Nat)(a:Nat->List AV):List (List AV):=(ay b).map a
theorem yy(a:Nat)(b:Nat->List AV):Z (b8 a b)=a:=by simp[b8]
variable{U N:Nat}
theorem w9(a:Nat->List AV)(h:N<U):(b8 U a)[N]?=aa (a N):=by simp[b8,h]
theorem MI(a:Nat->List AV)(c b:Nat)(d:List AV):(b8 c a).set b d=b8 c (bN a b d):=by
 refine yR λe=>?_;grind[bN,b8]
theorem B2{b c:Nat->List AV}(h:∀a,a<U->b a=c a):b8 U b=b8 U c:=sM (by grind)
section
variable{H:List Obj}{id m i:Nat}{F:Nat->List AV}{X:aL}
theorem xa(a:H[id]?=aa (.arr 0 1 (b8 m F)))(b:i<m):bT 1 (.q id 0 0 m) (I (i:Int)) H=aa (.ptr id 0 i 0):=fu a b
theorem Aj(b:H[id]?=aa (.arr 0 1 (b8 m F)))(c:i<m){a:AV}(d:F i=[a]):aQ 1 ab (.ptr id 0 i 0) H=aa a:=by
 rw[cY b (w9 F c),d]<;>rfl
theorem HQ(b:H[id]?=aa (.arr 0 1 (b8 m F)))(d:i<m){w:AV}(f:F i=[w]){a:AV}(e:a.pl=a)(c:a.bU=ad):dp 1 (.ptr id 0 i 0) a H=aa (H.set id (.arr 0 1 (b8 m (bN F i [a])))):=by
 rw[Ee b (w9 F d) (by grind) e c,MI,f]<;>rfl
end
abbrev Ej:KD:=⟨ad,2,[0,0]⟩
def uB(a:Nat×Nat):AV:=.agg [I (a.1:Int),I (a.2:Int)]
def qc(a:List (Nat×Nat)):Obj:=.mp ad (a.map uB) (a.map λ_=>tt)
theorem MJ(a b:Nat×Nat):Ej.eq (uB a) (uB b)=aa (a==b):=by
 let⟨c,d⟩:=a;let⟨e,f⟩:=b;have:((c,d)==(e,f))=(((c:Int)==e)&&(((d:Int)==f)&&ad)):=by
  rw[iQ];simp;omega
 rw[this]<;>rfl
theorem MK(c:Nat×Nat):∀(b:List (Nat×Nat))(a:Nat),Ej.find (uB c) (b.map uB) a=aa ((b.findIdx? (c==·)).map (· +a))
 |[],a=>rfl
 |x::b,a=>by
  rw[eg,KD.find,MJ,E2];cases h:c==x with
  |true=>simp
  |false=>
   simp only[eZ,if_false];rw[MK c b (a+1)];rcases b.findIdx? (c==·)with _|j;rfl;simp;omega
variable{mz:List (Nat × Nat)}{M:List Obj}
theorem amo{id:Nat}(a:Nat×Nat)(h:M[id]?=aa (qc mz)):iI Ej ff ab (.b7 id) (uB a) M=aa (.bool (y (a∈mz))):=by
 have b:mc M (.b7 id)=aa (mz.map uB,mz.map λ_=>tt):=by simp[mc,h,qc]
 simp only[iI,b,MJ,oD,if_true,MK];rcases c:mz.findIdx? (a==·)with _|i;grind;grind[List.findIdx?_eq_some_iff_getElem]
theorem amp{id:Nat}(a:Nat×Nat)(h:M[id]?=aa (qc mz))(c:a∉mz):jO Ej (.b7 id) (uB a) tt M=aa (M.set id (qc (mz++[a]))):=by
 have b:(uB a).pl=uB a:=rfl;simp only[jO,h,qc,b,MJ,oD,if_true,MK];grind[AV.pl]
def flat(a:Nat->aL)(b:Nat):aL:=((ay b).map a).flatten
theorem Ek(b:Nat->aL):∀{m a:Nat},a<m->∃c d:aL,∀Q:aL,flat (bN b a Q) m=c++(Q++d)
 |0,_,h=>by omega
 |m+1,a,h=>by
  have g:∀b:Nat->aL,flat b (m+1)=flat b m++b m:=by grind[flat,List.range_succ]
  by_cases e:a=m;subst e;refine⟨flat b a,[],λQ=>?_⟩;rw[g];have j:flat (bN b a Q) a=flat b a:=by
   unfold flat
   congr 1
   refine sM λi f=>?_;have:i<a:=by simpa using f
   unfold bN;grind
  grind[bN];let⟨c,d,k⟩:=Ek b (m:=m) (a:=a) (by omega);refine⟨c,d++b m,λQ=>?_⟩;grind[bN]
variable{K:Type}
theorem HS(a:Nat->K)(b:Nat):bN a b (a b)=a:=by
 grind[bN]
variable{k bn:aL}{hL:Obj}
theorem Holds.su(h:Holds M (k++(U,hL)::bn))(a:Obj):Holds (M.set U a) (k++(U,a)::bn):=Holds.front (Holds.set (Holds.back h) a)
def ir(b:Nat)(e:Nat->Nat)(f:Nat->AV)(c:List (Nat×Nat))(d:Nat->aL):aL:=(1,.arr 0 1 (b8 b λa=>[I (e a:Int)]))::(2,.arr 0 1 (b8 b λa=>[f a]))::(3,qc c)::flat d b
variable{mG:Nat × Nat}
theorem amq(a:Nat):b4 (mz++[mG]) [] a=(if a=mG.1 then b4 mz [] a+1 else b4 mz [] a):=by
 grind[b4]
theorem amr(a:Nat):dW (mz++[mG]) a=(if a=mG.2 then dW mz a++[mG.1]else dW mz a):=by
 grind[dW]
variable{iz:List Obj -> Prop}
theorem ams{d:Nat->AV}{e:Nat->aL}(b a:Nat)(r:b<U)(k:a<U)(E:Holds M (ir U (b4 mz []) d mz e))(V:∀c,bB (d c) cN 1 (dW mz c) (e c))(T:(b,a)∉mz)(ax:Z mz<100000)
 (F:∀t G v,Holds t (ir U (b4 (mz++[(b,a)]) []) G (mz++[(b,a)]) v)->(∀c,bB (G c) cN 1 (dW (mz++[(b,a)]) c) (v c))->iz t):
 bd (jO Ej (.b7 3) (.agg [I (b:Int),I (a:Int)]) tt M) λl=>bd (bT 1 (.q 1 0 0 U) (I (b:Int)) l) λX=>bd (aQ 1 ab X l) λY=>bd (aT .s .add Y (I 1)) λac=>bd (bT 1 (.q 1 0 0 U) (I (b:Int)) l) λaf=>bd (dp 1 af ac l) λp=>
  bd (bT 1 (.q 2 0 0 U) (I (a:Int)) p) λah=>bd (aQ 1 ab ah p) λai=>bd (fQ 1 [(I 0)] 1 [(0,I (b:Int))]) λaj=>cj (cJ 1 8 ai aj p) λak A=>bd (bT 1 (.q 2 0 0 U) (I (a:Int)) A) λam=>bd (dp 1 am ak A) λR=>iz R:=by
 have az:b4 mz [] b<=Z mz:=pA _ _;have aA:Z (dW mz a)<=Z mz:=by
  unfold dW;rw[kc];exact pA _ _
 apply aI (amp (b,a) (E.get (U:=3) (hL:=qc mz) (by simp[ir])) T);have y:Holds (M.set 3 (qc (mz++[(b,a)]))) (ir U (b4 mz []) d (mz++[(b,a)]) e):=Holds.su (k:=[(1,.arr 0 1 (b8 U λc=>[I (b4 mz [] c:Int)])),(2,.arr 0 1 (b8 U λc=>[d c]))]) E _;generalize M.set 3 (qc (mz++[(b,a)]))=m at*;have o:m[1]?=aa (.arr 0 1 (b8 U λc=>[I (b4 mz [] c:Int)])):=y.get (by simp[ir])
 simp only[xa o r,O,Aj o r (a:=I (b4 mz [] b:Int)) rfl,a6 (show b4 mz [] b<4611686018427387904 by omega)];apply aI (HQ o r (w:=I (b4 mz [] b:Int)) rfl rfl rfl);have K:b8 U (bN (λc=>[I (b4 mz [] c:Int)]) b [I ((b4 mz [] b+1:Nat):Int)])=b8 U λc=>[I (b4 (mz++[(b,a)]) [] c:Int)]:=by
  refine B2 λc _=>?_;rw[amq];unfold bN;split;rename_i h;subst h;rfl;rfl
 rw[K];have z:Holds (m.set 1 (.arr 0 1 (b8 U λc=>[I (b4 (mz++[(b,a)]) [] c:Int)]))) (ir U (b4 (mz++[(b,a)]) []) d (mz++[(b,a)]) e):=Holds.set y _;generalize m.set 1 (.arr 0 1 (b8 U λc=>[I (b4 (mz++[(b,a)]) [] c:Int)]))=u at*;have w:u[2]?=aa (.arr 0 1 (b8 U λc=>[d c])):=z.get (by simp[ir]);let⟨f,j,D⟩:=Ek e k;have S:flat e U=f++(e a++j):=by rw[<-D,HS]
 simp only[xa w k,O,Aj w k (a:=d a) rfl];refine aI (dR:=.sl ab [cN b]) rfl ?_;let i:aL:=[(1,.arr 0 1 (b8 U λc=>[I (b4 (mz++[(b,a)]) [] c:Int)])),(2,.arr 0 1 (b8 U λc=>[d c])),(3,qc (mz++[(b,a)]))];have P:Holds u ((i++f)++(e a++j)):=by
  have:ir U (b4 (mz++[(b,a)]) []) d (mz++[(b,a)]) e=(i++f)++(e a++j):=by
   rw[ir,S];simp[i]
  rw[<-this];exact z
 let⟨id,g,n,L,Q⟩:=(V a).app (bytes:=8) P.swap b rfl (by omega);apply aY L;have B:Holds n ([(1,.arr 0 1 (b8 U λc=>[I (b4 (mz++[(b,a)]) [] c:Int)]))]++(2,.arr 0 1 (b8 U λc=>[d c]))::((3,qc (mz++[(b,a)]))::flat (bN e a [(id,.arr g 1 ((dW mz a++[b]).map cN))]) U)):=by
  have C:Holds n ((i++f)++([(id,.arr g 1 ((dW mz a++[b]).map cN))]++j)):=Holds.swap (k:=[(id,.arr g 1 ((dW mz a++[b]).map cN))]) (bn:=i++f) Q;have J:(i++f)++([(id,.arr g 1 ((dW mz a++[b]).map cN))]++j)=i++flat (bN e a [(id,.arr g 1 ((dW mz a++[b]).map cN))]) U:=by
   rw[D,gY]
  rw[J]at C;exact C
 have x:n[2]?=aa (.arr 0 1 (b8 U λc=>[d c])):=B.get (by simp);simp only[xa x k,O];apply aI (HQ x k (w:=d a) rfl rfl rfl);have N:b8 U (bN (λc=>[d c]) a [.q id g 0 (Z (dW mz a++[b]))])=b8 U λc=>[bN d a (.q id g 0 (Z (dW mz a++[b]))) c]:=by
  refine B2 λc _=>?_;unfold bN;grind
 rw[N];refine F _ (bN d a (.q id g 0 (Z (dW mz a++[b])))) (bN e a [(id,.arr g 1 ((dW mz a++[b]).map cN))]) (Holds.su B _) λc=>?_;rw[amr];grind[bN,bB.of]
variable{V:D}
theorem HT:p3 V U N=ad<->((U:Int),(N:Int))∈(kM V).map (·.1):=by
 simp only[p3,qS,l3,I2,bc,beq_iff_eq];constructor;rintro⟨⟨b,c⟩,a,rfl,rfl⟩;exact a;intro h;exact⟨_,h,rfl,rfl⟩
theorem ML(a:mn V):Z (kM V)<=10000:=by
 have b:=DR V 100 V.ak a.2.1 [];have c:=my 100 a.1;grind[kM]
theorem MM(a:Nat):flat (λ_=>[]) a=[]:=by simp[flat]
variable{bq:List Nat}
theorem HU(h:bq.Nodup)(c:∀a∈bq,a<U):Z bq<=U:=by
 have b:bq.Perm ((ay U).filter λa=>y (a∈bq)):=(OI h (EU.filter _)).2 (by grind);rw[b.length_eq];grind
variable{fk:List (List Nat)}
theorem Xx:fV (fk[U]?.getD [])=(qX fk U:Int):=by
 grind[fV,qX,g]
variable{T F:Bool}
theorem amt(z:D)(g6:mn z){of:Nat->Nat}(ls:PR C 72 [.agg (cP T F z)] (.aB [eS ab cN ((ay (Z z.Q)).map of),eS ab cG fk]))(a5:tg (Z z.Q) (c4 z) fk of)(be:Z fk<=Z z.Q):PR C 26 [.agg (cP T F z)] (eS ab cG (fa (Z z.Q) (c4 z))):=by
 have t4:=g6.2.2;apply RE.pr;refine aI (eP _ _ _) (aY rfl ?_);rw[gS,O];apply c ls;simp only[fH,de,eF,O,a1];apply aY (rY (by omega) (by omega));apply aY (rY (by omega) (by omega));simp only[dK,eU,hD,kD,e3,gS,O];apply c (Xn z g6);simp only[de,eF,O,a1];have ah:∀(U:Nat)(f3:List AV),db U f3=b8 U λ_=>f3:=λU f3=>by simp[b8,OJ]
 rw[ah,ah];have g1:=BG (V:=z);have hw:=ML g6;have hu:∀m p,p3 z m p=ad<->((m:Int),(p:Int))∈(kM z).map (·.1):=λm p=>HT;have m3:∀f(h:f<Z ((kM z).map (·.1))),∃m p:Nat,((kM z).map (·.1))[f]=((m:Int),(p:Int))/\m<Z z.Q/\p<Z z.Q:=by
  intro f h;have be:=bp h;let⟨v,g0,o⟩:=cy.1 be;have:=g1 v g0;refine⟨v.1.1.toNat,v.1.2.toNat,?_,by omega,by omega⟩;rw[<-o];let⟨⟨l,E⟩,f3⟩:=v;simp only at this⊢;rw[eE];omega
 have hw:Z ((kM z).map (·.1))<=10000:=by simpa using hw
 have gQ:∀m p,p3 z m p=ad->m<Z z.Q/\p<Z z.Q:=by
  intro m p h;let⟨v,g0,o⟩:=cy.1 ((hu m p).1 h);have:=g1 v g0;have t:v.1.1=m:=by rw[o]
  have u:v.1.2=p:=by rw[o]
  omega
 have m2:∀out,wW (p3 z) fk of (λ_=>ab) out->fa (Z z.Q) (c4 z)=out:=λout ah=>aj4 a5 gQ (λm p=>G1 gQ m p) ah;clear g1;generalize(kM z).map (·.1)=aR at*;generalize t5:Z z.Q=ak at*;generalize p3 z=f7 at*;generalize c4 z=s0 at*;have cs:Holds [.arr 0 1 [],.arr 0 1 (b8 (Z fk) λ_=>[I 0]),.arr 0 1 (b8 (Z fk) λ_=>[.aq]),qc []] (ir (Z fk) (b4 [] []) (λ_=>.aq) [] λ_=>[]):=by
  refine⟨by simp[ir,MM],λl ai=>?_⟩;simp only[ir,MM,b5,jM,or_false]at ai;rcases ai with rfl|rfl|rfl<;>rfl
 have g5:∀m,m<ak->∀B,bT 1 (eS ab cN ((ay ak).map of)) (I (m:Int)) B=aa (.aH ab (cN (of m)) 0):=λm m0 B=>by
  have m1:m<Z ((ay ak).map of):=by simpa using m0
  have v:bT 1 (eS ab cN ((ay ak).map of)) (I (m:Int)) B=aa (.aH ab (cN ((ay ak).map of)[m]) 0):=aF m1 rfl;rw[v,xq,Cr]
 have hk:∀ak:Nat,(cN ak)[0]?=aa (I (ak:Int)):=λ_=>rfl;generalize d0:Z fk=U at*
 apply bG (K:=Nat×List Obj×List (Nat×Nat)×(Nat->AV)×(Nat->aL)) (λj=>[I j.1]) (λj=>j.2.1) (λj=>Z aR -j.1) (λj=>j.1<=Z aR/\Holds j.2.1 (ir U (b4 j.2.2.1 []) j.2.2.2.1 j.2.2.1 j.2.2.2.2)/\(∀d,bB (j.2.2.2.1 d) cN 1 (dW j.2.2.1 d) (j.2.2.2.2 d))/\j.2.2.1.Nodup/\Z j.2.2.1<=j.1/\∀l E,(l,E)∈j.2.2.1<->l≠E/\∃m p:Nat,((m:Int),(p:Int))∈aR.take j.1/\of m=l/\of p=E) (0,_,[],(λ_=>.aq),λ_=>[]) ⟨by simp,cs,λd=>bB.nil _ _,xt,by simp,by simp⟩
 clear cs;rintro⟨f,af,e,N,L⟩ ⟨g2,a0,d1,a2,l0,em⟩ s1 ac;simp only at g2 a0 d1 a2 l0 em ac⊢;simp only[G,A,O,a];refine b (λh=>?_) (λh=>?_);have h:f<Z aR:=by simpa using h
 let⟨m,p,ho,hs,ht⟩:=m3 f h;have R:=a5.pg m hs;have io:=a5.pg p ht;rw[d0]at R io;have ro:∀v:Int×Int,aQ 2 ad (.aH ab (b2 v) 0) af=aa (.agg (b2 v)):=λ_=>rfl;have kl:∀v:Int×Int,dS 2 (.agg (b2 v))=aa [I v.1,I v.2]:=λ_=>rfl;have kw:∀l E:Int,dS 2 (.agg [I l,I E])=aa [I l,I E]:=λ_ _=>rfl;have f0:=iu h;rw[ho]at f0;rw[bw]
 simp only[aF h (tT _),O,ro,kl,ho,G,i,g5 m hs,g5 p ht,aK,hk,wM,kw,cx,a6 (show f<4611686018427387904 by omega)];have nl:(((of m:Nat):Int) !=(of p:Int))=y (of m≠of p):=by
  rw[iQ,bne_iff_ne,decide_eq_true_eq];omega
 rw[nl];have h4:∀(f6:List (Nat×Nat)),(∀l E,(l,E)∈f6<->(l,E)∈e\/(of m≠of p/\l=of m/\E=of p))->∀l E,(l,E)∈f6<->l≠E/\∃m p:Nat,((m:Int),(p:Int))∈aR.take (f+1)/\of m=l/\of p=E:=by
  intro f6 lm l E;rw[lm,em,f0];simp only[dm,l5,eE];constructor;rintro(⟨o,d7,d8,t,u,w⟩|⟨o,rfl,rfl⟩);exact⟨o,d7,d8,.inl t,u,w⟩;exact⟨o,m,p,.inr ⟨rfl,rfl⟩,rfl,rfl⟩;rintro⟨o,d7,d8,t|⟨t,u⟩,w,X⟩;exact .inl ⟨o,d7,d8,t,w,X⟩;have f8:d7=m:=by omega
  have kx:d8=p:=by omega
  subst f8;subst kx;exact .inr ⟨by rw[w,X];exact o,w.symm,X.symm⟩
 refine yr (M:=af) (y (of m≠of p)&& !y ((of m,of p)∈e)) [I (m:Int),I (p:Int),I (of m:Int),I (of p:Int)] (λi1 fn=>?_) ?_;refine aW (λo=>?_) (λo=>DY fn (by rw[o]<;>rfl));have M:=amo (of m,of p) (a0.get (U:=3) (hL:=qc e) (by simp[ir]));have n8:uB (of m,of p)=.agg [I (of m:Int),I (of p:Int)]:=rfl;rw[n8]at M;simp only[M,O,bK];exact DY fn (by rw[o,cZ]);simp only[G,i];refine b (λo=>?_) (λo=>?_)
 simp only[bc,decide_eq_true_eq,gZ,decide_eq_false_iff_not]at o;refine ams (of m) (of p) R io a0 d1 o.2 (by omega) λi2 st i9 rx sp=>?_;refine ac (f+1,i2,e++[(of m,of p)],st,i9) ⟨h,rx,sp,?_,by simp;omega,h4 _ λl E=>?_⟩ (by simp;omega);rw[tJ];refine⟨a2,by simp,λl ai E au=>?_⟩;simp only[l5]at au;subst au;rintro rfl;exact o.2 ai;simp only[dm,l5,eE]
 exact⟨λaj=>aj.imp id λl=>⟨o.1,l⟩,λaj=>aj.imp id λl=>l.2⟩;refine ac (f+1,af,e,N,L) ⟨h,a0,d1,a2,by simp;omega,h4 _ λl E=>?_⟩ (by simp;omega);constructor;exact .inl;rintro(t|⟨t,rfl,rfl⟩);exact t;simp only[I7,decide_eq_false_iff_not,OD,decide_eq_true_eq]at o;exact o.resolve_left λaj=>aj t
 ·have:f=Z aR:=by simp at h;omega
  subst this;clear ac;rw[dU]at em;have go:HP f7 of e:=⟨a2,λl E=>by rw[em];simp only[hu]⟩;have a3:∀f(h:f<U),fk[f]?.getD []=fk[f]'(by rw[d0];exact h):=λf h=>by rw[bu (by rw[d0];exact h)]<;>rfl
  have c2:∀f,f<U->fk[f]?.getD []≠[]:=λf h=>by rw[a3 f h];exact a5.ne _ (bp _)
  have lc:nw 1 .dG af=aa (.ptr (Z af) 0 0 0,af++[.arr 0 1 [[.dG]]]):=rfl;apply aY lc;have el:Holds (af++[.arr 0 1 [[.dG]]]) (dI (Z af) .dG [] (ir U (b4 e []) N e L)):=a0.alloc (.arr 0 1 [[.dG]]);generalize af++[Obj.arr 0 1 [[AV.dG]]]=i3 at*;generalize Z af=P at*;have hH:∀f,(ay (f+1)).filter (λd=>b4 e [] d==0)=(ay f).filter (λd=>b4 e [] d==0)++(if b4 e [] f=0 then[f]else[]):=λf=>by
   rw[uK,yS];by_cases h:b4 e [] f=0<;>simp[h]
  apply bG (K:=Nat×List Obj×AV×(Nat->List Nat)×Nat×aL) (λj=>[I j.1]) (λj=>j.2.1) (λj=>U -j.1) (λj=>j.1<=U/\gq j.2.2.1 j.2.2.2.1 j.2.2.2.2.1 j.2.2.2.2.2/\Holds j.2.1 (dI P j.2.2.1 j.2.2.2.2.2 (ir U (b4 e []) N e L))/\Hp (λn=>fV (j.2.2.2.1 n)) j.2.2.2.2.1/\(hy j.2.2.2.1 j.2.2.2.2.1).Perm (((ay j.1).filter λd=>b4 e [] d==0).map λf=>fk[f]?.getD [])/\j.2.2.2.2.1<=j.1) (0,i3,.dG,(λ_=>[]),0,[]) ⟨by simp,.inl ⟨rfl,rfl,rfl⟩,el,λf t0 o=>absurd o (by simp),.refl _,by simp⟩
  clear el a0;rintro⟨f,B,K,J,V,W⟩ ⟨g2,S,H,R,M,ip⟩ i6 ac;simp only at g2 S H R M ip ac⊢;simp only[G,A,O,a];have a4:∀n,n<V->J n≠[]:=λn az=>by
   let⟨d,x,v⟩:=cy.1 (M.mem_iff.1 (w7.2 ⟨n,az,rfl⟩));rw[<-v];have:d<f:=by simpa using(l4.1 x).1
   exact c2 d (by omega)
  refine b (λo=>?_) (λo=>?_);have o:f<U:=by simpa using o
  have lt:f<Z fk:=by omega
  have aZ:B[1]?=aa (.arr 0 1 (b8 U λd=>[I (b4 e [] d:Int)])):=H.get (by simp[dI,ir]);have pp:bT 1 (eS ab cG fk) (I (f:Int)) B=aa (.aH ab (cG fk[f]) 0):=aF lt (D2 _);have d2:∀d4 f2 cl bm d6,gq f2 cl bm d6->Holds d4 (dI P f2 d6 (ir U (b4 e []) N e L))->Hp (λn=>fV (cl n)) bm->(hy cl bm).Perm (((ay (f+1)).filter λd=>b4 e [] d==0).map λf=>fk[f]?.getD [])->bm<=f+1->i6 [I ((f+1:Nat):Int)] d4:=
   λd4 f2 cl bm d6 ca ci cc ce ke=>ac (f+1,d4,f2,cl,bm,d6) ⟨o,ca,ci,cc,ce,ke⟩ (by simp only;omega)
  rw[hH]at d2;rw[bw];simp only[pp,O,aK,zU,xa aZ o,Aj aZ o (a:=I (b4 e [] f:Int)) rfl,tw,a6 (show f<4611686018427387904 by omega)];refine b (λt=>?_) (λt=>?_);have t:b4 e [] f=0:=by
   rw[beq_iff_eq]at t;omega
  rw[if_pos t,hE]at d2;refine c7 (Xt fk[f] S (by omega) R a4 (by rw[<-a3 f o];exact c2 f o) H) rfl λr f4 ah=>?_;let⟨rfl,v2,co,i7,ca,ci,cc,ce⟩:=ah;refine d2 f4 v2 co (V+1) i7 ca ci cc ?_ (by omega);refine ce.trans ((List.Perm.cons _ M).trans ?_);have:[f].map (λf=>fk[f]?.getD [])=[fk[f]]:=by simp[a3 f o]
  rw[this];exact I5 (l₁:=[fk[f]]);have t:b4 e [] f≠0:=by
   rw[beq_eq_false_iff_ne]at t;omega
  rw[if_neg t,sO]at d2;exact d2 B K J V W S H R M (by omega)
  ·have:f=U:=by simp at o;omega
   subst this;clear ac;have ol:∀d,((b4 e [] d==0)=ad)=(b4 e [] d=0):=λd=>by simp
   have Y:vG f7 fk of e [] ((ay f).filter λd=>b4 e [] d==0):=vG.start (EU.filter _) λd=>by simp[d0]
   have cs:Holds (B++[.arr 0 1 []]) (dI P K W ([(Z B,.arr 0 1 (([]:List (List Nat)).map cG))]++ir f (b4 e []) N e L)):=Holds.front (k:=(P,.arr 0 1 [[K]])::W) (H.alloc (.arr 0 1 []));refine aY (dR:=.q (Z B) 0 0 0) (oK:=B++[.arr 0 1 []]) rfl ?_;generalize B++[Obj.arr 0 1 []]=i4 at*;generalize Z B=d3 at*
   have aA:bB (.q d3 0 0 0) cG 1 ([]:List (List Nat)) [(d3,.arr 0 1 (([]:List (List Nat)).map cG))]:=bB.of (x:=([]:List (List Nat)));generalize((ay f).filter λd=>b4 e [] d==0)=jp at*;clear H a4 ol hH
   refine bG (K:=List Obj×AV×(Nat->List Nat)×Nat×aL×AV×aL×List Nat×List Nat) (λj=>[j.2.2.2.2.2.1]) (λj=>j.1) (λj=>f -(Z j.2.2.2.2.2.2.2.1)) (λj=>gq j.2.1 j.2.2.1 j.2.2.2.1 j.2.2.2.2.1/\Holds j.1 (dI P j.2.1 j.2.2.2.2.1 (j.2.2.2.2.2.2.1++ir f (b4 e j.2.2.2.2.2.2.2.1) N e L))/\Hp (λn=>fV (j.2.2.1 n)) j.2.2.2.1/\(hy j.2.2.1 j.2.2.2.1).Perm (j.2.2.2.2.2.2.2.2.map λf=>fk[f]?.getD [])/\
    bB j.2.2.2.2.2.1 cG 1 (j.2.2.2.2.2.2.2.1.map λf=>fk[f]?.getD []) j.2.2.2.2.2.2.1/\vG f7 fk of e j.2.2.2.2.2.2.2.1 j.2.2.2.2.2.2.2.2/\j.2.2.2.2.2.2.2.1.Nodup/\∀d∈j.2.2.2.2.2.2.2.1,d<f) (i4,K,J,V,W,.q d3 0 0 0,[(d3,.arr 0 1 (([]:List (List Nat)).map cG))],[],jp) ⟨S,cs,R,M,aA,Y,xt,by simp⟩ ?_
   clear cs aA Y R M S ip;rintro⟨B,K,J,V,W,us,hg,done,Rd⟩ ⟨S,H,R,M,aA,Y,es,eq⟩ s2 ac;simp only at S H R M aA Y es eq ac⊢;have eo:∀d∈Rd,d<f:=λd x=>by have:=((Y.Ai d).1 x).1;omega
   have t7:V<=f:=by
    have o:=M.length_eq;have t:=HU Y.MH eo;simp[hy]at o;omega
   have t2:=HU es eq;have el:=dI.get H;simp only[hT el,O,dI.ld H];apply w8 (by simp[S.pl]) (My (M:=B) S);rw[eX,O];refine b (λo=>?_) (λo=>?_)
   ·obtain⟨br,rfl⟩:∃br,V=br+1:=⟨V -1,by simp at o;omega⟩
    have a4:∀n,n<br+1->J n≠[]:=λn az=>by
     let⟨d,x,v⟩:=cy.1 (M.mem_iff.1 (w7.2 ⟨n,az,rfl⟩));rw[<-v];exact c2 d (eo d x)
    refine c7 (aml S (by omega) R a4 H) rfl λr f4 ah=>?_;obtain⟨rfl,m8,v1,f9,bv,hO,hl,ii,h3⟩:=ah;let⟨k,ex,d9⟩:=cy.1 (M.mem_iff.1 (w7.2 ⟨0,by omega,rfl⟩));have a9:=eo k ex;have g3:=((Y.Ai k).1 ex).2.1;simp only[A5,if_true,O];refine aI (dR:=.sl ab [cG (J 0)]) rfl ?_;have fx:Holds f4 (hg++(((P,.arr 0 1 [[v1]])::bv)++ir f (b4 e done) N e L)):=Holds.swap (k:=(P,.arr 0 1 [[v1]])::bv) hl
    let⟨id,g,d5,hh,c1⟩:=aA.app (bytes:=24) fx (J 0) rfl (by rw[kc];omega);apply aY hh;have c1:Holds d5 (dI P v1 bv ([(id,.arr g 1 ((done.map (λf=>fk[f]?.getD [])++[J 0]).map cG))]++ir f (b4 e done) N e L)):=Holds.front (k:=(P,.arr 0 1 [[v1]])::bv) c1
    have n6:bB (.q id g 0 (Z (done.map (λf=>fk[f]?.getD [])++[J 0]))) cG 1 ((done++[k]).map λf=>fk[f]?.getD []) [(id,.arr g 1 ((done.map (λf=>fk[f]?.getD [])++[J 0]).map cG))]:=by
     rw[hE,I8,d9];exact bB.of
    generalize md:[(id,Obj.arr g 1 ((done.map (λf=>fk[f]?.getD [])++[J 0]).map cG))]=aE at*;clear fx hh md;have m4:J 0=fk[k]'(by omega):=by rw[<-d9];exact a3 k a9
    have m7:(J 0).headD 0∈J 0:=by
     have:=a4 0 (by omega);rcases aj:J 0 with _|⟨m,l⟩;exact absurd aj this;simp
    have h1:=(a5.mem k (by omega) ((J 0).headD 0)).1 (by rw[<-m4];exact m7);have i0:bT 1 (eS ab cN (J 0)) (I 0) d5=aa (.aH ab (cN ((J 0).headD 0)) 0):=by
     have:=a4 0 (by omega);rcases aj:J 0 with _|⟨m,l⟩;exact absurd aj this;exact aF (x:=m::l) (U:=0) (by simp) rfl
    have gc:d5[2]?=aa (.arr 0 1 (b8 f λd=>[N d])):=c1.get (by simp[dI,ir]);simp only[i0,O,aK,hk,g5 _ h1.1,h1.2,xa gc a9,Aj gc a9 (a:=N k) rfl,(d1 k).ln];have mt:=Xv (b:=k) a2;have ds:∀l,l∈dW e k<->(l,k)∈e:=λl=>amn;have gt:∀l∈dW e k,l<f:=λl ai=>by
     let⟨_,m,p,t,u,_⟩:=(go.mem l k).1 ((ds l).1 ai);have:=a5.pg m (gQ m p t).1;omega
    have it:∀l,b4 e done l=b4 e (done++[k]) l+(if(l,k)∈e then 1 else 0):=λl=>MF g3 a2;have hn:(hy f9 br).Perm ((Rd.erase k).map λf=>fk[f]?.getD []):=by
     have t:(J 0::hy f9 br).Perm (Rd.map λf=>fk[f]?.getD []):=h3.symm.trans M;have u:=(List.perm_cons_erase ex).map (λf=>fk[f]?.getD []);rw[eg,d9]at u;exact(t.trans u).cons_inv
    have t1:Z (dW e k)<=10000:=by
     have:Z (dW e k)<=Z e:=by unfold dW;rw[kc];exact pA _ _
     omega
    have mk:∀l,b4 e done l<=10000:=λl=>by
     have:b4 e done l<=Z e:=pA _ _;omega
    refine bG (K:=Nat×List Obj×AV×(Nat->List Nat)×Nat×aL×List Nat) (λj=>[I j.1]) (λj=>j.2.1) (λj=>Z (dW e k) -j.1) (λj=>j.1<=Z (dW e k)/\gq j.2.2.1 j.2.2.2.1 j.2.2.2.2.1 j.2.2.2.2.2.1/\Holds j.2.1 (dI P j.2.2.1 j.2.2.2.2.2.1 (aE++ir f (λd=>if d∈(dW e k).take j.1 then b4 e (done++[k]) d else b4 e done d) N e L))/\Hp (λn=>fV (j.2.2.2.1 n)) j.2.2.2.2.1/\
     (hy j.2.2.2.1 j.2.2.2.2.1).Perm (j.2.2.2.2.2.2.map λf=>fk[f]?.getD [])/\j.2.2.2.2.2.2.Nodup/\∀d,d∈j.2.2.2.2.2.2<->(d∈Rd/\d≠k)\/(d∈(dW e k).take j.1/\b4 e (done++[k]) d=0)) (0,d5,v1,f9,br,bv,Rd.erase k) ⟨by simp,hO,by simpa using c1,ii,hn,Y.MH.erase _,λd=>by rw[Y.MH.mem_erase_iff];simp;exact and_comm⟩ ?_
    clear c1 gc i0 hO ii h3 hn H hl;rintro⟨n,B,K,co,V,W,bD⟩ ⟨az,S,H,R,ba,dl,ax⟩ ty f1;simp only at az S H R ba dl ax f1⊢;simp only[G,A,O,a];have hm:∀d∈bD,d<f:=λd x=>by
     rcases(ax d).1 x with⟨t,-⟩|⟨t,-⟩;exact eo d t;exact gt d (sI t)
    have t8:V<=f:=by
     have o:=ba.length_eq;have t:=HU dl hm;simp[hy]at o;omega
    have m5:∀n,n<V->co n≠[]:=λn az=>by
     let⟨d,x,v⟩:=cy.1 (ba.mem_iff.1 (w7.2 ⟨n,az,rfl⟩));rw[<-v];exact c2 d (hm d x)
    refine b (λt=>?_) (λt=>?_)
    ·have t:n<Z (dW e k):=by simpa using t
     have iC:(dW e k)[n]∈dW e k:=bp t;have f0:=iu t;have g8:(dW e k)[n]∉(dW e k).take n:=λbe=>by
      let⟨d,x,v⟩:=sL be;rw[E6]at v;have t3:d<n:=by rw[hW]at x;omega
      have:=(List.getElem_inj (h₀:=by omega) (h₁:=t) mt).1 v;omega
     have ok:Gr B (N k) cN 1 (dW e k):=by
      let⟨ha,he,lw⟩:=Ek L a9;have m6:flat L f=ha++(L k++he):=by rw[<-lw,HS]
      have v:dI P K W (aE++ir f (λd=>if d∈(dW e k).take n then b4 e (done++[k]) d else b4 e done d) N e L)=
       ((P,.arr 0 1 [[K]])::(W++(aE++([(1,.arr 0 1 (b8 f λd=>[I ((if d∈(dW e k).take n then b4 e (done++[k]) d else b4 e done d:Nat):Int)])),(2,.arr 0 1 (b8 f λd=>[N d])),(3,qc e)]++ha))))++(L k++he):=by
       simp[dI,ir,m6]
      have u:=H;rw[v]at u;exact(d1 k).gr u.swap
     let⟨pu,li,qr,rc,rd⟩:=ok.at t;have am:=gt _ iC;have pi:=(ds _).1 iC;have aZ:B[1]?=aa (.arr 0 1 (b8 f λd=>[I ((if d∈(dW e k).take n then b4 e (done++[k]) d else b4 e done d:Nat):Int)])):=H.get (by simp[dI,ir]);have g7:=it (dW e k)[n];rw[if_pos pi]at g7;have t6:=mk (dW e k)[n];have ms:(dW e k)[n]∉bD:=λbe=>by
      rcases(ax _).1 be with⟨u,-⟩|⟨u,-⟩;have:=((Y.Ai _).1 u).2.2;omega;exact g8 u
     have bi:∀d,d∈(dW e k).take (n+1)<->d∈(dW e k).take n\/d=(dW e k)[n]:=λd=>by rw[f0,dm,l5]
     generalize t9:(dW e k)[n]=l at*;have rt:aQ 1 ab (.ptr pu li n 0) B=aa (I (l:Int)):=by rw[cY rc rd]<;>rfl
     have os:aT .s .sub (I ((b4 e (done++[k]) l+1:Nat):Int)) (I 1)=aa (I (b4 e (done++[k]) l:Int)):=by
      rw[nB (by omega) (by omega)];simp
     rw[bw];simp only[qr,O,rt,xa aZ am,Aj aZ am (a:=I ((b4 e (done++[k]) l+1:Nat):Int)) (by rw[if_neg g8,g7]),os];apply aI (HQ aZ am (w:=I ((b4 e (done++[k]) l+1:Nat):Int)) (by rw[if_neg g8,g7]) rfl rfl)
     have f8:b8 f (bN (λd=>[I ((if d∈(dW e k).take n then b4 e (done++[k]) d else b4 e done d:Nat):Int)]) l [I (b4 e (done++[k]) l:Int)])=b8 f λd=>[I ((if d∈(dW e k).take (n+1)then b4 e (done++[k]) d else b4 e done d:Nat):Int)]:=by
      refine B2 λd _=>?_;unfold bN;by_cases g4:d=l;subst g4;rw[if_pos rfl,if_pos ((bi _).2 (.inr rfl))];rw[if_neg g4];by_cases fd:d∈(dW e k).take n;simp only[if_pos fd,if_pos ((bi d).2 (.inl fd))];have:¬d∈(dW e k).take (n+1):=λh=>((bi d).1 h).elim fd g4;simp only[if_neg fd,if_neg this]
     rw[f8];have ge:Holds (B.set 1 (.arr 0 1 (b8 f λd=>[I ((if d∈(dW e k).take (n+1)then b4 e (done++[k]) d else b4 e done d:Nat):Int)]))) (dI P K W (aE++ir f (λd=>if d∈(dW e k).take (n+1)then b4 e (done++[k]) d else b4 e done d) N e L)):=by
      have u:Holds B (((P,.arr 0 1 [[K]])::(W++aE))++(1,.arr 0 1 (b8 f λd=>[I ((if d∈(dW e k).take n then b4 e (done++[k]) d else b4 e done d:Nat):Int)]))::((2,.arr 0 1 (b8 f λd=>[N d]))::(3,qc e)::flat L f)):=by simpa[dI,ir]using H
      have w:=Holds.su u (.arr 0 1 (b8 f λd=>[I ((if d∈(dW e k).take (n+1)then b4 e (done++[k]) d else b4 e done d:Nat):Int)]));simpa[dI,ir]using w
     generalize B.set 1 (.arr 0 1 (b8 f λd=>[I ((if d∈(dW e k).take (n+1)then b4 e (done++[k]) d else b4 e done d:Nat):Int)]))=f5 at*;have hj:f5[1]?=aa (.arr 0 1 (b8 f λd=>[I ((if d∈(dW e k).take (n+1)then b4 e (done++[k]) d else b4 e done d:Nat):Int)])):=ge.get (by simp[dI,ir])
     simp only[xa hj am,O,Aj hj am (a:=I (b4 e (done++[k]) l:Int)) (by rw[if_pos ((bi l).2 (.inr rfl))]),tw,a6 (show n<4611686018427387904 by omega)];refine b (λu=>?_) (λu=>?_);have u:b4 e (done++[k]) l=0:=by
      rw[beq_iff_eq]at u;omega
     have pm:l<Z fk:=by omega
     have ps:bT 1 (eS ab cG fk) (I (l:Int)) f5=aa (.aH ab (cG fk[l]) 0):=aF pm (D2 _);simp only[ps,O,aK,zU];refine c7 (Xt fk[l] S (by omega) R m5 (by rw[<-a3 l am];exact c2 l am) ge) rfl λr i5 ah=>?_;let⟨rfl,sz,le,i8,ca,ci,cc,ce⟩:=ah;refine f1 (n+1,i5,sz,le,V+1,i8,l::bD) ⟨t,ca,ci,cc,?_,?_,λd=>?_⟩ (by simp only;omega);refine ce.trans ?_;rw[eg,a3 l am];exact List.Perm.cons _ ba
     rw[kZ];exact⟨ms,dl⟩;rw[b5,ax,bi];constructor;rintro(rfl|w|⟨w,X⟩);exact .inr ⟨.inr rfl,u⟩;exact .inl w;exact .inr ⟨.inl w,X⟩;rintro(w|⟨w|w,X⟩);exact .inr (.inl w);exact .inr (.inr ⟨w,X⟩);exact .inl w;have u:b4 e (done++[k]) l≠0:=by
      rw[beq_eq_false_iff_ne]at u;omega
     refine f1 (n+1,f5,K,co,V,W,bD) ⟨t,S,ge,R,ba,dl,λd=>?_⟩ (by simp only;omega);rw[ax,bi];constructor;rintro(w|⟨w,X⟩);exact .inl w;exact .inr ⟨.inl w,X⟩;rintro(w|⟨w|rfl,X⟩);exact .inl w;exact .inr ⟨w,X⟩;exact absurd X u
    have:n=Z (dW e k):=by simp at t;omega
    subst this;clear f1;rw[dU]at H ax;have n7:(λd=>if d∈dW e k then b4 e (done++[k]) d else b4 e done d)=b4 e (done++[k]):=by
     funext d
     split;rfl;rename_i x;rw[it d,if_neg (λh=>x ((ds d).2 h))]<;>rfl
    rw[n7]at H;refine ac (B,K,co,V,W,_,aE,done++[k],bD) ⟨S,H,R,ba,n6,?_,?_,?_⟩ ?_;refine Y.step go ex (λd x=>?_) dl λd=>?_;let⟨i1,fn,v⟩:=w7.1 (M.mem_iff.2 (cy.2 ⟨d,x,rfl⟩));have:=m8 i1 fn;rw[v,<-d9,Xx,Xx]at this;omega;rw[ax d,ds];constructor;rintro(u|⟨u,w⟩);exact .inl u;exact .inr ⟨by rw[d0];exact gt d ((ds d).2 u),u,w⟩;rintro(u|⟨-,u,w⟩);exact .inl u;exact .inr ⟨u,w⟩;rw[tJ]
    refine⟨es,by simp,λl ai E au=>?_⟩;simp only[l5]at au;subst au;rintro rfl;exact g3 ai;intro d x;rcases dm.1 x with x|x;exact eq d x;simp only[l5]at x;subst x;exact a9;have m9:Z (done++[k])<=f:=HU (by
     rw[tJ];refine⟨es,by simp,λl ai E au=>?_⟩;simp only[l5]at au;subst au;rintro rfl;exact g3 ai) (λd x=>by
     rcases dm.1 x with x|x;exact eq d x;simp only[l5]at x;subst x;exact a9)
    simp only[gy,jW]at m9⊢;omega
   ·have op:V=0:=by simp at o;omega
    subst op;have mp:Rd=[]:=by
     have o:=M.length_eq;simp[hy]at o;exact tH o.symm
    subst mp;rw[m2 _ (Y.last go),G,aA.pl];have fx:Holds B (hg++(((P,.arr 0 1 [[K]])::W)++ir f (b4 e done) N e L)):=Holds.swap (k:=(P,.arr 0 1 [[K]])::W) H;exact(aA.gr fx).res (by simp)
theorem Xy(c:yx C)(a:D)(b:mn a)(f:Z a.ak<=12):PR C 26 [.agg (cP T F a)] (eS ab cG (fa (Z a.Q) (c4 a))):=by
 let⟨g,of,h,d,e⟩:=c T F a b f;exact amt a b h d e
end AM
namespace Law
variable{K:Type}{U N z:Nat}{ct rh:Nat -> Bool}{bq:List Nat}
section
def bW(b:Nat->K)(c:Nat)(d:K):Nat->K:=λa=>if a=c then d else b a
@[simp] theorem yz(c:Nat->K)(a:Nat)(b:K):bW c a b a=b:=by simp[bW]
theorem qd(a:Nat->K)(b:K)(h:N≠U):bW a U b N=a N:=by simp[bW,h]
inductive hU(G:Nat->List Nat):Nat->Nat->Prop
 |refl (x:Nat):hU G x x
 |step (x y z:Nat) (h:y∈G x) (t:hU G y z):hU G x z
namespace hU
variable{G:Nat->List Nat}
theorem hv(h:N∈G U):hU G U N:=.step U N N h (.refl N)
theorem trans(h:hU G U N)(a:hU G N z):hU G U z:=by
 induction h with
 |refl=>exact a
 |step b c e h _ d=>exact .step b c z h (d a)
theorem closed{a:Nat->Prop}(f:∀U N,a U->N∈G U->a N)(h:hU G U N)(b:a U):a N:=by
 induction h with
 |refl=>exact b
 |step c d e h _ g=>grind
end hU
structure TS where
 count:Nat
 aR:Nat->Nat
 ca:Nat->Nat
 eT:Nat->Bool
 bD:List Nat
 of:Nat->Nat
 out:List (List Nat)
def TS.enter(a:TS)(b:Nat):TS:=
 {a with count:=a.count+1,aR:=bW a.aR b (a.count+1),ca:=bW a.ca b (a.count+1),eT:=bW a.eT b ad,bD:=a.bD++[b]}
def TS.pop(f:List Nat->List Nat)(a:TS)(e:Nat):TS:=
 let d:=a.bD.idxOf e
 let c:=a.bD.drop d
 {a with bD:=a.bD.take d,eT:=λb=>if b∈c then ab else a.eT b,of:=λb=>if b∈c then Z a.out else a.of b,out:=a.out++[f c]}
mutual
def iY(e:List Nat->List Nat)(c:Nat->List Nat):Nat->Nat->TS->TS
 |0,_,a=>a
 |f+1,b,a=>
  let a:=sw e c f b (c b) (a.enter b)
  if a.ca b=a.aR b then a.pop e b else a
def sw (e:List Nat->List Nat) (c:Nat->List Nat):Nat->Nat->List Nat->TS->TS
 |_,_,[],a=>a
 |f,b,d::bs,a=>
  sw e c f b bs
   (if a.aR d=0 then
    let a:=iY e c f d a
    {a with ca:=bW a.ca b (min (a.ca b) (a.ca d))}
   else if a.eT d=ad then{a with ca:=bW a.ca b (min (a.ca b) (a.aR d))}else a)
end
def TS.ht(a:TS)(b:Nat):Prop:=a.aR b≠0/\a.eT b=ab
structure Inv(G:Nat->List Nat)(n:Nat)(s:TS)(gr:List Nat):Prop where
 lt:∀x,s.aR x≠0->x<n
 kT:∀x,s.aR x<=s.count
 inj:∀x y,s.aR x≠0->s.aR x=s.aR y->x=y
 eT:∀x,s.eT x=ad<->x∈s.bD
 kU:∀x∈s.bD,s.aR x≠0
 gh:s.bD.Pairwise λx y=>s.aR x<s.aR y
 vH:∀x∈gr,x∈s.bD
 yA:∀x y,s.ht x->y∈G x->s.ht y
 black:∀x,s.aR x≠0->x∉gr->∀y∈G x,s.aR y≠0
 down:∀x∈s.bD,∀y∈s.bD,s.aR x<=s.aR y->hU G x y
 up:∀x∈s.bD,∃g∈gr,s.aR g<=s.aR x/\hU G x g
 pg:∀x,s.ht x->∃l,s.out[s.of x]?=aa l/\x∈l
 xb:∀i l,s.out[i]?=aa l->∀x∈l,s.ht x/\s.of x=i
 scc:∀x y,s.ht x->s.ht y->(s.of x=s.of y<->hU G x y/\hU G y x)
structure j5(s s':TS):Prop where
 aR:∀x,s.aR x≠0->s'.aR x=s.aR x
 ca:∀x,s.aR x≠0->s'.ca x=s.ca x
 new:∀x,s.aR x=0->s'.aR x≠0->s.count<s'.aR x
 count:s.count<=s'.count
 bD:∃qe,s'.bD=s.bD++qe/\∀x∈qe,s.count<s'.aR x
 ht:∀x,s.ht x->s'.ht x
def TS.nO(b:TS)(a:Nat):Nat:=Z ((ay a).filter λc=>b.aR c=0)
theorem MN(h:∀x,ct x=ad->rh x=ad):∀a:List Nat,Z (a.filter ct)<=Z (a.filter rh)
 |[]=>c5 _
 |x::a=>by
  have b:=MN h a;grind
theorem filter_lt(h:∀x,ct x=ad->rh x=ad):∀{a:List Nat}{b:Nat},b∈a->rh b=ad->ct b=ab->Z (a.filter ct)<Z (a.filter rh)
 |x::a,b,c,e,d=>by
  simp only[EY];rcases b5.1 c with rfl|c;have:=MN h a;grind;have f:=filter_lt h c e d;grind
variable{fY lx:TS}
theorem Xz(h:∀a,fY.aR a≠0->lx.aR a≠0):lx.nO U<=fY.nO U:=
 MN (by grind) _
theorem j5.kU(a:j5 fY lx)(h:fY.aR U≠0):lx.aR U≠0:=by rw[a.aR U h];exact h
variable{gh:List Nat->List Nat}{G:Nat->List Nat}{n:Nat}
structure HV(G:Nat->List Nat)(n:Nat)(s s':TS)(gr:List Nat)(a:Nat):Prop where
 inv:Inv G n s' gr
 ext:j5 s s'
 kU:s'.aR a≠0
 tz:s'.ca a<=s'.aR a
 res:(s'.ht a/\s'.bD=s.bD/\s'.ca a=s'.aR a)\/(s'.ca a<s'.aR a/\(∃z∈s.bD,s'.aR z=s'.ca a/\hU G a z)/\a∈s'.bD/\∀x∈s'.bD,s.count<s'.aR x->∀y∈G x,y∈s'.bD->s'.ca a<=s'.aR y)
structure qf(G:Nat->List Nat)(n:Nat)(s0 s:TS)(gr:List Nat)(a:Nat)(pre:List Nat):Prop where
 a0:s0.aR a=0
 inv:Inv G n s (gr++[a])
 idx:∀x,s0.aR x≠0->s.aR x=s0.aR x
 ca:∀x,s0.aR x≠0->s.ca x=s0.ca x
 new:∀x,s0.aR x=0->s.aR x≠0->s0.count<s.aR x
 kT:s0.count+1<=s.count
 ia:s.aR a=s0.count+1
 ht:∀x,s0.ht x->s.ht x
 bD:∃qe,s.bD=s0.bD++a::qe/\∀x∈qe,s0.count+1<s.aR x
 tz:s.ca a<=s.aR a
 Ak:∃z∈s.bD,s.aR z=s.ca a/\hU G a z
 qe:∀x∈s.bD,s.aR a<s.aR x->∀y∈G x,y∈s.bD->s.ca a<=s.aR y
 pre:∀b∈pre,s.aR b≠0/\(b∈s.bD->s.ca a<=s.aR b)
theorem XA(c:Inv G n fY bq)(u:fY.aR U=0)(D:U<n)(x:∀g∈bq,hU G g U):qf G n fY (fY.enter U) bq U []:=by
 have E:U∉fY.bD:=λh=>c.kU U h u;have w:∀a,fY.aR a≠0->a≠U:=by grind
 have v:∀a,fY.aR a≠0->(fY.enter U).aR a=fY.aR a:=λa b=>qd _ _ (w a b);have l:(fY.enter U).aR U=fY.count+1:=yz _ _ _;have m:(fY.enter U).bD=fY.bD++[U]:=rfl;have i:∀a∈fY.bD,(fY.enter U).aR a=fY.aR a:=λa b=>v a (c.kU a b);have o:∀a,(fY.enter U).ht a<->fY.ht a:=by
  intro a;by_cases f:a=U;subst f;constructor;rintro⟨_,h⟩;have:(fY.enter a).eT a=true:=yz _ _ _;grind;rintro⟨h,_⟩;omega;show bW fY.aR U _ a≠0/\bW fY.eT U ad a=ab<->_;rw[qd _ _ f,qd _ _ f];exact Iff.rfl
 have F:∀a∈fY.bD,hU G a U:=by
  intro a b;let⟨g,s,_,A⟩:=c.up a b;exact A.trans (x g s)
 refine{a0:=u,inv:=?_,idx:=v,ca:=λa b=>qd _ _ (w a b),new:=?_,kT:=c5 _,ia:=l,ht:=by grind,bD:=⟨[],rfl,by simp⟩,tz:=?_,Ak:=?_,qe:=?_,pre:=by simp};refine{lt:=?_,kT:=?_,inj:=?_,eT:=?_,kU:=?_,gh:=?_,vH:=?_,yA:=?_,black:=?_,down:=?_,up:=?_,pg:=?_,xb:=?_,scc:=?_};intro a b;by_cases f:a=U;omega;exact c.lt a (by have:(fY.enter U).aR a=fY.aR a:=qd _ _ f;omega);intro a;by_cases f:a=U
 subst f;rw[l];exact c5 _;have:(fY.enter U).aR a=fY.aR a:=qd _ _ f;rw[this];exact Nat.le_succ_of_le (c.kT a);intro a d b j;by_cases f:a=U;by_cases p:d=U;rw[f,p];have k:(fY.enter U).aR d=fY.aR d:=qd _ _ p;rw[f,l,k]at j;have:=c.kT d;omega;have q:(fY.enter U).aR a=fY.aR a:=qd _ _ f;by_cases p:d=U;rw[p,l,q]at j;have:=c.kT a;omega;have k:(fY.enter U).aR d=fY.aR d:=qd _ _ p;rw[q,k]at j;rw[q]at b
 exact c.inj a d b j;intro a;rw[m];by_cases f:a=U;subst f;have:(fY.enter a).eT a=true:=yz _ _ _;simp[this];have:(fY.enter U).eT a=fY.eT a:=qd _ _ f;rw[this,c.eT a];simp[f];intro a b;rw[m]at b;rcases dm.1 b with h|h;rw[i a h];exact c.kU a h;grind;rw[m,arO];refine⟨c.gh.imp_of_mem (by grind),by simp,?_⟩;intro a b d e;simp at e;subst e;rw[i a b,l];have:=c.kT a;omega;intro a b;rw[m]
 rcases dm.1 b with h|h;exact dm.2 (.inl (c.vH a h));grind;intro a d b e;exact(o d).2 (c.yA a d ((o a).1 b) e);intro a b t d e;simp only[dm,l5,not_or]at t;have q:(fY.enter U).aR a=fY.aR a:=qd _ _ t.2;rw[q]at b;have:=c.black a b t.1 d e;grind;intro a b d e j;rw[m]at b e;replace b:=dm.1 b;replace e:=dm.1 e;rcases b with b|b<;>rcases e with e|e
 rw[i a b,i d e]at j;exact c.down a b d e j;grind;simp at b;subst b;rw[l,i d e]at j;have:=c.kT d;omega;simp at b e;subst b;subst e;exact .refl _;intro a b;rw[m]at b;rcases dm.1 b with b|b;let⟨g,s,k,r⟩:=c.up a b;refine⟨g,by grind,?_,r⟩;rw[i a b,i g (c.vH g s)];exact k;simp at b;subst b;exact⟨a,by simp,c5 _,.refl _⟩;intro a b;exact c.pg a ((o a).1 b);intro B C y a b;let⟨k,r⟩:=c.xb B C y a b
 exact⟨(o a).2 k,r⟩;intro a d b e;exact c.scc a d ((o a).1 b) ((o d).1 e);intro a b H;by_cases f:a=U;grind;have:(fY.enter U).aR a=fY.aR a:=qd _ _ f;omega;have:(fY.enter U).ca U=fY.count+1:=yz _ _ _;omega;refine⟨U,by grind,?_,.refl _⟩;have:(fY.enter U).ca U=fY.count+1:=yz _ _ _;omega;intro a b z;rw[m]at b;rcases dm.1 b with b|b;rw[i a b,l]at z;have:=c.kT a;omega;grind
theorem Inv.XB(a:Inv G n fY bq)(b:Nat->Nat):Inv G n {fY with ca:=b} bq:=
 {lt:=a.lt,kT:=a.kT,inj:=a.inj,eT:=a.eT,kU:=a.kU,gh:=a.gh,vH:=a.vH,yA:=a.yA,black:=a.black,down:=a.down,up:=a.up,pg:=a.pg,xb:=a.xb,scc:=a.scc}
theorem qf.ne{pre:List Nat}(b:qf G n fY lx bq U pre)(c:fY.aR N≠0):N≠U:=λa=>c (a▸b.a0)
theorem XC{pre:List Nat}(a:qf G n fY lx bq U pre)(i:N∈G U)(s:lx.aR N≠0)(m:lx.eT N=ad):
 qf G n fY {lx with ca:=bW lx.ca U (min (lx.ca U) (lx.aR N))} bq U (pre++[N]):=by
 have j:N∈lx.bD:=(a.inv.eT N).1 m;have e:bW lx.ca U (min (lx.ca U) (lx.aR N)) U=min (lx.ca U) (lx.aR N):=yz _ _ _;refine{a0:=a.a0,inv:=a.inv.XB _,idx:=a.idx,ca:=λd c=>?_,new:=a.new,kT:=a.kT,ia:=a.ia,ht:=a.ht,bD:=a.bD,tz:=?_,Ak:=?_,qe:=?_,pre:=?_};show bW lx.ca U _ d=_;rw[qd _ _ (a.ne c)];exact a.ca d c;show bW lx.ca U _ U<=_;rw[e];exact iP (aa2 _ _) a.tz;let⟨t,f,g,r⟩:=a.Ak
 by_cases h:lx.aR N<lx.ca U;refine⟨N,j,?_,.hv i⟩;grind;grind;intro d c l q o p;show bW lx.ca U _ U<=_;rw[e];exact iP (aa2 _ _) (a.qe d c l q o p);intro b k;show lx.aR b≠0/\(b∈lx.bD->bW lx.ca U _ U<=lx.aR b);rw[e];rcases dm.1 k with h|h;let⟨f,g⟩:=a.pre b h;grind;grind
theorem XD{pre:List Nat}(a:qf G n fY lx bq U pre)(e:lx.aR N≠0)(d:¬lx.eT N=ad):qf G n fY lx bq U (pre++[N]):=
 {a with
  pre:=λb c=>by
   rcases dm.1 c with h|h;exact a.pre b h;simp at h;subst h;exact⟨e,λh=>absurd ((a.inv.eT b).2 h) d⟩}
theorem XE{a:TS}{pre:List Nat}(c:qf G n fY lx bq U pre)(u:N∈G U)(t:lx.aR N=0)(e:HV G n lx a (bq++[U]) N):
 qf G n fY {a with ca:=bW a.ca U (min (a.ca U) (a.ca N))} bq U (pre++[N]):=by
 have k:lx.aR U≠0:=by rw[c.ia];omega
 have o:bW a.ca U (min (a.ca U) (a.ca N)) U=min (lx.ca U) (a.ca N):=by rw[yz,e.ext.ca U k]
 have g:∀b,lx.aR b≠0->a.aR b=lx.aR b:=e.ext.aR;have I:lx.count<a.aR N:=e.ext.new N t e.kU;let⟨F,z,r⟩:=e.ext.bD;have A:∀b∈lx.bD,b∈a.bD:=by grind
 have v:∀b∈a.bD,b∈lx.bD\/lx.count<a.aR b:=by
  intro b d;rw[z]at d;rcases dm.1 d with h|h;exact .inl h;exact .inr (r b h)
 have J:lx.ca U<=lx.count:=by
  have:=c.tz;have:=c.inv.kT U;omega
 refine{a0:=c.a0,inv:=e.inv.XB _,idx:=?_,ca:=?_,new:=?_,kT:=iP c.kT e.ext.count,ia:=?_,ht:=λb h=>e.ext.ht b (c.ht b h),bD:=?_,tz:=?_,Ak:=?_,qe:=?_,pre:=?_};intro b d;have i:=c.idx b d;grind;intro b d;have i:=c.idx b d;show bW a.ca U _ b=_;rw[qd _ _ (c.ne d),e.ext.ca b (by omega)];exact c.ca b d;intro b d D;show fY.count<a.aR b;by_cases h:lx.aR b=0;have:=e.ext.new b h D;have:=c.kT;omega
 rw[g b h];exact c.new b d h;show a.aR U=_;rw[g U k,c.ia];let⟨qe,i,q⟩:=c.bD;refine⟨qe++F,?_,?_⟩;grind;intro b d;show fY.count+1<a.aR b;rcases dm.1 d with h|h;grind;have:=r b h;have:=c.kT;omega;show bW a.ca U _ U<=a.aR U;rw[o,g U k];exact iP (aa2 _ _) c.tz;let⟨f,i,q,H⟩:=c.Ak;have L:a.aR f=lx.aR f:=g f (c.inv.kU f i)
 have left:lx.ca U<=a.ca N->∃f∈a.bD,a.aR f=bW a.ca U (min (a.ca U) (a.ca N)) U/\hU G U f:=by grind
 rcases e.res with⟨_,_,h⟩|⟨_,⟨w,B,K,C⟩,_,_⟩;grind;by_cases h:lx.ca U<=a.ca N;exact left h;exact⟨w,A w B,by grind,(hU.hv u).trans C⟩;intro b d l m E p;show bW a.ca U _ U<=a.aR m;replace l:a.aR U<a.aR b:=l;replace d:b∈a.bD:=d;replace p:m∈a.bD:=p;rw[o];by_cases s:b∈lx.bD;rcases v m p with h|h;have y:lx.aR U<lx.aR b:=by rw[g U k,g b (c.inv.kU b s)]at l;exact l
 have:=c.qe b s y m E h;grind;omega;rcases e.res with⟨_,h,_⟩|⟨_,_,_,h⟩;grind;grind;intro j x;show a.aR j≠0/\(j∈a.bD->bW a.ca U _ U<=a.aR j);rw[o];rcases dm.1 x with h|h;let⟨i,q⟩:=c.pre j h;grind;grind
theorem amu(a:qf G n fY lx bq U (G U))(y:lx.ca U≠lx.aR U):HV G n fY lx bq U:=by
 have z:lx.ca U<lx.aR U:=Nat.lt_of_le_of_ne a.tz y;let⟨C,o,B⟩:=a.bD;have d:=a.inv;have u:U∈lx.bD:=by rw[o];simp
 have x:lx.aR U≠0:=by rw[a.ia];omega
 refine{inv:=?_,ext:=?_,kU:=x,tz:=a.tz,res:=.inr ⟨z,?_,u,?_⟩};exact{d with
  vH:=λb c=>d.vH b (by grind)
  black:=λb c H i f=>by
   by_cases j:b=U;subst j;exact(a.pre i f).1;exact d.black b c (by grind) i f
  up:=λb c=>by
   let⟨g,e,D,s⟩:=d.up b c;rcases dm.1 e with e|e;grind;simp at e;subst e;let⟨k,l,r,p⟩:=a.Ak;let⟨m,v,E,t⟩:=d.up k l;have A:m≠g:=by grind
   have w:m∈bq:=by simpa[A]using v
   exact⟨m,w,by omega,s.trans (p.trans t)⟩}
 refine⟨a.idx,a.ca,a.new,by have:=a.kT;omega,⟨U::C,o,?_⟩,a.ht⟩;intro b c;rcases b5.1 c with rfl|c;rw[a.ia];omega;grind;let⟨k,l,r,p⟩:=a.Ak;refine⟨k,?_,r,p⟩;rw[o]at l;rcases dm.1 l with h|h;exact h;rcases b5.1 h with rfl|h;omega;have:=B k h;have:=a.ia;omega;intro b c F i f q;by_cases j:b=U;subst j;exact(a.pre i f).2 q;refine a.qe b c ?_ i f q;have:lx.aR b≠lx.aR U:=λh=>j (d.inj b U (by omega) h)
 have:=a.ia;omega
theorem amv:∀{a r:List Nat},U∉a->(a++U::r).idxOf U=Z a
 |[],r,_=>by simp
 |x::a,r,h=>by
  grind
theorem XF(aA:∀k a,a∈gh k<->a∈k)(q:Inv G n fY bq)(f:qf G n fY lx bq U (G U))(x:lx.ca U=lx.aR U):HV G n fY (lx.pop gh U) bq U:=by
 let⟨d,r,az⟩:=f.bD;have e:=f.inv;have M:U∉fY.bD:=λh=>q.kU U h f.a0;have B:lx.bD.idxOf U=Z fY.bD:=by rw[r];exact amv M
 have O:lx.bD.drop (lx.bD.idxOf U)=U::d:=by rw[B,r,List.drop_left']<;>rfl
 have S:lx.bD.take (lx.bD.idxOf U)=fY.bD:=by rw[B,r,List.take_left']<;>rfl
 have P:lx.aR U≠0:=by rw[f.ia];omega
 have Q:∀a∈fY.bD,lx.aR a=fY.aR a:=λa b=>f.idx a (q.kU a b);have ax:∀a∈fY.bD,lx.aR a<=fY.count:=λa b=>by rw[Q a b];exact q.kT a
 have v:∀a∈U::d,fY.count<lx.aR a:=by
  intro a b;rcases b5.1 b with rfl|b;rw[f.ia];omega;grind
 have p:∀a∈U::d,a∈lx.bD:=by grind
 have au:∀a∈fY.bD,a∉U::d:=by grind
 have N:∀a∈bq,a∈fY.bD:=q.vH;have aE:∀a∈lx.bD,a∈fY.bD\/a∈U::d:=by grind
 have af:∀a∈U::d,∀c∈G a,c∈U::d\/lx.ht c:=by
  intro a b c i;have ah:=v a b;have W:lx.aR c≠0:=by
   by_cases j:a=U;subst j;exact(f.pre c i).1;refine e.black a (by omega) ?_ c i;grind
  rcases C:lx.eT c with _|_;exact .inr ⟨W,C⟩;have D:=(e.eT c).1 C;have aj:lx.ca U<=lx.aR c:=by
   by_cases j:a=U;subst j;exact(f.pre c i).2 D;refine f.qe a (p a b) ?_ c i D;have:lx.aR a≠lx.aR U:=λh=>j (e.inj a U (by omega) h);have:=f.ia;omega
  grind
 have J:∀a c,(a∈U::d\/lx.ht a)->c∈G a->(c∈U::d\/lx.ht c):=by
  intro a c b i;rcases b with b|b;grind;exact .inr (e.yA a c b i)
 have z:∀a∈U::d,hU G a U:=by
  intro a b;let⟨g,o,_,y⟩:=e.up a (p a b);rcases dm.1 o with o|o;have ai:=N g o;rcases hU.closed (a:=λa=>a∈U::d\/lx.ht a) J y (.inl b)with h|h;grind;have:=(e.eT g).2 (by grind);rw[h.2]at this;cases this;grind
 have A:∀a∈U::d,hU G U a:=by
  intro a b;apply e.down U (p U (by simp)) a (p a b);have:=v a b;have:=f.ia;omega
 have F:(lx.pop gh U).aR=lx.aR:=rfl;have l:(lx.pop gh U).bD=fY.bD:=S;have H:∀a,(lx.pop gh U).eT a=if a∈U::d then ab else lx.eT a:=by grind[TS.pop]
 have t:∀a,(lx.pop gh U).of a=if a∈U::d then Z lx.out else lx.of a:=by grind[TS.pop]
 have I:(lx.pop gh U).out=lx.out++[gh (U::d)]:=by simp only[TS.pop,O]
 have s:∀a,(lx.pop gh U).ht a<->(lx.ht a\/a∈U::d):=by
  intro a;unfold TS.ht;rw[F,H];by_cases h:a∈U::d;simp only[h,if_true,or_true,and_true,iff_true];have:=v a h;omega;simp[h]
 have R:∀a,lx.ht a->a∉U::d:=λa b h=>by
  have:=(e.eT a).2 (p a h);rw[b.2]at this;cases this
 refine{inv:=?_,ext:=?_,kU:=P,tz:=f.tz,res:=.inl ⟨(by grind),l,x⟩};refine{lt:=e.lt,kT:=e.kT,inj:=e.inj,eT:=?_,kU:=?_,gh:=?_,vH:=?_,yA:=?_,black:=?_,down:=?_,up:=?_,pg:=?_,xb:=?_,scc:=?_};intro a;rw[H,l];by_cases h:a∈U::d;grind;simp only[h,if_false];rw[e.eT a,r,dm];grind;intro a b;rw[l]at b;exact e.kU a (by grind);rw[l,F];have:=e.gh;grind;grind;grind;intro a b aZ c i;by_cases j:a=U
 subst j;exact(f.pre c i).1;exact e.black a b (by grind) c i;intro a b c i;rw[l]at b i;exact e.down a (by grind) c (by grind);intro a b;rw[l]at b;let⟨g,o,K,L⟩:=q.up a b;grind;intro a b;rw[s]at b;rw[t,I];by_cases h:a∈U::d;grind;let⟨k,x,a2⟩:=e.pg a (b.resolve_right h);grind;intro E k w a b;rw[I]at w;rw[s,t];by_cases h:E<Z lx.out;rw[oA h]at w;let⟨K,L⟩:=e.xb E k w a b;grind;grind;intro a c b i
 rw[s]at b i;rw[t,t];have ak:∀u,lx.ht u->lx.of u<Z lx.out:=λu X=>by
  let⟨k,x,_⟩:=e.pg u X;grind
 have am:∀a c,a∈U::d->lx.ht c->¬hU G c a:=λa c b i y=>R a (hU.closed (λY ac T V=>e.yA Y ac T V) y i) b;by_cases h:a∈U::d<;>by_cases m:c∈U::d
 simp only[h,m,if_true,true_iff];exact⟨(z a h).trans (A c m),(z c m).trans (A a h)⟩;grind;grind;simp only[h,m,if_false];exact e.scc a c (b.resolve_right h) (i.resolve_right m);refine⟨f.idx,f.ca,f.new,by have:=f.kT;exact Nat.le_of_succ_le this,by grind,λa b=>(s a).2 (.inl (f.ht a b))⟩
theorem HW(d:U<n)(c:fY.aR U=0):(fY.enter U).nO n<fY.nO n:=by
 refine filter_lt (b:=U) ?_ (iw.2 d) (by simp[c]) ?_;intro a e;simp only[decide_eq_true_eq]at e⊢;by_cases b:a=U;grind;have:(fY.enter U).aR a=fY.aR a:=qd _ _ b;omega;have:(fY.enter U).aR U=fY.count+1:=yz _ _ _;simp[this]
mutual
theorem HX(p:∀s d,d∈gh s<->d∈s)(k:∀d,d<n->∀x∈G d,x<n):∀(f a:Nat)(b:TS)(c:List Nat),Inv G n b c->b.aR a=0->a<n->(∀g∈c,hU G g a)->b.nO n<=f->HV G n b (iY gh G f a b) c a
 |0,a,b,c,y,t,e,i,m=>by
  have:=HW (fY:=b) e t;omega
 |f+1,a,b,c,y,t,e,i,m=>by
  have C:=HW (fY:=b) e t;have l:=HY p k f a e c i b (G a) [] (b.enter a) (XA y t e i) (by simp) (by omega);grind[iY,XF,amu]
theorem HY (p:∀s d,d∈gh s<->d∈s) (k:∀d,d<n->∀x∈G d,x<n):∀(f a:Nat)(_:a<n)(c:List Nat)(_:∀g∈c,hU G g a)(o:TS)(bs pre:List Nat)(b:TS),qf G n o b c a pre->G a=pre++bs->b.nO n<=f->qf G n o (sw gh G f a bs b) c a (G a)
 |f,a,e,c,i,o,[],pre,b,l,u,m=>by
  simp only[sw];rw[u,sO];exact l
 |f,a,e,c,i,o,j::bs,pre,b,l,u,m=>by
  have r:j∈G a:=by rw[u];simp
  have w:G a=(pre++[j])++bs:=by rw[u];simp
  simp only[sw];split;rename_i q;have z:=HX p k f j b (c++[a]) l.inv q (k a e j r) (by
   intro g A;rcases dm.1 A with h|h;exact(i g h).trans (.hv r);simp at h;subst h;exact .hv r) m
  apply HY p k f a e c i o bs (pre++[j]) _ (XE l r q z) w;exact iP (Xz (fY:=b) (λd B=>z.ext.kU B)) m;rename_i q;split;rename_i v;exact HY p k f a e c i o bs (pre++[j]) _ (XC l r q v) w m;rename_i v;exact HY p k f a e c i o bs (pre++[j]) _ (XD l q v) w m
end
def TS.init:TS:={count:=0,aR:=λ_=>0,ca:=λ_=>0,eT:=λ_=>ab,bD:=[],of:=λ_=>0,out:=[]}
theorem XG:Inv G n TS.init []:=by
 refine{lt:=?_,kT:=?_,inj:=?_,eT:=?_,kU:=?_,gh:=?_,vH:=?_,yA:=?_,black:=?_,down:=?_,up:=?_,pg:=?_,xb:=?_,scc:=?_}<;>simp[TS.init,TS.ht]
def kA(gh:List Nat->List Nat)(G:Nat->List Nat)(c:Nat):List Nat->TS->TS
 |[],b=>b
 |a::d,b=>kA gh G c d (if b.aR a=0 then iY gh G c a b else b)
theorem XH(k:∀e c,c∈gh e<->c∈e)(i:∀c,c<n->∀p∈G c,p<n)(d:Nat)(j:n<=d):∀(e:List Nat)(b:TS),(∀a∈e,a<n)->Inv G n b []->
 Inv G n (kA gh G d e b) []/\(∀a∈e,(kA gh G d e b).aR a≠0)/\∀c,b.aR c≠0->(kA gh G d e b).aR c≠0
 |[],b,_,f=>⟨f,by simp,λ_ h=>h⟩
 |a::e,b,l,f=>by
  simp only[kA];have m:b.nO n<=d:=iP (iP (pA _ _) (by simp)) j;have step:Inv G n (if b.aR a=0 then iY gh G d a b else b) []/\(if b.aR a=0 then iY gh G d a b else b).aR a≠0/\∀c,b.aR c≠0->(if b.aR a=0 then iY gh G d a b else b).aR c≠0:=by
   split;rename_i h;have g:=HX k i d a b [] f h (l a (by simp)) (by simp) m;exact⟨g.inv,g.kU,λc o=>g.ext.kU o⟩;grind
  let⟨q,r,s⟩:=XH k i d j e _ (by grind) step.1;grind
theorem amw(r:∀b a,a∈gh b<->a∈b)(l:∀a,a<n->∀d∈G a,d<n)(h:Nat)(m:n<=h)(e:TS)(q:e=kA gh G h (ay n) TS.init):
 e.bD=[]/\(∀a,a<n->∃b,e.out[e.of a]?=aa b/\a∈b)/\(∀i b,e.out[i]?=aa b->∀a∈b,a<n/\e.of a=i)/\∀a d,a<n->d<n->(e.of a=e.of d<->hU G a d/\hU G d a):=by
 subst q;let⟨f,u,_⟩:=XH (G:=G) (n:=n) r l h m (ay n) TS.init (by grind) XG;have s:(kA gh G h (ay n) TS.init).bD=[]:=by
  apply aaJ.2;intro a c;let⟨g,o,_⟩:=f.up a c;simp at o
 have j:∀a,a<n->(kA gh G h (ay n) TS.init).ht a:=by
  intro a c;refine⟨(by grind),?_⟩;rcases p:(kA gh G h (ay n) TS.init).eT a with _|_;rfl;have:=(f.eT a).1 p;grind
 exact⟨s,λa c=>f.pg a (j a c),λi b k a c=>⟨f.lt a (f.xb i b k a c).1.1,(f.xb i b k a c).2⟩,λa d c t=>f.scc a d (j a c) (j d t)⟩
end
end Law
namespace AM
open Go.Law
def gO(c:Nat)(a:Nat->Nat):List (List AV):=(ay c).map λb=>cN (a b)
variable{U N:Nat}
theorem XI(a:Nat->Nat)(h:N<U):(gO U a)[N]?=aa (cN (a N)):=by simp[gO,h]
theorem amx(a:Nat->Nat)(c b d:Nat):(gO c a).set b (cN d)=gO c (Go.Law.bW a b d):=by
 refine yR λe=>?_;grind[Go.Law.bW,gO]
variable{M:List Obj}{ki:Nat -> Nat}
theorem B3{id g:Nat}(h:M[id]?=aa (.arr g 1 (gO U ki)))(a:N<U):aQ 1 ab (.ptr id g N 0) M=aa (I (ki N:Int)):=by
 rw[cY h (XI ki a)]<;>rfl
theorem El{id g:Nat}(a:Nat)(h:M[id]?=aa (.arr g 1 (gO U ki)))(b:N<U):dp 1 (.ptr id g N 0) (I (a:Int)) M=aa (M.set id (.arr g 1 (gO U (Go.Law.bW ki N a)))):=by
 rw[Ee h (XI ki b) (by simp[cN]) rfl rfl];have:(cN (ki N)).set 0 (I (a:Int))=cN a:=rfl;rw[this,amx]
theorem amy(a b:Int):PR C 241 [I a,I b] (.bool (y (a<b))):=by
 apply aes.pr;simp only[bw];apply c (KI a);simp only[jC,eZ,if_false,A,O,G];simp
structure B4(f:Nat->Nat)(i j:Nat):Prop where
 le:j<=i
 dF:∀a b,a<b->b<=i->a≠j->b≠j->f a<=f b
 up:∀b,j<b->b<=i->f j<=f b
theorem B4.step(h:B4 ki U (N+1))(o:ki (N+1)<ki N):B4 (swp ki N (N+1)) U N:=by
 have n:swp ki N (N+1) N=ki (N+1):=by simp[swp]
 have j:swp ki N (N+1) (N+1)=ki N:=by simp[swp]
 have f:∀e,e≠N->e≠N+1->swp ki N (N+1) e=ki e:=by grind[swp]
 refine⟨by have:=h.le;omega,λc a l g k i=>?_,λa g m=>?_⟩;by_cases d:c=N+1;subst d;rw[j,f a i (by omega)];exact h.dF N a (by omega) g (by omega) (by omega);rw[f c k d];by_cases b:a=N+1;subst b;rw[j];exact h.dF c N (by omega) (by omega) d (by omega);rw[f a i b];exact h.dF c a l g d b;rw[n];by_cases b:a=N+1;grind;rw[f a (by omega) b];exact h.up a (by omega) m
theorem B4.done(h:B4 ki U N)(d:N=0\/ki (N -1)<=ki N):∀b a,b<a->a<=U->ki b<=ki a:=by
 intro b a f g;by_cases c:b=N;subst c;exact h.up a f g;by_cases e:a=N;subst e;have d:=d.resolve_left (by omega);by_cases i:b=a -1;grind;exact iP (h.dF b (a -1) (by omega) (by omega) c (by omega)) d;exact h.dF b a f g c e
def mr(a:Nat->Nat)(b:Nat):List Nat:=(ay b).map a
variable{z:Nat}
theorem amz(c:N<U)(d:z<U):(mr (swp ki N z) U).Perm (mr ki U):=by
 have h:=(MB c d).map ki;rw[vP]at h;have b:ki∘swp (λa=>a) N z=swp ki N z:=by
  funext a
  simp only[swp,EZ];split;rfl;split<;>rfl
 rw[b]at h;exact h
variable{k:aL}
theorem amA{id g:Nat}(az:U<=1000000)(W:Holds M ((id,.arr g 1 (gO U ki))::k)):
 HR C 235 [.q id g 0 U,I 0,I (U:Int)] M (λr Q=>r=.aB []/\∃m,(mr m U).Perm (mr ki U)/\(∀i h,i<h->h<U->m i<=m h)/\Holds Q ((id,.arr g 1 (gO U m))::k)):=by
 apply agl.hq;rw[show aT .s .add (I 0) (I 1)=aa (I ((0+1:Nat):Int))from a6 (U:=0) (by omega),O];refine bG (K:=Nat×(Nat->Nat)×List Obj) (λe=>[I (e.1:Int)]) (λe=>e.2.2) (λe=>U -e.1) (λe=>1<=e.1/\(mr e.2.1 U).Perm (mr ki U)/\(∀i h,i<h->h<e.1->h<U->e.2.1 i<=e.2.1 h)/\Holds e.2.2 ((id,.arr g 1 (gO U e.2.1))::k)) (0+1,ki,M) ⟨by simp,.refl _,λi h l o _=>by simp at o;omega,W⟩ ?_
 rintro⟨u,V,R⟩ ⟨Y,J,L,z⟩ ai N;simp only at Y J L z N⊢;simp only[G,A,O,a];refine b (λF=>?_) (λau=>?_);have F:u<U:=by simpa using F
 apply bG (K:=Nat×(Nat->Nat)×List Obj) (λe=>[I (e.1:Int)]) (λe=>e.2.2) (λe=>e.1) (λe=>(mr e.2.1 U).Perm (mr ki U)/\B4 e.2.1 u e.1/\Holds e.2.2 ((id,.arr g 1 (gO U e.2.1))::k)) (u,V,R) ⟨J,⟨c5 _,λi h l o ak am=>L i h l (by omega) (by omega),λh l o=>by omega⟩,z⟩;rintro⟨d,f,x⟩ ⟨K,t,p⟩ aj P;simp only at K t p P⊢;have j:=p.get (U:=id) (hL:=.arr g 1 (gO U f)) (by simp);have ax:=t.le
 refine eb (M:=x) (y (0<d)&&y (f d<f (d -1))) (λw E=>?_) ?_;simp only[G,eX,O];refine aW (λn=>?_) (λn=>kB E ?_);have n:0<d:=by simpa using n
 rw[fu j (show d<U by omega),O,B3 j (by omega),O,nB (by omega) (by omega),O];rw[show(d:Int) -1=((d -1:Nat):Int)by omega,fu j (by omega),O,B3 j (by omega),O];refine c (amy _ _) (kB E ?_);simp[n];grind;simp only[G];refine b (λv=>?_) (λv=>?_);simp only[bc,decide_eq_true_eq]at v;obtain⟨d,rfl⟩:∃Z,d=Z+1:=⟨d -1,by omega⟩;have S:((d+1:Nat):Int) -1=(d:Int):=by omega
 rw[nB (by omega) (by omega),O,O,S,fu j (show d<U by omega),O,B3 j (by omega),O,fu j (by omega),O,B3 j (by omega),O,O,
  El _ j (by omega),O]
 have B:=Holds.set (k:=k) p (.arr g 1 (gO U (Go.Law.bW f (d+1) (f d))));have H:=B.get (U:=id) (hL:=.arr g 1 (gO U (Go.Law.bW f (d+1) (f d)))) (by simp);rw[fu H (show d<U by omega),O,El _ H (by omega),O,O];have D:=Holds.set (k:=k) B (.arr g 1 (gO U (Go.Law.bW (Go.Law.bW f (d+1) (f d)) d (f (d+1)))));have T:Go.Law.bW (Go.Law.bW f (d+1) (f d)) d (f (d+1))=swp f d (d+1):=by
  funext w
  simp only[Go.Law.bW,swp]
 rw[T]at D⊢;refine P (d,swp f d (d+1),_) ⟨(by grind[amz,trans]),t.step (by grind),D⟩ (by simp);rw[a6,O];have X:d=0\/f (d -1)<=f d:=by
  simp only[I7,decide_eq_false_iff_not]at v;omega
 refine N (u+1,f,x) ⟨by simp,K,λi h l o _=>t.done X i h l (by omega),p⟩ (by omega);grind
theorem amB{id g:Nat}(l:U<=12)(b:AV)(h:b.pl=b)(f:Holds M ((id,.arr g 1 (gO U ki))::k)):
 HR C 182 [.q id g 0 U,I 0,I (U:Int),b] M (λr e=>r=.aB []/\∃a,(mr a U).Perm (mr ki U)/\(∀d c,d<c->c<U->a d<=a c)/\Holds e ((id,.arr g 1 (gO U a))::k)):=by
 refine afm.hq ?_ (by rw[eg,eg,eg,eg,h]<;>rfl);apply bG (K:=Unit) (λ_=>[I 0,I (U:Int),b,tt,tt]) (λ_=>M) (λ_=>0) (λ_=>True) () trivial;intro _ _ j _;simp only[G,i];rw[nB (by omega) (by omega),O,la,O];refine a8 ?_ (by simp;omega);apply c7 (amA (by omega) f) rfl;grind
theorem amC(b:U<=12):∃a:Int,PR C 137 [.int .u64 (U:Int)] (I a):=by
 have:U=0\/U=1\/U=2\/U=3\/U=4\/U=5\/U=6\/U=7\/U=8\/U=9\/U=10\/U=11\/U=12:=by omega
 rcases this with rfl|rfl|rfl|rfl|rfl|rfl|rfl|rfl|rfl|rfl|rfl|rfl|rfl;exact⟨((0:Nat):Int),qN.pr rfl (aM.int _ _ _)⟩;exact⟨((1:Nat):Int),qN.pr rfl (aM.int _ _ _)⟩;exact⟨((2:Nat):Int),qN.pr rfl (aM.int _ _ _)⟩;exact⟨((2:Nat):Int),qN.pr rfl (aM.int _ _ _)⟩;exact⟨((3:Nat):Int),qN.pr rfl (aM.int _ _ _)⟩;exact⟨((3:Nat):Int),qN.pr rfl (aM.int _ _ _)⟩;exact⟨((3:Nat):Int),qN.pr rfl (aM.int _ _ _)⟩
 exact⟨((3:Nat):Int),qN.pr rfl (aM.int _ _ _)⟩;exact⟨((4:Nat):Int),qN.pr rfl (aM.int _ _ _)⟩;exact⟨((4:Nat):Int),qN.pr rfl (aM.int _ _ _)⟩;exact⟨((4:Nat):Int),qN.pr rfl (aM.int _ _ _)⟩;exact⟨((4:Nat):Int),qN.pr rfl (aM.int _ _ _)⟩;exact⟨((4:Nat):Int),qN.pr rfl (aM.int _ _ _)⟩
theorem XJ(d:U<=12):∃a:Int,PR C 80 [.int .u64 (U:Int)] (I a):=by
 let⟨a,b⟩:=amC d;refine⟨a,Tf.pr ?_⟩;exact c b (.int _ _ _)
theorem amD{id g:Nat}(f:U<=12)(i:Holds M ((id,.arr g 1 (gO U ki))::k)):
 HR C 125 [.q id g 0 U] M (λr h=>r=.aB []/\∃a,(mr a U).Perm (mr ki U)/\(∀d b,d<b->b<U->a d<=a b)/\Holds h ((id,.arr g 1 (gO U a))::k)):=by
 apply af9.hq;let⟨m,j⟩:=XJ f;have l:IntKind.u64.wrap (U:Int)=U:=by
  have:U=0\/U=1\/U=2\/U=3\/U=4\/U=5\/U=6\/U=7\/U=8\/U=9\/U=10\/U=11\/U=12:=by omega
  rcases this with e|e|e|e|e|e|e|e|e|e|e|e|e<;>subst e<;>rfl
 simp only[o0,O,Dl,l];apply c j;apply c7 (amB f (I m) rfl i) rfl;grind
variable{T F:Bool}
theorem XK(a d:S)(f:dX a.af):PR C 156 [.agg (cF T a),.agg (cF F d)] (I (cm a d)):=by
 apply Tk.pr;simp only[pR,O,bj,aK,qI,u1,e];apply c (zw _ _);simp only[cx,O];refine b (λh=>jR ?_) (λh=>c (KL _ _ f) (jR ?_));grind[cm,fA];grind[cm,fA]
variable{bC:Bool}
theorem e8.XL(B:e8 C)(k:D)(d:S)(x:eI k)(P:kN k)(M:Sm d.af):PR C 157 [.agg (cP T F k),.agg (cF bC d)] (.bool (qU k d)):=by
 apply R7.pr;simp only[eP,pR,O,bj,aK,rP,kt,qI,u1,u2,e,a1,A,h0,bw,G];refine dV (λh=>a8 (bJ ?_)) (λh=>?_);grind[decide,qU];have H:y (0<=d.ai)=true:=by simp at h⊢;omega
 rw[qU,H,cZ];let⟨o,K⟩:∃o:Nat,d.ai=o:=⟨d.ai.toNat,by grind⟩;simp only[K,eN];refine dV (λh=>a8 (bJ ?_)) (λh=>?_);grind;have r:o<Z k.Q:=by simp at h;omega
 rw[bu r];have q:=bp r;have W:=x.s7 _ q;have V:=P _ q;simp only[aF r (jg _ _),O,bj,aK,wi,e,a1,cx,wg,xP,rS,rT,rU,s9,rV,rW,rX];generalize k.Q[o]=f at*;refine b (λh=>bJ ?_) (λh=>?_);grind[vq];have U:Z d.af=Z f.aZ:=by simp at h;omega
 have J:vq k f d=((ay (Z d.af)).all (uj f.aZ d.af)&&vo k f d):=by
  rw[vq];have:((Z d.af:Int)==Z f.aZ)=true:=by simpa using h
  rw[this]<;>rfl
 rw[J];refine eC (U:=Z d.af) (c:=λj=>ff::I j::bO T f) (λj=>(ay j).all (uj f.aZ d.af)=ad) (by simp) rfl (λj p w z N=>?_) (λw z=>?_);have v:j<Z f.aZ:=by omega
 have R:uj f.aZ d.af j=(nE d.af[j]&&d.af[j].ty==f.aZ[j]):=by
  rw[uj,bu p,bu v]
 have gv:∀l:aG,g (cV l) 0=I l.ty:=λ_=>rfl;have gc:∀l:aG,(AV.agg [I l.ty,g (cV l) 1,g (cV l) 2])=.agg (cV l):=λ_=>rfl;simp only[i,G,rS,rT,rU,s9,rV,rW,rX,A,O,a,p,decide_true,aF p (sY _),aF v (jf _),u0,xN,gv,gc,aK,lM,cx];refine a8 (dV (λm=>?_) (λm=>?_));refine a8 (bJ ?_);grind;have E:(d.af[j].ty==f.aZ[j])=true:=by simpa using m
 apply c (B.TX _);simp only[bK,O];refine dw (λu=>bJ ?_) (λu=>?_);grind;rw[M.inc p,O];exact N (by grind);rw[w,cZ,vo];simp only[i,G,rS,rT,rU,s9,rV,rW,rX,A,O,a,cn,decide_false];refine bz (b (λm=>?_) (λm=>?_));rw[if_pos (by grind)];simp only[di,O];simp;rw[if_neg (by grind)];let⟨t,q⟩:∃t:Nat,f.of=t:=⟨f.of.toNat,by grind⟩;have s:t<Z k.aw:=by omega
 have L:∀n:bP,(AV.agg [.str n.au,eS T cS n.az,eS T b2 n.eH,I n.ba])=.agg (bo T n):=λ_=>rfl;simp only[q,eN,bu s,aF s (kH _ _),O,jh,zo,DB,DC,DD,DE,L,a1,A];refine aW (λu=>aW (λE=>?_) (by grind[bJ])) (by grind[bJ]);apply c (Hb _ (x.aN _ (bp s)));simp only[cx,O];simp_all
variable{c6:Bool}
theorem e8.amE(p:e8 C)(e:D)(b:List S)(u:eI e)(r:kN e)(q:Sm b)(m:∀f∈b,dX f.af):PR C 91 [.agg (cP T F e),eS c6 (cF bC) b] (.bool (hP e b)):=by
 apply Tg.pr;have v:∀f:S,dS 3 (.agg (cF bC f))=aa (cF bC f):=λ_=>ji rfl rfl;have gc:∀f:S,(AV.agg [g (cF bC f) 0,g (cF bC f) 1,g (cF bC f) 2])=.agg (cF bC f):=λ_=>rfl;simp only[eP,O,a1,gS];refine eC (U:=Z b) (c:=λd=>[ff,I d]) (λd=>(ay d).all (mT e b)=ad) (by simp) rfl (λd k t o H=>?_) (λt o=>?_);simp only[i,G,A,O,a,k,decide_true,aF k (fR _ _),kr,eX,v,gc]
 have w:mT e b d=(qU e b[d]&&vr b d):=by rw[mT,bu k]
 have no:mT e b d=ab->aM [] .res (AV.pl ff) (.bool (hP e b)):=λl=>bJ (zJ k l);have yes:mT e b d=ad->bd (aT .s .add (I d) (I 1)) λB=>o [ff,B] []:=λl=>by
  rw[q.inc k,O];grind
 refine a8 (yr (M:=[]) (!mT e b d) [g (cF bC b[d]) 0,g (cF bC b[d]) 1,g (cF bC b[d]) 2] (λK x=>?_) ?_);rw[w]at x;rcases d with _|j;refine aW (λh=>by simp at h) (λ_=>?_);apply c (p.XL e b[0] u r (m _ (bp k)).1);simp only[bK,O];grind[vr];have n:j<Z b:=by omega
 have z:aT .s .sub (I ((j+1:Nat):Int)) (I 1)=aa (I (j:Int)):=by
  rw[nB (by omega) (by have:=q.lt k;omega)];simp
 refine aW (λ_=>?_) (λh=>by simp at h);rw[z,O];simp only[aF n (fR _ _),O,kr];apply c (XK b[j] b[j+1] (m _ (bp n)));have J:vr b (j+1)=y (cm b[j] b[j+1]<0):=by
  rw[vr,bu n,bu k]
 simp only[h0,O];refine dV (λl=>?_) (λl=>?_);grind;refine c (p.XL e b[j+1] u r (m _ (bp k)).1) ?_;simp only[bK,O];grind;simp only[G];exact dw no yes;simp only[i,G,A,O,a,cn,decide_false];exact bz (jj t)
theorem e8.MO(d:e8 C)(a:D)(b:List S)(e:eI a)(i:Sm b)(g:∀f∈b,dX f.af):PR C 43 [.agg (cP T F a),eS bC (cF c6) b] (.bool (lg a&&hP a b)):=by
 apply Rf.pr;simp only[eP,O,gS,bw];refine c (d.Xj a e) (aW (λh=>?_) (λh=>bJ (by rw[h]<;>rfl)));exact c (d.amE a b e (WI (yw.1 h)) i g) (iT (by rw[h]<;>rfl))
theorem amF(a:D)(b:S)(c:b.ai=U)(h:U<Z a.Q):PR C 68 [.agg (cF bC b),.aH ad (cP T F a) 0] (.bool (!p8 a b)):=by
 apply adU.pr;have f:p8 a b=a.Q[U].eo:=by rw[p8,c,eN,bu h]
 have d:(bO T a.Q[U])[4]?=aa (.bool a.Q[U].eo):=rfl;simp only[pR,O,bj,aK,kt,qI,e,c,aF h (jg _ _),d,bK];exact iT (by rw[f])
theorem e8.amG(v:e8 C)(d:List S)(P:Z d<1000000)(J:∀f∈d,Z f.af<=1000000)(p:Holds M k):
 HR C 69 [eS T (cF F) d] M (λr t=>∃n,bB r (cF ab) 3 d n/\Holds t (n++k)):=by
 apply aeL.hq;have z:∀f:S,dS 3 (.agg (cF F f))=aa (cF F f):=λ_=>ji rfl rfl;have l:=((p.alloc (.arr 0 3 [])).alloc (.arr 0 3 (([]:List S).map (cF ab))));rw[gy,jW]at l;have l:Holds _ ([(Z M+1,.arr 0 3 (([]:List S).map (cF ab)))]++k):=(l.perm (List.Perm.swap _ _ _)).tail;simp only[ft,e3,a1,O,gy,jW]
 apply bG (K:=Nat×List Obj×AV×aL) (λj=>[j.2.2.1,I j.1]) (λj=>j.2.1) (λj=>Z d -j.1) (λj=>j.1<=Z d/\bB j.2.2.1 (cF ab) 3 (d.take j.1) j.2.2.2/\Holds j.2.1 (j.2.2.2++k)) (0,_,.q (Z M+1) 0 0 0,_) ⟨by simp,bB.of (x:=([]:List S)),l⟩;clear l p;rintro⟨e,L,U,n⟩ ⟨K,m,o⟩ N s;simp only at K m o s⊢;simp only[G,i,A,O,a];refine b (λh=>?_) (λh=>?_);have h:e<Z d:=by simpa using h
 have w:∀f:S,g (cF F f) 0=I f.ai:=λ_=>rfl;have x:∀f:S,g (cF F f) 1=eS F cV f.af:=λ_=>rfl;have y:∀f:S,g (cF F f) 2=I f.aj:=λ_=>rfl;simp only[aF h (fR _ _),kr,O,z,w,x,y];apply c (v.akX d[e].af (J _ (bp h)));have E:nu (eS ab cV d[e].af)=aa (eS ab cV d[e].af):=rfl;have H:(AV.agg [I d[e].ai,eS ab cV d[e].af,I d[e].aj])=.agg (cF ab d[e]):=rfl;simp only[E,O,H];rw[vD (U:=3) (row:=cF ab d[e]) rfl rfl,O]
 let⟨id,g,u,B,D⟩:=m.app (bytes:=40) o d[e] (fR ab _) (by grind);apply aY B;rw[a6,O];refine s (e+1,u,_,[(id,.arr g 3 ((d.take e++[d[e]]).map (cF ab)))]) ⟨h,?_,D⟩ (by omega);rw[iu h];exact bB.of;have:e=Z d:=by simp at h;omega
 subst this;rw[dU]at m;refine⟨n,?_,o⟩;rw[m.pl];exact m
variable{kg:AV -> Prop}
theorem XM(h:U<4611686018427387904)(e:kg (I ((U/2:Nat):Int))):bd (pO (.int .u64) (I (U:Int))) λa=>bd (aT .s .shr a (.int .u64 (1))) λb=>bd (pO (.int .i64) b) kg:=by
 have c:IntKind.wrap .u64 (U:Int)=U:=by
  simp only[IntKind.wrap];have:(U:Int)%18446744073709551616=U:=Int.emod_eq_of_lt (by omega) (by omega);simp[IntKind.bits,IntKind.signed];omega
 have d:aT .s .shr (.int .u64 (U:Int)) (.int .u64 (1))=aa (.int .u64 ((U/2:Nat):Int)):=by
  have:(U:Int).fdiv 2=((U/2:Nat):Int):=by
   rw[Int.fdiv_eq_ediv_of_nonneg _ (by omega)];omega
  simp[aT,IntKind.bits];omega
 grind[IntKind.wrap,wrap64,Dl,O]
structure uC(fs:List S)(t:S)(i:Nat):Prop where
 le:i<=Z fs
 lo:∀j(hj:j<Z fs),j<i->cm fs[j] t<0
 hi:∀j(hj:j<Z fs),i<=j->0<=cm fs[j] t
def ka(b:List S)(d:S)(c:Nat):Bool:=match b[c]? with|aa a=>cm a d==0|ae=>ab
theorem XN(z:∀e k:S,dX e.af->PR C U [.agg (cF T e),.agg (cF bC k)] (I (cm e k)))(d:List S)(f:S)(K:Sm d)(x:∀E∈d,dX E.af)(N:gm d)(V:∀g v(p:g<Z d)(P:v<Z d),g<v->(0<=cm d[g] f->0<cm d[v] f)):
 ∃m,uC d f m/\PR C 35 [eS F (cF T) d,.agg (cF bC f),.fn U [] []] (.aB [I (m:Int),.bool (ka d f m)]):=by
 have key:∃B,PR C 35 [eS F (cF T) d,.agg (cF bC f),.fn U [] []] B/\∃m,uC d f m/\B=.aB [I (m:Int),.bool (ka d f m)]:=by
  apply Si.ex;simp only[pR,O,a1];refine bG (K:=Nat×Nat) (λj=>[I j.1,I j.2]) (λ_=>[]) (λj=>j.2 -j.1) (λj=>j.1<=j.2/\j.2<=Z d/\(∀g(p:g<Z d),g<j.1->cm d[g] f<0)/\∀g(p:g<Z d),j.2<=g->0<=cm d[g] f) (0,Z d) ⟨by simp,by simp,by simp,λg p h=>by simp at h;omega⟩ ?_;rintro⟨e,k⟩ ⟨H,q,r,t⟩ L u;simp only at H q r t u⊢;simp only[i,G,A,O,a];unfold Sm at K;refine b (λh=>?_) (λh=>?_);have h:e<k:=by simpa using h
  have J:aT .s .add (I (e:Int)) (I (k:Int))=aa (I ((e+k:Nat):Int)):=by
   rw[xS (by omega) (by omega)];simp
  have y:(e+k)/2<Z d:=by omega
  rw[J,O];apply XM (by omega);generalize M:(e+k)/2=n at*;simp only[aF y (fR _ _),O,kr];refine aY (dR:=U) (oK:=[.agg (cF T d[n]),.agg (cF bC f)]) rfl ?_;apply c (z d[n] f (x _ (bp y)));simp only[A,O];refine b (λo=>?_) (λo=>?_);have o:cm d[n] f<0:=by simpa using o
  rw[a6,O];refine u (n+1,k) ⟨by omega,q,λg p R=>?_,t⟩ (by omega);grind;have o:0<=cm d[n] f:=by simpa using o
  refine u (e,n) ⟨by omega,by omega,r,λg p Q=>?_⟩ (by omega);grind;have:e=k:=by simp at h;omega
  subst this;have w:uC d f e:=⟨q,r,t⟩;rw[bw];refine aW (λl=>?_) (λl=>?_);have l:e<Z d:=by simpa using l
  simp only[aF l (fR _ _),O,kr];refine aY (dR:=U) (oK:=[.agg (cF T d[e]),.agg (cF bC f)]) rfl ?_;apply c (z d[e] f (x _ (bp l)));simp only[tw,O,G,i];exact⟨.aB [I (e:Int),.bool (cm d[e] f==0)],eu,e,w,by grind[ka]⟩;have l:¬e<Z d:=by simpa using l
  simp only[G,i];exact⟨.aB [I (e:Int),ff],eu,e,w,by grind[ka]⟩
 grind
theorem amH(a:List S)(b:S)(j:Sm a)(i:∀f∈a,dX f.af)(g:gm a)(k:∀d e(n:d<Z a)(o:e<Z a),d<e->(0<=cm a[d] b->0<cm a[e] b)):
 ∃c,uC a b c/\PR C 35 [eS F (cF T) a,.agg (cF bC b),.fn 156 [] []] (.aB [I (c:Int),.bool (ka a b c)]):=XN (λl m h=>XK l m h) a b j i g k
def cW(a d e c:Bool)(b:D)(f:List S):List AV:=[eS a (bo a) b.aw,eS a (cg a) b.aO,eS a (bO a) b.Q,eS d (aS a) b.ak,eS e (cF c) f]
def XO:bP:=⟨[],[],[],0⟩
theorem yB(a:Bool)(b:List AV)(off:Nat)(c:List Obj):iH (.aH a b off) c=aa (.aH a b off):=rfl
variable{iB:Bool}
theorem MP{d:Bool}(h:D)(a:List S)(b:Int)(args:List aG)(q:Sm a)(n:∀j∈a,dX j.af)(m:gm a)(r:∀f g(s:f<Z a)(t:g<Z a),f<g->(0<=cm a[f] ⟨b,args,0⟩->0<cm a[g] ⟨b,args,0⟩)):
 ∃c,uC a ⟨b,args,0⟩ c/\PR C 120 [.aH T (cW F bC c6 iB h a) 0,I b,eS d cV args] (.aB [I (c:Int),.bool (ka a ⟨b,args,0⟩ c)]):=by
 let⟨c,p,l⟩:=amH (T:=iB) (F:=c6) (bC:=d) a ⟨b,args,0⟩ q n m r;refine⟨c,p,adX.pr ?_⟩;have o:ma [(I 0),.aq,(I 0)] [(0,1,I b),(1,1,eS d cV args)]=aa (cF d ⟨b,args,0⟩):=rfl;have k:(cW F bC c6 iB h a)[4]?=aa (eS c6 (cF iB) a):=rfl;simp only[yB,O,bj,aK,e,k,o];refine⟨.df,_,_,by decide,?_,l,(λi=>by cases i),?_⟩;exact .ck eu (.ck eu (.ck (.fn _ _ _ _ _ _ (.nil _) (.nil _)) (.nil _)));simp[fH,O,Im.snap]
def q0(b:D)(a:cO):bP:=if a.of<0 then XO else(b.aw[a.of.toNat]?).getD XO
theorem XP(a:D)(g:List S)(d:Nat)(k:d<Z a.Q)(q:kN a):
 PR C 119 [.aH T (cW F bC c6 iB a g) 0,I (d:Int)] (.aB [.agg (bo (if a.Q[d].of<0 then ab else F) (q0 a a.Q[d])),.bool (y (0<=a.Q[d].of))]):=by
 apply aeS.pr;have o:(cW F bC c6 iB a g)[2]?=aa (eS F (bO F) a.Q):=rfl;have n:(cW F bC c6 iB a g)[0]?=aa (eS F (bo F) a.aw):=rfl;have s:=q _ (bp k);have m:∀c:cO,(bO F c)[3]?=aa (I c.of):=λ_=>rfl;simp only[yB,O,bj,aK,e,fW,o,n,aF k (jg _ _),m,A];generalize a.Q[d]=c at*;refine b (λh=>?_) (λh=>?_);have h:c.of<0:=by simpa using h
 refine aI (dR:=[.str [],.aq,.aq,I 0]) rfl (aI (dR:=[.str [],.aq,.aq,I 0]) rfl ?_);have i:y (0<=c.of)=false:=by simp;omega
 rw[if_pos h,q0,if_pos h,i];exact .aB _ _ _ (.ck (.agg _ _ _ (.ck (.str _ _) (.ck (.aq _ _) (.ck (.aq _ _) (.ck (.int _ _ _) (.nil _)))))) (.ck (.bool _ _) (.nil _)));have h:¬c.of<0:=by simpa using h
 let⟨j,r⟩:∃j:Nat,c.of=j:=⟨c.of.toNat,by omega⟩;have l:j<Z a.aw:=by omega
 have i:y (0<=c.of)=true:=by simp;omega
 rw[if_neg h,q0,if_neg h,i];have p:∀f:bP,(AV.agg [.str f.au,eS F cS f.az,eS F b2 f.eH,I f.ba])=.agg (bo F f):=λ_=>rfl;simp only[r,eN,bu l,nR,aF l (kH _ _),O,jh,zo,DB,DC,DD,DE,p];simp[Im.snap]
abbrev HZ:KD:=⟨ab,1,[0]⟩
def xc(b:List Int)(c:Int->Nat):Obj:=.mp ad (b.map λa=>I a) (b.map λa=>I (c a:Int))
theorem MQ(a b:Int):HZ.eq (I a) (I b)=aa (a==b):=rfl
theorem MR(c:Int):∀(b:List Int)(a:Nat),HZ.find (I c) (b.map λd=>I d) a=aa ((b.findIdx? (c==·)).map (· +a))
 |[],a=>rfl
 |x::b,a=>by
  rw[eg,KD.find,MQ,E2];cases h:c==x with
  |true=>simp
  |false=>
   simp only[eZ,if_false];rw[MR c b (a+1)];rcases b.findIdx? (c==·)with _|j;rfl;simp;omega
variable{cq:List Int}
theorem XQ{b:Int->Nat}{id:Nat}(a:Int)(h:M[id]?=aa (xc cq b))(d:a∉cq->b a=0):iI HZ (I 0) ab (.b7 id) (I a) M=aa (I (b a:Int)):=by
 have c:mc M (.b7 id)=aa (cq.map λa=>I a,cq.map λa=>I (b a:Int)):=by simp[mc,h,xc]
 simp only[iI,c,MQ,oD,if_true,MR];rcases e:cq.findIdx? (a==·)with _|i;grind;grind[List.findIdx?_eq_some_iff_getElem]
theorem amI{d:Int->Nat}{id:Nat}(b:Int)(c:Nat)(m:cq.Nodup)(h:M[id]?=aa (xc cq d)):∃e,jO HZ (.b7 id) (I b) (I (c:Int)) M=aa (M.set id (xc e λa=>if a=b then c else d a))/\e.Nodup/\∀a,a∈e<->a∈cq\/a=b:=by
 have j:(I b).pl=I b:=rfl;have k:(I (c:Int)).pl=I (c:Int):=rfl;simp only[jO,h,xc,j,k,MQ,oD,if_true,MR];rcases f:cq.findIdx? (b==·)with _|i;rw[yT]at f;have s:b∉cq:=by grind
 refine⟨cq++[b],?_,?_,λa=>by simp⟩;simp only[Cu,hE,I8,if_true];grind[List.map_congr_left];grind;let⟨r,n,_⟩:=qm.1 f;simp only[beq_iff_eq]at n;refine⟨cq,?_,m,by grind⟩;simp only[kd,fW];have:(cq.map λa=>I (d a:Int)).set i (I (c:Int))=cq.map λa=>I ((if a=b then c else d a:Nat):Int):=by
  refine ql (by simp) λg o l=>?_;rw[arU];simp only[xq];have q:g<Z cq:=by simpa using l
  by_cases p:i=g;grind;grind[List.getElem_inj]
 rw[this]
theorem amJ(B:D)(c:List S)(U:Sm c):PR C 71 [.aH T (cW F bC c6 iB B c) 0] (.bool (iL c)):=by
 apply af2.pr;have M:(cW F bC c6 iB B c)[4]?=aa (eS c6 (cF iB) c):=rfl;simp only[e3,yB,O,bj,aK,e,M,a1,dK,eU];apply bG (K:=Nat×List Obj×List Int) (λj=>[ff,I j.1]) (λj=>j.2.1) (λj=>Z c -j.1) (λj=>j.1<=Z c/\j.2.1[0]?=aa (xc j.2.2 λf=>jm (c.take j.1) f)/\j.2.2.Nodup/\(∀f,f∉j.2.2->jm (c.take j.1) f=0)/\(ay j.1).any (wT c)=ab) (0,[.mp ad [] []],[]) ⟨by simp,rfl,xt,λf _=>by simp[jm],rfl⟩
 rintro⟨d,p,X⟩ ⟨R,o,u,q,w⟩ Y z;simp only at R o u q w z⊢;simp only[i,G,A,O,a];have V:0<Z p:=(fM.1 o).1;refine b (λh=>?_) (λh=>?_);have h:d<Z c:=by simpa using h
 have J:∀n:S,dS 3 (.agg (cF iB n))=aa (cF iB n):=λ_=>ji rfl rfl;have H:∀n:S,g (cF iB n) 0=I n.ai:=λ_=>rfl;have Q:=Vt (c.take d) c[d].ai;rw[hW]at Q;have x:=λf=>Lw h f;have ac:wT c d=y (2000<(jm (c.take (d+1)) c[d].ai:Int)):=by rw[wT,bu h]
 simp only[aF h (fR _ _),O,kr,J,H,XQ c[d].ai o (q _),a6 (show jm (c.take d) c[d].ai<4611686018427387904 by unfold Sm at U;omega)];let⟨l,K,L,r⟩:=amI c[d].ai (jm (c.take d) c[d].ai+1) u o;apply aI K;have P:(λk=>if k=c[d].ai then jm (c.take d) c[d].ai+1 else jm (c.take d) k)=λk=>jm (c.take (d+1)) k:=by
  funext k
  rw[x];by_cases m:c[d].ai=k;subst m;simp;rw[if_neg (λh=>m h.symm),if_neg m];simp
 rw[P];have t:(p.set 0 (xc l λk=>jm (c.take (d+1)) k))[0]?=aa (xc l λk=>jm (c.take (d+1)) k):=IY V;have s:∀f,f∉l->jm (c.take (d+1)) f=0:=λf v=>by
  rw[x,if_neg (λm=>v ((r f).2 (.inr m.symm))),q f (λW=>v ((r f).2 (.inl W)))]
 generalize p.set 0 (xc l λk=>jm (c.take (d+1)) k)=E at*;rw[XQ c[d].ai t (s _),O,eX,O];refine b (λN=>jj ?_) (λN=>?_);grind[iL];rw[a6 (by grind[Sm]),O];refine z (d+1,E,l) ⟨h,t,L,s,?_⟩ (by omega);grind;have:d=Z c:=by simp at h;omega
 subst this;exact bJ w
def ox(c:Bool)(a:List d)(b:List aG):Obj:=.mp c (iU a) (b.map λe=>.agg (cV e))
def vI(c:Bool)(a:List d)(b:d->Int):Obj:=.mp c (iU a) (a.map λe=>I (b e))
theorem XR(a:List d)(b:d):a.findIdx? (b==·)=a.findIdx? λc=>c==b:=by
 grind
variable{E:AV}
theorem amK(a:bb)(b:aJ)(f:Z a.bF=Z a.aA)(c:mc M E=aa (iU a.aA,a.bF.map λe=>.agg (cV e)))(d:b.aE≠[]):
 iI rZ (.agg (cV zV)) ad E (.str b.aE) M=aa (.aB [.agg (cV (cD a b).1),.bool (cD a b).2]):=by
 simp only[iI,c,tc,oD,if_true,td,XR,cD,if_neg d];grind[List.findIdx?_eq_some_iff_getElem]
variable{p:List d}{aP:List aG}{bL:d}
theorem amL{id:Nat}(a:aG)(h:M[id]?=aa (ox T p aP))(e:bL∉p):jO rZ (.b7 id) (.str bL) (.agg (cV a)) M=aa (M.set id (ox T (p++[bL]) (aP++[a]))):=by
 have c:p.findIdx? (bL==·)=none:=by
  rw[yT];intro g f;rw[beq_eq_false_iff_ne];rintro rfl;exact e f
 have b:(AV.agg (cV a)).pl=.agg (cV a):=rfl;simp only[jO,h,ox,zl,tc,oD,if_true,td,c,b];simp[iU]
variable{gz:List d}{jt:aG}
theorem amM{id:Nat}{a:List aG}(h:M[id]?=aa (ox T (p++bL::gz) (aP++jt::a)))(c:bL∉p)(f:Z aP=Z p):A4 rZ (.b7 id) (.str bL) M=aa (M.set id (ox ab (p++gz) (aP++a))):=by
 have b:(p++bL::gz).findIdx? (bL==·)=aa (Z p):=by
  rw[aaU];have:p.findIdx? (bL==·)=none:=by
   rw[yT];intro g e;rw[beq_eq_false_iff_ne];rintro rfl;exact c e
  rw[this];simp[E2]
 simp only[A4,h,ox,zl,tc,oD,if_true,td,b,kd,fW];simp_all[iU,hE,eg,List.eraseIdx_append_of_length_le,cV]
variable{dO:d -> Int}
theorem MS(a:mc M E=aa (iU p,p.map λbL=>I (dO bL)))(c:bL∈p):iI rZ (I 0) ab E (.str bL) M=aa (I (dO bL)):=by
 simp only[iI,a,tc,oD,if_true,td];rcases b:p.findIdx? (bL==·)with _|i;grind;grind[List.findIdx?_eq_some_iff_getElem]
theorem amN{id:Nat}(b:d)(c:Int)(l:p.Nodup)(h:M[id]?=aa (vI T p dO)):∃e,jO rZ (.b7 id) (.str b) (I c) M=aa (M.set id (vI T e λa=>if a=b then c else dO a))/\e.Nodup/\∀a,a∈e<->a∈p\/a=b:=by
 have j:(I c).pl=I c:=rfl;simp only[jO,h,vI,zl,j,tc,oD,if_true,td];rcases f:p.findIdx? (b==·)with _|i;rw[yT]at f;have s:b∉p:=by grind
 refine⟨p++[b],?_,?_,λa=>by simp⟩;simp only[Cu,iU,hE,I8,if_true];grind[List.map_congr_left];grind;let⟨r,m,_⟩:=qm.1 f;simp only[beq_iff_eq]at m;refine⟨p,?_,l,by grind⟩;simp only[kd,fW];have:(p.map λa=>I (dO a)).set i (I c)=p.map λa=>I (if a=b then c else dO a):=by
  refine ql (by simp) λg n k=>?_;rw[arU];simp only[xq];have q:g<Z p:=by simpa using k
  by_cases o:i=g;grind;grind[List.getElem_inj]
 rw[this]
def eY(h g:Nat)(e c:Bool)(a:bb)(b:List d)(f:d->Int):aL:=[(h,ox e a.aA a.bF),(g,vI c b f)]
structure lZ(e:bb)(K:List d)(c:d->Int):Prop where
 nd:K.Nodup
 aN:∀x∈e.aw,x∈K/\c x=jS e x
def cM(b a:Nat):List AV:=[.b7 b,.b7 a]
def mu(b:bb)(a:List d)(c:d->Int):List AV:=[.ih (iU b.aA) (b.bF.map λe=>.agg (cV e)),.ih (iU a) (a.map λf=>I (c f))]
theorem H0:∀a:List aG,bS (a.map λb=>.agg (cV b))
 |[]=>.nil
 |x::a=>.cons _ _ (by simp) (H0 a)
theorem H2(b:d->Int):∀a:List d,bS (a.map λx=>I (b x))
 |[]=>.nil
 |x::a=>.cons _ _ (by simp) (H2 b a)
theorem XS(c:bb)(a:List d)(b:d->Int)(e:List Obj):aM e .df (.agg (mu c a b)) (.agg (mu c a b)):=
 .agg _ _ _ (.ck (.y7 _ _ _ _ (vj _).snap (H0 _).snap) (.ck (.y7 _ _ _ _ (vj _).snap (H2 _ _).snap) (.nil _)))
variable{H:bb}
theorem Em(h:Holds M (eY U N T F H p dO++k)):aM M .cb (.agg (cM U N)) (.agg (mu H p dO)):=
 .agg _ _ _ (.ck (.xD U T _ _ _ _ (h.get (by simp[eY,ox])) (vj _).snap (H0 _).snap) (.ck (.xD N F _ _ _ _ (h.get (by simp[eY,vI])) (vj _).snap (H2 _ _).snap) (.nil _)))
theorem H3(a:bb)(i:List d)(j:d->Int)(f:aJ)(m:Z a.bF=Z a.aA):PR C 220 [.agg (mu a i j),.agg (cT f)] (.aB [.agg (cV (cD a f).1),.bool (cD a f).2]):=by
 apply RS.pr;have o:j0 2 (.agg (mu a i j))=aa (.aH ab (mu a i j) 0):=rfl;have l:(mu a i j)[0]?=aa (.ih (iU a.aA) (a.bF.map λc=>.agg (cV c))):=rfl;have p:∀c:aG,(AV.agg [g (cV c) 0,g (cV c) 1,g (cV c) 2])=.agg (cV c):=λ_=>rfl;have q:∀(c:aG)(k:Bool),aM [] .res (.aB [(AV.agg (cV c)).pl,(AV.bool k).pl]) (.aB [.agg (cV c),.bool k]):=by simp[Im.snap]
 simp only[o,zp,O,bj,aK,rO,e,gT,J8,xN,l];refine b (λh=>?_) (λh=>?_);grind[cD];have h:f.aE≠[]:=by simpa using h
 have n:(AV.agg [I 0,I 0,.str []])=.agg (cV zV):=rfl;rw[n,amK a f m rfl h];grind[O,fH,List.getElem?_cons_zero,List.getElem?_cons_succ,xN]
theorem XT(b:bb)(h:List d)(j:d->Int)(c:List aJ)(v:Z b.bF=Z b.aA)(u:Sm c):PR C 166 [.agg (mu b h j),eS T cT c] (eS ab cV (j4 b c)):=by
 refine afj.pr ?_;have w:j0 2 (.agg (mu b h j))=aa (.aH ab (mu b h j) 0):=rfl;have x:∀n,aQ 2 ad (.aH ab (mu b h j) 0) n=aa (.agg (mu b h j)):=λ_=>rfl;have p:∀e:aJ,(AV.agg [g (cT e) 0,g (cT e) 1,g (cT e) 2,g (cT e) 3])=.agg (cT e):=λ_=>rfl;have gv:∀k:aG,(AV.agg [g (cV k) 0,g (cV k) 1,g (cV k) 2])=.agg (cV k):=λ_=>rfl;simp only[w,O,e3,ft,dK,eU,hD,jW,a1]
 have s:∀(c:List aJ)(f:List aG),c.foldl (λf e=>f++[(cD b e).1]) f=f++j4 b c:=by
  intro c;induction c with
  |nil=>grind[j4]
  |cons D c B=>grind[j4]
 refine wI c (λf e=>f++[(cD b e).1]) [] 1 3 cV (M:=[.arr 0 3 [],.arr 0 3 []]) 0 rfl (by simp[aX]) (λm l f q o r t=>?_) (λq o=>?_);have z:Z f<=m:=by
  rw[r,s];simp[j4];omega
 simp only[i,G,A,O,a,l,decide_true,aF l (kq _),lL,xO,x,p];refine a8 ⟨.df,_,_,by decide,.ck (XS b h j _) (.ck eu (.nil _)),H3 b h j c[m] v,(λb=>by cases b),?_⟩;simp only[fH,de,eF,O,xN,gv];refine aI (GL (cD b c[m]).1) ?_;refine KU (by simp) (by grind[Sm]) ?_;rw[u.inc l,O];exact t _;simp only[i,G,A,O,a,cn,decide_false];refine bz ?_;simp_all[dK,DF]
theorem amO(op:Int)(a w:aG)(f:Sm a.s):PR C 221 [I op,.agg (cV a),.agg (cV w)] (.bool (vn op a w)):=by
 apply afU.pr;simp only[Bb,O,u0];apply c (TD _ _ f);simp only[di,cx,A,la,O];refine b (λh=>iT ?_) (λh=>b (λd=>iT ?_) (λd=>b (λe=>iT ?_) (λe=>iT ?_)));grind[vn];grind[vn];grind[vn];grind[vn]
variable{b3:S}
theorem MT{a b:S}(c:a.ai=b.ai)(d:a.af=b.af):cm b3 a=cm b3 b:=by grind[cm]
variable{X:List S}
theorem H4(i:gm X)(d:S):∀a b(f:a<Z X)(g:b<Z X),a<b->(0<=cm X[a] d->0<cm X[b] d):=by
 intro a b f g h j;have e:=i a b f g h;rw[<-wS];by_cases c:cm X[a] d=0;rw[oi]at c;rw[wS,MT c.1.symm c.2.symm,<-wS];exact e;exact zK _ _ _ ((wS _ _).2 (by omega)) e
theorem XU{a:S}(h:cm b3 a<0):b3.ai<=a.ai:=by
 grind[cm]
theorem MU(d:uC X b3 U)(h:ka X b3 U=ad):∃b:U<Z X,X.find? (e6 b3.ai b3.af)=aa X[U]/\X.findIdx? (e6 b3.ai b3.af)=aa U:=by
 have b:U<Z X:=by
  refine xu λi=>?_;rw[ka,List.getElem?_eq_none (by omega)]at h;cases h
 rw[ka,bu b]at h;have h:cm X[U] b3=0:=by simpa using h
 have f:=(Hg _ _ _ b3.aj).2 h;have g:∀a(c:a<U),e6 b3.ai b3.af X[a]=false:=λa c=>DS (b9:=b3.aj) (by have:=d.lo a (by omega) c;grind[cm]);refine⟨b,?_,?_⟩;grind[List.find?_eq_some_iff_getElem];grind[List.findIdx?_eq_some_iff_getElem]
theorem XV(e:gm X)(b:uC X b3 U)(h:ka X b3 U=ab):∀d∈X,cm d b3≠0:=by
 intro d f;obtain⟨a,c,rfl⟩:=kf.1 f;rcases IQ a U with dC|rfl|dC;have:=b.lo a c dC;omega;grind[ka];have:=H4 e b3 U a (by omega) c dC (b.hi U (by omega) (c5 _));omega
theorem MV(e:gm X)(d:uC X b3 U)(h:ka X b3 U=ab):X.find? (e6 b3.ai b3.af)=ae/\X.findIdx? (e6 b3.ai b3.af)=none:=by
 have c:=XV e d h;refine⟨?_,?_⟩;rw[E5];intro b a;rw[DS (c b a)];simp;rw[yT];intro b a;exact DS (c b a)
theorem XW(a:S)(b:Int):PR C 216 [.agg (cF T a),I b] (I (fA a.ai b)):=by
 apply Tn.pr;simp only[pR,O,bj,aK,qI,e];exact c (zw _ _) (jR rfl)
structure H5(fs:List S)(q:Int)(i:Nat):Prop where
 le:i<=Z fs
 lo:∀j(hj:j<Z fs),j<i->fs[j].ai<q
 hi:∀j(hj:j<Z fs),i<=j->q<=fs[j].ai
variable{f b9:Int}
theorem XX:fA f b9<0<->f<b9:=by grind[fA]
theorem amP(d:List S)(g:Int)(H:Sm d)(B:gm d):
 ∃n,H5 d g n/\∃r,PR C 215 [eS F (cF T) d,I g,.fn 216 [] []] (.aB [I (n:Int),.bool r]):=by
 have key:∃z,PR C 215 [eS F (cF T) d,I g,.fn 216 [] []] z/\∃n,H5 d g n/\∃r,z=.aB [I (n:Int),.bool r]:=by
  apply RR.ex;simp only[O,a1];apply bG (K:=Nat×Nat) (λj=>[I j.1,I j.2]) (λ_=>[]) (λj=>j.2 -j.1) (λj=>j.1<=j.2/\j.2<=Z d/\(∀e(l:e<Z d),e<j.1->d[e].ai<g)/\∀e(l:e<Z d),j.2<=e->g<=d[e].ai) (0,Z d) (by grind);rintro⟨f,k⟩ ⟨L,t,u,v⟩ K y;simp only[i,G,A,O,a];unfold Sm at H;have mono:∀e o(l:e<Z d)(x:o<Z d),e<=o->d[e].ai<=d[o].ai:=by
   intro e o l x h;rcases arV h with h|rfl;exact XU (B e o l x h);omega
  refine b (λh=>?_) (λh=>?_);have h:f<k:=by simpa using h
  have D:aT .s .add (I (f:Int)) (I (k:Int))=aa (I ((f+k:Nat):Int)):=by
   rw[xS (by omega) (by omega)];simp
  have J:(f+k)/2<Z d:=by omega
  rw[D,O];apply XM (by omega);generalize M:(f+k)/2=p at*;simp only[aF J (fR _ _),O,kr];apply aY rfl;apply c (XW d[p] g);simp only[A,O];refine b (λm=>?_) (λm=>?_);have m:d[p].ai<g:=by rw[<-XX];simpa using m
  rw[a6,O];refine y (p+1,k) ⟨by omega,t,λe l P=>?_,v⟩ (by omega);grind;have m:g<=d[p].ai:=by
   refine aaT.1 λE=>?_;rw[<-XX]at E;simp at m;omega
  refine y (f,p) ⟨by omega,by omega,u,λe l N=>?_⟩ (by omega);grind;have:f=k:=by simp at h;omega
  subst this;have w:H5 d g f:=⟨t,u,v⟩;rw[bw];refine aW (λq=>?_) (λq=>?_);have q:f<Z d:=by simpa using q
  simp only[aF q (fR _ _),O,kr];apply aY rfl;apply c (XW d[f] g);simp only[tw,O,G,i];exact⟨.aB [I (f:Int),.bool (fA d[f].ai g==0)],eu,f,w,_,rfl⟩;simp only[G,i];exact⟨.aB [I (f:Int),ff],eu,f,w,_,rfl⟩
 grind
variable{dL:bP}
theorem amQ(h:eR dL=0)(e:eA dL f=ad):vl dL f (eB dL [])=(f==eB dL []):=by
 let⟨i,b,c,g⟩:=Vz h;obtain⟨a,rfl,d⟩:∃a:Nat,f=a/\a<Z dL.az:=by
  simp only[eA,bc,decide_eq_true_eq]at e;exact⟨f.toNat,by omega,by omega⟩
 rw[b,vl,h,BM d,BM c];simp only[beq_self_eq_true,cZ,eN];grind[Hj]
theorem XY{r:Bool}(d:D)(f:List S)(i:Nat)(l:i<Z d.Q)(args:List aG)(j:Int)(J:eI d)(H:kN d)(B:Sm f)(z:∀s∈f,dX s.af)(m:gm f)
 (a:dB d i=aa dL)(M:eR dL=0)(N:eA dL j=ad):
 PR C 217 [.aH T (cW F bC c6 iB d f) 0,I (i:Int),eS r cV args,I j] (.bool (se d i j (ym d f i args))):=by
 apply afq.pr;obtain⟨K,n,y⟩:=MP d f i args B z m (H4 m _);have x:=XP (T:=T) (F:=F) (bC:=bC) (c6:=c6) (iB:=iB) d f i l H;have o:bS (cW F bC c6 iB d f):=by simp[cW]
 have t:(cW F bC c6 iB d f)[4]?=aa (eS c6 (cF iB) f):=rfl;have u:∀(F:Bool)(k:bP),(AV.agg [g (bo F k) 0,g (bo F k) 1,g (bo F k) 2,g (bo F k) 3])=.agg (bo F k):=λ_ _=>rfl;have E:se d i j=λq=>vl dL j q:=by
  funext q
  unfold dB at a;unfold se;rw[eN]at a⊢;rw[bu l]at a⊢;simp only at a⊢;split at a;cases a
  rw[a]
 have G:q0 d d.Q[i]=dL:=by
  unfold dB at a;rw[eN,bu l]at a;simp only at a;split at a;cases a
  rename_i v;rw[q0,if_neg v,a]<;>rfl
 have L:Lv d i=eB dL []:=by
  unfold dB at a;unfold Lv;rw[eN]at a⊢;rw[bu l]at a⊢;simp only at a⊢;split at a;cases a
  rw[a]
 have p:=J.aN dL (vt a);refine c x ?_ (by simp[o]);simp only[fH,de,eF,O,zo,u,G];refine c y ?_ (by simp[o]);simp only[de,eF,O,E];refine b (λh=>?_) (λh=>?_);let⟨A,w,_⟩:=MU n h;simp only[yB,O,bj,aK,e,t,aF A (fR _ _),u2];refine c (ajf dL j f[K].aj p) (iT ?_);grind[ym];let⟨w,_⟩:=MV m n h;apply c (Hb dL p);simp only[tw,O];grind[iT,ym,amQ]
def tA(b:AV)(a:aL)(W:List AV):Prop:=(∃c,b=.aH c W 0/\a=[])\/∃id,b=.ptr id 0 0 0/\a=[(id,.arr 0 5 [W])]
theorem tA.pl{W:List AV}(h:tA E k W):E.pl=E:=by
 rcases h with⟨a,rfl,-⟩|⟨id,rfl,-⟩<;>rfl
variable{bn:aL}
theorem tA.ow{W:List AV}(h:tA E k W)(b:Holds M (k++bn))(a:bS W):aM M .cb E (.aH ad W 0):=by
 rcases h with⟨c,rfl,-⟩|⟨id,rfl,rfl⟩;exact .AL _ _ _ _ a.snap;exact .oU id 0 0 0 5 [W] W W (b.get (by simp)) rfl a.snap
variable{dQ:AV}
theorem tA.rd{W:List AV}{n:Nat}(h:tA E k W)(c:Holds M (k++bn))(f:W[n]?=aa dQ)(a:kg dQ):bd (iH E M) λd=>bd (dD n d M) λe=>bd (aQ 1 ab e M) kg:=by
 rcases h with⟨i,rfl,-⟩|⟨id,rfl,rfl⟩;refine aI (yB _ _ _ _) (aI rfl (aI ?_ a));simp_all;have b:=c.get (U:=id) (hL:=.arr 0 5 [W]) (by simp);refine aI (hT b) (aI (eD b) (aI ?_ a));grind[gx]
variable{K:Type}
def pn(C:fq)(w:Nat)(r:List AV)(n m:Nat)(b:K->aL->Prop)(j:aL)(a:bb)(p q:K):Prop:=
 ∀(h:aL)(f:List d)(k:d->Int)(u s:Bool)(c:aL)(e:List Obj),lZ a f k->b p h->Holds e (eY n m u s a f k++(h++(j++c)))->
  HR C w r e (λ_ o=>∃i g l v t,lZ a g l/\b q i/\Holds o (eY n m v t a g l++(i++(j++c))))
def En(c:AV)(b:List aG)(a:aL):Prop:=(∃d,c=eS d cV b/\a=[])\/bB c cV 3 b a
theorem En.pl(h:En E aP k):E.pl=E:=by
 rcases h with⟨a,rfl,-⟩|h;rfl;exact h.pl
theorem En.at(h:En E aP k)(f:Holds M (k++bn))(a:U<Z aP)(b:kg (.agg (cV aP[U]))):bd (bT 3 E (I U) M) λg=>bd (aQ 3 ad g M) kg:=by
 rcases h with⟨i,rfl,-⟩|h;rw[aF a (sY _),O,u0,O];exact b;let⟨id,j,c,d,e⟩:=(h.gr f).at a;refine aI c (aI (mi d e rfl) b)
def iZ(a:bb)(b:List d)(w:List aG):bb:=⟨a.aA++b,a.bF++w,a.aw,a.az⟩
theorem MW(a:bb):iZ a [] []=a:=by simp[iZ]
theorem lZ.ext(a:List d)(w:List aG)(h:lZ H p dO):lZ (iZ H a w) p dO:=⟨h.nd,λc b=>h.aN c b⟩
theorem lZ.back{w:List aG}(h:lZ (iZ H gz w) p dO):lZ H p dO:=⟨h.nd,λb a=>h.aN b a⟩
variable{bQ:aJ}
theorem amR{w:List aG}:gL (iZ H p w) bQ jt=iZ H (p++[bQ.aE]) (w++[jt]):=by simp[gL,iZ]
variable{hG js mF:aL}
theorem Holds.MX(h:Holds M (k++(bn++(hG++(js++mF))))):Holds M (bn++(hG++(js++(k++mF)))):=
 h.perm (by grind[List.perm_append_comm_assoc,trans])
theorem Holds.MY(h:Holds M (bn++(hG++(js++(k++mF))))):Holds M (k++(bn++(hG++(js++mF)))):=
 h.perm (by grind[List.perm_append_comm_assoc,trans])
def amS(n m:Nat)(k j:Bool)(b:bb)(c:List aJ)(vs:List aG)(i:List d)(l:d->Int)(g:aL)(o:List AV)(h:List Obj):Prop:=
 ∃(a:List d)(w:List aG)(f:AV)(e:aL)(ok:Bool)(q r s:AV),o=[f,.bool ok,q,r,s]/\Z a=Z w/\(∀p∈a,p∉b.aA)/\Z a<=Z c/\
  (ok=ad->gM b c vs=aa (iZ b a w))/\(ok=ab->gM b c vs=ae)/\bB f cS 1 a e/\Holds h (e++(eY n m k j (iZ b a w) i l++g))
variable{rB:K -> aL -> Prop}{mC:List aJ}{dR oG:K}
theorem XZ{vs:List aG}(au:En E vs k)(f8:Z mC<=Z vs)(bm:Z H.bF=Z H.aA)(br:Sm mC)(el:dQ.pl=dQ)
 (fd:∀bv,gM H mC vs=aa bv->∃ai S,lK dQ []=aa (ai,S)/\S.map AV.pl=S/\pn C ai S U N rB (k++bn) bv dR oG)(f9:gM H mC vs=ae->oG=dR):
 pn C 218 [.agg (cM U N),eS T cT mC,E,dQ] U N rB (k++bn) H dR oG:=by
 intro u s v n F p R d0 dl a9;refine Rv.hq ?_ (by simp[au.pl,el]);have fn:j0 2 (.agg (cM U N))=aa (.aH ab (cM U N) 0):=rfl;have fx:∀R,aQ 2 ad (.aH ab (cM U N) 0) R=aa (.agg (cM U N)):=λ_=>rfl;have aR:(cM U N)[0]?=aa (.b7 U):=rfl;have cc:∀z:aJ,(AV.agg [g (cT z) 0,g (cT z) 1,g (cT z) 2,g (cT z) 3])=.agg (cT z):=λ_=>rfl;have ce:∀z:aJ,g (cT z) 0=.str z.aE:=λ_=>rfl
 have gv:∀af:aG,(AV.agg [g (cV af) 0,g (cV af) 1,g (cV af) 2])=.agg (cV af):=λ_=>rfl;have a3:=a9.alloc (.arr 0 1 (([]:List d).map cS));simp only[fn,O,ft,e3,a1];refine kR (amS U N n F H mC vs s v (u++(k++bn++p))) (λgo bi=>?_) (λg0 a2 ex=>?_)
 ·refine bG (K:=Nat×List d×List aG×AV×aL×List Obj) (λc=>[c.2.2.2.1,tt,I c.1]) (λc=>c.2.2.2.2.2) (λc=>Z mC -c.1) (λc=>c.1<=Z mC/\Z c.2.1=Z c.2.2.1/\Z c.2.1<=c.1/\(∀bD∈c.2.1,bD∉H.aA)/\bB c.2.2.2.1 cS 1 c.2.1 c.2.2.2.2.1/\Holds c.2.2.2.2.2 (c.2.2.2.2.1++(eY U N n F (iZ H c.2.1 c.2.2.1) s v++(u++(k++bn++p))))/\gM H mC vs=gM (iZ H c.2.1 c.2.2.1) (mC.drop c.1) (vs.drop c.1)) (0,[],[],.q (Z R) 0 0 0,[(Z R,.arr 0 1 (([]:List d).map cS))],R++[.arr 0 1 []]) ⟨by simp,rfl,by simp,by simp,bB.of (x:=([]:List d)),by rw[MW];exact a3,by rw[MW]<;>rfl⟩ ?_
  clear a3 a9;rintro⟨f,e,w,X,m,B⟩ ⟨d6,P,ba,W,L,j,o⟩ f5 Q;simp only at d6 P ba W L j o Q⊢;simp only[G,i,A,O,a,bw];refine b (λh=>?_) (λh=>?_)
  ·have h:f<Z mC:=by simpa using h
   have be:f<Z vs:=by omega
   have eo:Z (iZ H e w).bF=Z (iZ H e w).aA:=by simp[iZ,bm,P]
   have d4:mC.drop f=mC[f]::mC.drop (f+1):=by simp
   have d5:vs.drop f=vs[f]::vs.drop (f+1):=by simp
   rw[d4,d5,gM]at o;have am:Holds B (eY U N n F (iZ H e w) s v++(m++(u++(k++bn++p)))):=j.swap;have a5:Holds B (k++(m++(eY U N n F (iZ H e w) s v++(u++(bn++p))))):=by
    apply j.perm;rw[gY];exact((((qn u k _).append_left _).trans (qn _ k _)).append_left m).trans (qn m k _)
   simp only[aF h (kq _),lL,xO,fx,O,cc];refine e4 _ (H3 (iZ H e w) s v mC[f] eo) ?_ ?_ ?_;exact .ck (Em am) (.ck eu (.nil _));exact .aB _ (.cons _ _ (.agg _ (.cons _ _ (.int _ _) (.cons _ _ (.int _ _) (.cons _ _ (.str _) .nil)))) (.cons _ _ (.bool _) .nil));simp only[fH,de,eF,O,xN,bK,gv,ce];refine b (λy=>?_) (λy=>?_)
   ·have y:(cD (iZ H e w) mC[f]).2=false:=by simpa using y
    rw[y,if_neg (by simp),amR]at o;have Y:=y;rw[nL]at Y;simp only[known,iZ,I0,beq_eq_false_iff_ne,ne_eq,decide_eq_false_iff_not,dm,not_or]at Y;simp only[bj,aK,fW,aR,O];apply au.at a5 be;have ac:=am.get (U:=U) (hL:=ox n (H.aA++e) (H.bF++w)) (by simp[eY,iZ]);apply aI (amL vs[f] ac (by simp[Y.2.1,Y.2.2]))
    have d3:Holds (B.set U (ox n (H.aA++e++[mC[f].aE]) (H.bF++w++[vs[f]]))) (eY U N n F (iZ H (e++[mC[f].aE]) (w++[vs[f]])) s v++(m++(u++(k++bn++p)))):=by
     have:=Holds.set (U:=U) am (ox n (H.aA++e++[mC[f].aE]) (H.bF++w++[vs[f]]));simpa[eY,iZ]using this
    generalize B.set U (ox n (H.aA++e++[mC[f].aE]) (H.bF++w++[vs[f]]))=f2 at*;refine aI (dR:=.sl ab [cS mC[f].aE]) rfl ?_;let⟨id,aj,ca,ah,ak⟩:=L.app (bytes:=16) d3.swap mC[f].aE rfl (by grind[Sm]);apply aY ah;rw[br.inc h,O];refine Q (f+1,e++[mC[f].aE],w++[vs[f]],_,[(id,.arr aj 1 ((e++[mC[f].aE]).map cS))],ca) ⟨h,by simp[P],by grind,λbD ge=>?_,bB.of,ak,o⟩ (by omega);grind
   have y:(cD (iZ H e w) mC[f]).2=true:=by simpa using y
   rw[y,if_pos rfl]at o;apply au.at a5 be;simp only[QH,O];refine b (λM=>?_) (λM=>?_);have M:(cD (iZ H e w) mC[f]).1≠vs[f]:=by simpa using M
   rw[if_neg M]at o;exact bi _ _ ⟨e,w,X,m,ab,_,_,_,rfl,P,W,by omega,(λh=>by cases h),λ_=>o,L,j⟩;have M:(cD (iZ H e w) mC[f]).1=vs[f]:=by simpa using M
   rw[if_pos M]at o;rw[br.inc h,O];exact Q (f+1,e,w,X,m,B) (by grind) (by omega)
  have:f=Z mC:=by simp at h;omega
  subst this;rw[qk,gM]at o;exact bi _ _ ⟨e,w,X,m,ad,_,_,_,rfl,P,W,ba,λ_=>o,(λh=>by cases h),L,j⟩
 ·obtain⟨e,w,X,m,ok,g1,g2,g3,rfl,P,W,f7,eq,gc,L,j⟩:=ex
  simp only[G,i];refine kR (λ_ h=>∃D t x V J,lZ H t x/\rB oG D/\Holds h (m++(eY U N V J (iZ H e w) t x++(D++(k++bn++p))))) (λzW d9=>?_) (λgQ a0 es=>?_);refine b (λh=>?_) (λh=>?_);let⟨ai,S,ah,ci,cl⟩:=fd _ (eq h);apply aY ah;have d2:Holds a2 (eY U N n F (iZ H e w) s v++(u++((k++bn)++(m++p)))):=j.MX;apply c7 (cl u s v n F (m++p) a2 (d0.ext e w) dl d2) ci;rintro r f3 ⟨D,t,x,V,J,co,cs,c1⟩
  exact d9 _ _ ⟨D,t,x,V,J,co.back,cs,c1.MY⟩;grind
  ·let⟨D,t,x,V,J,d1,ds,a4⟩:=es
   rw[L.ln a0,O];apply bG (K:=Nat×Bool×List Obj) (λc=>[I c.1]) (λc=>c.2.2) (λc=>Z e -c.1) (λc=>c.1<=Z e/\Holds c.2.2 (m++(eY U N c.2.1 J (iZ H (e.drop c.1) (w.drop c.1)) t x++(D++(k++bn++p))))) (0,V,a0) ⟨by simp,by simpa using a4⟩;clear a4 j;rintro⟨l,az,B⟩ ⟨d7,j⟩ f4 Q;simp only at d7 j Q⊢;simp only[G,A,O,a];refine b (λh=>?_) (λh=>?_)
   ·have h:l<Z e:=by simpa using h
    have d8:l<Z w:=by omega
    let⟨id,aj,ak,aZ,c2⟩:=(L.gr j).at h;have f6:(cS e[l])[0]?=aa (.str e[l]):=rfl;have em:aQ 1 ab (.ptr id aj l 0) B=aa (.str e[l]):=by rw[cY aZ c2]<;>rfl
    simp only[ak,em,bj,aK,fW,aR,O];have ac:=j.swap.get (U:=U) (hL:=ox az (H.aA++e.drop l) (H.bF++w.drop l)) (by simp[eY,iZ]);rw[oC h,oC d8]at ac;apply aI (amM ac (W _ (bp h)) bm);rw[a6 (by grind[Sm]),O];refine Q (l+1,ab,_) ⟨h,?_⟩ (by omega);have:=Holds.set (U:=U) j.swap (ox ab (H.aA++e.drop (l+1)) (H.bF++w.drop (l+1)))
    exact Holds.swap (k:=eY U N ab J (iZ H (e.drop (l+1)) (w.drop (l+1))) t x) this
   have:l=Z e:=by simp at h;omega
   subst this;refine⟨D,t,x,az,J,d1,ds,?_⟩;have aZ:=j.sub;grind[List.drop_length,MW]
theorem X0(g:Z H.az=Z H.aw)(c:bL∉H.aw):jS ⟨H.aA,H.bF,H.aw++[bL],H.az++[f]⟩ bL=f/\∀a∈H.aw,jS ⟨H.aA,H.bF,H.aw++[bL],H.az++[f]⟩ a=jS H a:=by
 refine⟨?_,λa b=>?_⟩;unfold jS;have h:H.aw.findIdx? (λa=>a==bL)=none:=by
  rw[yT];intro a b;simp only[beq_eq_false_iff_ne,ne_eq];rintro rfl;exact c b
 have e:(H.aw++[bL]).findIdx? (λa=>a==bL)=aa (Z H.aw):=by
  rw[aaU,h];simp[E2]
 simp only[e,pz];rw[<-g,OH (c5 _)];simp;unfold jS;grind[List.findIdx?_eq_some_iff_getElem]
theorem lZ.bind(h:lZ H p dO)(j:Z H.az=Z H.aw)(i:bL∉H.aw)(g:gz.Nodup)(k:∀a,a∈gz<->a∈p\/a=bL):
 lZ ⟨H.aA,H.bF,H.aw++[bL],H.az++[f]⟩ gz (λa=>if a=bL then f else dO a):=by
 let⟨l,e⟩:=X0 (f:=f) j i;refine⟨g,λa b=>?_⟩;by_cases c:a=bL;grind;have b:a∈H.aw:=by
  rcases dm.1 b with h|h;exact h;simp at h;exact absurd h c
 rw[if_neg c,e a b];exact⟨(k a).2 (.inl (h.aN a b).1),(h.aN a b).2⟩
theorem lZ.unbind(h:lZ ⟨H.aA,H.bF,H.aw++[bL],H.az++[f]⟩ p dO)(g:Z H.az=Z H.aw)(e:bL∉H.aw):lZ H p dO:=by
 let⟨_,c⟩:=X0 (f:=f) g e;exact⟨h.nd,λb a=>by rw[<-c b a];exact h.aN b (by simp[a])⟩
def ig(b c d h g:Nat)(a:Bool)(f:Lit)(e:AV):aL:=[(d,.arr 0 1 [[e]]),(c,.arr 0 9 [bg a f]),(b,.arr 0 2 [cM h g])]
variable{dh mH:Nat}{P:Lit}{bE:List AV}
theorem amT{a:Nat}{x:Nat}
 (R:Z H.az=Z H.aw)(Q:P.bind≠[]->P.bind∉H.aw)(am:lK E []=aa (x,bE))(au:bE.map AV.pl=bE)(aZ:pn C x bE mH a rB k (kv H P b3.aj) dR oG):
 pn C 219 [.ptr N 0 0 0,.ptr dh 0 0 0,.ptr U 0 0 0,.ptr z 0 0 0] mH a rB ((dh,.arr 0 3 [cF F b3])::(ig U N z mH a T P E++k)) H dR oG:=by
 intro j p f e d g a5 L ax v;apply Su.hq;have J:∀{n:bb}{p f j e d i},Holds i (eY mH a e d n p f++(j++(((dh,.arr 0 3 [cF F b3])::(ig U N z mH a T P E++k))++g)))->i[U]?=aa (.arr 0 2 [cM mH a])/\i[N]?=aa (.arr 0 9 [bg T P])/\i[z]?=aa (.arr 0 1 [[E]])/\i[dh]?=aa (.arr 0 3 [cF F b3]):=λh=>
  ⟨h.get (by simp[ig]),h.get (by simp[ig]),h.get (by simp[ig]),h.get (by simp[ig])⟩
 have q:∀(w:List AV),[w][0]?=aa w:=λ_=>rfl;let⟨B,D,ba,G⟩:=J v;have X:(cM mH a)[0+1]?=aa (.b7 a):=rfl;have Y:(bg T P)[0+4]?=aa (.str P.bind):=rfl;have m:(cF F b3)[0+2]?=aa (I b3.aj):=rfl;simp only[eD D,eD B,eD G,cY D (q _),cY B (q _),cY G (q _),X,Y,m,O,jD]
 refine kR (λ_ h=>∃c l,lZ (kv H P b3.aj) c l/\Holds h (eY mH a e d (kv H P b3.aj) c l++(j++(((dh,.arr 0 3 [cF F b3])::(ig U N z mH a T P E++k))++g)))) (λV a0=>?_) (λbe h a3=>?_);refine b (λh=>?_) (λh=>?_);have h:P.bind≠[]:=by simpa using h
 have a2:=v.get (U:=a) (hL:=vI d p f) (by simp[eY]);let⟨c,ac,af,ah⟩:=amN P.bind b3.aj L.nd a2;refine aI ac (a0 _ _ ⟨c,(λo=>if o=P.bind then b3.aj else f o),?_,?_⟩);rw[kv,if_neg h];exact L.bind R (Q h) af ah;rw[kv,if_neg h];have:=Holds.su (k:=[(mH,ox e H.aA H.bF)]) (U:=a) (hL:=vI d p f) v (vI d c λo=>if o=P.bind then b3.aj else f o);exact this;grind[kv];let⟨c,l,aE,M⟩:=a3;let⟨_,_,ak,_⟩:=J M
 rw[cY ak (q _)];refine aI (dR:=E) rfl (aY am ?_);have aR:Holds h (eY mH a e d (kv H P b3.aj) c l++(j++(k++(((dh,.arr 0 3 [cF F b3])::ig U N z mH a T P E)++g)))):=by
  refine M.perm (l6 _ (l6 _ ?_));have n:((dh,Obj.arr 0 3 [cF F b3])::(ig U N z mH a T P E++k))++g=((dh,.arr 0 3 [cF F b3])::ig U N z mH a T P E)++(k++g):=by simp
  rw[n];exact qn _ _ _
 apply c7 (aZ j c l e d _ h aE ax aR) au;rintro r a9 ⟨W,s,m,u,t,y,ai,A⟩;refine⟨W,s,m,u,t,?_,ai,?_⟩;by_cases h:P.bind=[];grind[kv];rw[kv,if_neg h]at y;exact y.unbind R (Q h);have n:eY mH a u t (kv H P b3.aj) s m=eY mH a u t H s m:=by
  unfold eY;rw[VF,LO]
 rw[n]at A;refine A.perm (l6 _ (l6 _ ?_));grind[cF,ig,List.perm_append_comm_assoc]
theorem Al(h:Z bE=U)(a:bE.all AV.bU=ad):nw U (.agg bE) M=aa (.ptr (Z M) 0 0 0,M++[.arr 0 U [bE]]):=by
 grind[nw,ji]
theorem obO_1(h:dS 1 E=aa [E]):nw 1 E M=aa (.ptr (Z M) 0 0 0,M++[.arr 0 1 [[E]]]):=by
 grind[nw]
def l1(d:D)(c:bb)(a:Lit)(b:List S):List bb:=(b.filter (j6 d a)).filterMap (qV c a)
theorem Eo(c:D)(a:bb)(b:Lit)(d e:List S):l1 c a b (d++e)=l1 c a b d++l1 c a b e:=by
 grind[l1]
variable{V:D}
theorem MZ(h:∀a∈X,a.ai≠P.ai):l1 V H P X=[]:=by
 simp_all[l1,j6]
theorem amU(i:gm X)(d:H5 X P.ai U)(j:∀h:N<Z (X.drop U),(X.drop U)[N].ai≠P.ai):l1 V H P X=l1 V H P ((X.drop U).take N):=by
 have f:X=X.take U++((X.drop U).take N++(X.drop U).drop N):=by rw[vO,vO]
 conv=>lhs;rw[f,Eo,Eo]
 rw[MZ,MZ (X:=(X.drop U).drop N)];simp;intro e b;obtain⟨a,c,rfl⟩:=kf.1 b;simp only[q5]at c;simp only[OF];have l:N<Z (X.drop U):=by simp;omega
 have g:=j l;simp only[OF]at g;have n:=d.hi (U+N) (by omega) (by omega);have o:X[U+N].ai<=X[U+(N+a)].ai:=by
  by_cases k:a=0;subst k;grind;exact XU (i (U+N) (U+(N+a)) (by omega) (by omega) (by omega))
 omega;intro e b;obtain⟨a,c,rfl⟩:=kf.1 b;simp only[hW]at c;simp only[E6];have:=d.lo a (by omega) (by omega);omega
structure X1(p:D)(r:aD)(fs:List S)(e:bb)(l:Lit):Prop where
 sm:eI p
 of:kN p
 aN:lU p
 fl:Sm fs
 B5:∀f∈fs,dX f.af
 dF:gm fs
 lit:DV p r l
 j1:j1 e.aA l=ad
 af:Sm l.af
 len:Z e.bF=Z e.aA
 zS:Z e.az=Z e.aw
 amV:∀f∈fs,f.ai=l.ai->Z f.af=Z l.af
 bind:l.bind≠[]->l.bind∉e.aw
 amW:∀t∈l.af,Sm (cD e t).1.s
theorem amX(b:gm X)(c:b3∈X):X.find? (e6 b3.ai b3.af)=aa b3:=by
 rcases h:X.find? (e6 b3.ai b3.af)with _|g;grind[e6];have a:=I6 h;simp only[e6,bc,beq_iff_eq,decide_eq_true_eq]at a;grind[DT]
theorem Holds.Ep{a:aL}(h:Holds M (k++(bn++(hG++((js++mF)++a))))):Holds M (js++(k++(bn++(hG++(mF++a))))):=by
 apply h.perm;grind[List.append_assoc,List.perm_append_comm_assoc,trans]
theorem Holds.X2(h:Holds M (k++(bn++(hG++(js++mF))))):Holds M (bn++(hG++((k++js)++mF))):=by
 rw[gY];exact h.perm (by grind[List.perm_append_comm_assoc])
theorem Holds.X3(h:Holds M (bn++(hG++((k++js)++mF)))):Holds M (k++(bn++(hG++(js++mF)))):=by
 rw[gY]at h;exact h.perm (by grind[List.perm_append_comm_assoc])
theorem amY(h:U<Z X):l1 V H P (X.take (U+1))=l1 V H P (X.take U)++(if j6 V P X[U]=ad then(qV H P X[U]).toList else[]):=by
 grind[List.take_succ_eq_append_getElem,Eo,l1,j6,qV]
theorem pn.frame(h:pn C U bE N z rB k H dR oG)(a:aL):pn C U bE N z rB (a++k) H dR oG:=by
 intro e d i g f b c x w y;have v:Holds c (eY N z g f H d i++(e++(k++(a++b)))):=by
  refine y.perm (l6 _ (l6 _ ?_));rw[gY];exact qn _ _ _
 let⟨r,j,q,m,l,p,o,n,s,t,u⟩:=h e d i g f (a++b) c x w v;refine⟨r,j,q,m,l,p,o,n,s,t,u.perm (l6 _ (l6 _ ?_))⟩;grind[List.perm_append_comm_assoc]
variable{rj:aJ}
theorem M0(b:P.ax=5)(a:P.af=[bQ,rj]):sf V X H P=vn P.op (cD H bQ).1 (cD H rj).1:=by
 unfold sf;rw[if_neg (by omega),if_neg (by omega),if_neg (by grind),a];rfl
theorem amZ(h:P.ax≠5):kP H P=H:=by
 grind[kP]
theorem X4(a:(P.ax==1||P.ax==3)=ab):gb V X H P=if sf V X (kP H P) P=ad then[kP H P]else[]:=by
 grind[gb]
theorem am0(b:P.ax=5)(c:P.af=[bQ,rj])(g:Z H.bF=Z H.aA)(i:j1 H.aA P=ad):
 ((cD H bQ).2=ad/\(cD H rj).2=ad/\gb V X H P=if vn P.op (cD H bQ).1 (cD H rj).1=ad then[H]else[])\/
 ((cD H bQ).2=ad/\(cD H rj).2=ab/\gb V X H P=[gL H rj (cD H bQ).1])\/
 ((cD H bQ).2=ab/\(cD H rj).2=ad/\gb V X H P=[gL H bQ (cD H rj).1]):=by
 have p:(P.ax==1||P.ax==3)=false:=by rw[b];decide
 have l:(cD H bQ).2=ab\/(cD H rj).2=ab->P.op=1:=by
  intro o;refine xu λn=>?_;unfold j1 at i;rw[if_neg (by grind),if_neg (by simp[n]),c]at i;simp only[oz,AA,yP,bc]at i;rw[<-nL,<-nL]at i;rcases o with h|h;grind;grind
 have m:∀f:aG,vn 1 f f=true:=λf=>by rw[vn,if_pos rfl,(TO.val.eq f f).2 rfl]<;>rfl
 rw[X4 p];rcases e:(cD H bQ).2 with _|_;rcases a:(cD H rj).2 with _|_;simp_all[j1,aaO,aaP,OC,nL];refine .inr (.inr ⟨rfl,rfl,?_⟩);have d:=l (.inl e);have:kP H P=gL H bQ (cD H rj).1:=by
  unfold kP;rw[c];simp only[e,a,b,d];simp
 have j:known H.aA rj=true:=by rw[<-nL];exact a
 have k:known H.aA bQ=false:=by rw[<-nL];exact e
 rw[this,M0 b c,d,LJ g k,LI (fE:=gL H bQ (cD H rj).1) g rfl rfl j,if_pos (m _)];rcases a:(cD H rj).2 with _|_;refine .inr (.inl ⟨rfl,rfl,?_⟩);have d:=l (.inr a);have:kP H P=gL H rj (cD H bQ).1:=by
  unfold kP;rw[c];simp only[e,a,b,d];simp
 have j:known H.aA bQ=true:=by rw[<-nL];exact e
 have k:known H.aA rj=false:=by rw[<-nL];exact a
 rw[this,M0 b c,d,LJ g k,LI g rfl rfl j,if_pos (m _)];refine .inl ⟨rfl,rfl,?_⟩;grind[kP,M0]
theorem H6(a:List aG):NB (eS ab cV a):=by
 refine .sl _ ?_;induction a with
 |nil=>exact .nil
 |cons c a b=>exact .cons _ _ (.cons _ _ (.int _ _) (.cons _ _ (.int _ _) (.cons _ _ (.str _) .nil))) b
theorem X5(b:aG)(a:Bool):NB (.aB [.agg (cV b),.bool a]):=.aB _ (.cons _ _ (.agg _ (.cons _ _ (.int _ _) (.cons _ _ (.int _ _) (.cons _ _ (.str _) .nil)))) (.cons _ _ (.bool _) .nil))
theorem withE_1(h:(cD H bQ).2=ab):gM H [bQ] [jt]=aa (gL H bQ jt):=by
 grind[gM]
theorem am1{r:aD}
 (be:tA E k (cW T F bC c6 V X))(f:X1 V r X H P)(d7:lK dQ []=aa (z,bE))(d8:bE.map AV.pl=bE)(f9:dQ.pl=dQ)(i7:dS 1 dQ=aa [dQ])(aZ:K->bb->K)
 (el:∀pre a0 es,gb V X H P=pre++a0::es->pn C z bE U N rB (k++bn) a0 (pre.foldl aZ dR) (aZ (pre.foldl aZ dR) a0)):
 pn C 164 [E,.agg (cM U N),.agg (bg iB P),dQ] U N rB (k++bn) H dR ((gb V X H P).foldl aZ dR):=by
 intro M s m R Q au L a3 bD g7;refine Sr.hq ?_ (by simp[be.pl,f9]);refine aY (Al rfl rfl) (aY (Al rfl rfl) (aY (obO_1 i7) ?_));have y:=((g7.alloc (.arr 0 2 [cM U N])).alloc (.arr 0 9 [bg iB P])).alloc (.arr 0 1 [[dQ]]);simp only[gy,jW]at y⊢;generalize(L++[Obj.arr 0 2 [cM U N]]++[.arr 0 9 [bg iB P]]++[.arr 0 1 [[dQ]]])=l at*;generalize Z L+1+1=v at*;generalize Z L+1=u at*;generalize Z L=o at*
 clear g7;replace y:Holds l (ig o u v U N iB P dQ++(eY U N R Q H s m++(M++((k++bn)++au)))):=y;have W:∀(g2:List AV),[g2][0]?=aa g2:=λ_=>rfl;have d9:∀{H:bb}{s m M R Q x J},Holds x (J++(ig o u v U N iB P dQ++(eY U N R Q H s m++(M++((k++bn)++au)))))->x[o]?=aa (.arr 0 2 [cM U N])/\x[u]?=aa (.arr 0 9 [bg iB P])/\x[v]?=aa (.arr 0 1 [[dQ]]):=λh=>
  ⟨h.get (by simp[ig]),h.get (by simp[ig]),h.get (by simp[ig])⟩
 let⟨ba,t,bm⟩:=d9 (J:=[]) y;have f6:bS (cW T F bC c6 V X):=by simp[cW]
 have g3:(bg iB P)[0+0]?=aa (I P.ax):=rfl;have fd:(bg iB P)[0+2]?=aa (I P.ai):=rfl;have ce:(bg iB P)[0+3]?=aa (eS iB cT P.af):=rfl;have g4:(bg iB P)[0+6]?=aa (I P.iC):=rfl;have hH:(bg iB P)[0+7]?=aa (I P.op):=rfl;have ho:(cW T F bC c6 V X)[4]?=aa (eS bC (cF c6) X):=rfl;have m0:(bg iB P)[0]?=aa (I P.ax):=rfl;simp only[eD t,cY t (W _),g3,O,di]
 let nW:List AV->List Obj->Prop:=λ_ h=>∃ac Y ah aA az,lZ H Y ah/\rB ((gb V X H P).foldl aZ dR) ac/\Holds h (ig o u v U N iB P dQ++(eY U N aA az H Y ah++(ac++((k++bn)++au))));have d5:∀j h,nW j h->∃ac Y ah aA az,lZ H Y ah/\rB ((gb V X H P).foldl aZ dR) ac/\Holds h (eY U N aA az H Y ah++(ac++((k++bn)++au))):=λj h ⟨ac,Y,ah,aA,az,a5,bi,a9⟩=>⟨ac,Y,ah,aA,az,a5,bi,a9.sub⟩
 refine eb (M:=l) (P.ax==1||P.ax==3) (λeq hg=>b (λh=>kB hg (by rw[h]<;>rfl)) (λh=>kB hg (by rw[h]<;>rfl))) ?_;simp only[G];refine b (λci=>?_) (λci=>?_)
 ·have ha:gb V X H P=l1 V H P X:=by rw[gb,if_pos ci]<;>rfl
  refine be.rd (n:=4) y.Ep ho ?_;let⟨aE,cl,nl,h3⟩:=amP (T:=c6) (F:=bC) X P.ai f.fl f.dF;simp only[eD t,cY t (W _),fd,O];refine c h3 ?_;simp only[fH,de,eF,O];refine kR nW (λUi i3=>?_) d5;refine be.rd (n:=4) y.Ep ho ?_;rw[Hq (fR _) cl.le,O,a1,O];have id:∀e∈X.drop aE,e∈X:=λe a4=>List.mem_of_mem_drop a4;have m3:Z (X.drop aE)<=Z X:=by simp
  have i4:∀B,(∀h:B<Z (X.drop aE),(X.drop aE)[B].ai≠P.ai)->gb V X H P=l1 V H P ((X.drop aE).take B):=λB f7=>by rw[ha];exact amU f.dF cl f7
  have i8:∀B,∃es,gb V X H P=l1 V H P ((X.drop aE).take B)++es:=λB=>by
   rw[ha];have hO:X=X.take aE++((X.drop aE).take B++(X.drop aE).drop B):=by rw[vO,vO]
   refine⟨l1 V H P ((X.drop aE).drop B),?_⟩
   conv=>lhs;rw[hO,Eo,Eo]
   rw[MZ (X:=X.take aE)];simp;intro e a4;obtain⟨eq,el,rfl⟩:=kf.1 a4;simp only[hW]at el;simp only[E6];have:=cl.lo eq (by omega) (by omega);omega
  generalize X.drop aE=a2 at*
  refine bG (K:=Nat×aL×List d×(d->Int)×Bool×Bool×List Obj) (λam=>[I am.1]) (λam=>am.2.2.2.2.2.2) (λam=>Z a2 -am.1) (λam=>am.1<=Z a2/\lZ H am.2.2.1 am.2.2.2.1/\rB ((l1 V H P (a2.take am.1)).foldl aZ dR) am.2.1/\Holds am.2.2.2.2.2.2 (ig o u v U N iB P dQ++(eY U N am.2.2.2.2.1 am.2.2.2.2.2.1 H am.2.2.1 am.2.2.2.1++(am.2.1++((k++bn)++au))))) (0,M,s,m,R,Q,l) ⟨by simp,a3,by simpa[l1]using bD,y⟩ ?_
  clear y bD a3 ba t bm cl;clear M s m R Q l;rintro⟨B,M,s,m,R,Q,L⟩ ⟨f7,a3,bD,y⟩ ms hn;simp only at f7 a3 bD y hn⊢;let⟨ba,t,bm⟩:=d9 (J:=[]) y;simp only[G,A,O,a];refine b (λh=>?_) (λh=>?_);have h:B<Z a2:=by simpa using h
  refine kR (λj h=>(∃ht,j=[ht])/\∃ac Y ah aA az,lZ H Y ah/\rB ((l1 V H P (a2.take (B+1))).foldl aZ dR) ac/\Holds h (ig o u v U N iB P dQ++(eY U N aA az H Y ah++(ac++((k++bn)++au))))) (λUB f8=>?_) (λj h4 p=>?_);have hm:=id _ (bp h);have hl:=amY (V:=V) (H:=H) (P:=P) h;have m8:a2[B].ai≠P.ai->gb V X H P=l1 V H P (a2.take B):=λp=>i4 B (λ_=>p);let⟨es,ne⟩:=i8 (B+1);rw[aF h (fR _ _),O,kr,O]
  generalize a2[B]=e at*;refine aY rfl ?_;have f4:=y.alloc (.arr 0 3 [[I 0,.aq,I 0]]);have g5:=f4.get (U:=Z L) (hL:=.arr 0 3 [[I 0,.aq,I 0]]) (by simp);refine aI (stO_9 g5 rfl rfl rfl) ?_;have c1:=f4.set (.arr 0 3 [cF c6 e]);generalize(L++[Obj.arr 0 3 [[I 0,.aq,I 0]]]).set (Z L) (.arr 0 3 [cF c6 e])=d1 at*;clear g5 f4 y ba t bm;generalize Z L=ca at*
  let⟨ba,t,bm⟩:=d9 (J:=[(ca,.arr 0 3 [cF c6 e])]) c1;have d6:=c1.get (U:=ca) (hL:=.arr 0 3 [cF c6 e]) (by simp);have li:(cF c6 e)[0+0]?=aa (I e.ai):=rfl;have d0:(cF c6 e)[0+1]?=aa (eS c6 cV e.af):=rfl;simp only[eD t,eD d6,cY t (W _),cY d6 (W _),g3,fd,g4,li,d0,O,cx,di];refine b (λp=>?_) (λp=>?_);have p:e.ai≠P.ai:=by simpa using p
  refine i3 _ _ ⟨M,s,m,R,Q,a3,?_,c1.tail⟩;grind;have p:e.ai=P.ai:=by simpa using p
  refine eb (M:=d1) (P.ax==3&& !se V P.ai P.iC e.aj) (λn6 hh=>aW (λbr=>?_) (λbr=>kB hh (by rw[br]<;>rfl))) ?_;have g6:P.ax=3:=by simpa using br
  let⟨n,gc,dl,i5⟩:=f.lit.ai (by omega);let⟨gQ,co,ge⟩:=f.lit.iC (.inl g6);rw[p,dl];rw[dl]at co;have f1:=XY (T:=true) (F:=T) (bC:=F) (c6:=bC) (iB:=c6) (r:=c6) V X n gc e.af P.iC f.sm f.of f.fl f.B5 f.dF co (f.aN gQ (vt co)) ge;refine e4 _ f1 ?_ (.bool _) ?_
  exact .ck (by rw[be.pl];exact be.ow (Holds.Ep (k:=[(ca,.arr 0 3 [cF c6 e])]++ig o u v U N iB P dQ) (by rw[gY];exact c1)) f6) (bS.snap (by simp));simp only[bK,O];refine kB hh ?_;have m4:ym V X (n:Int) e.af=e.aj:=by
   have:=amX f.dF hm;rw[p,dl]at this;rw[ym,this]
  grind;simp only[G];refine b (λeo=>?_) (λeo=>?_);have m9:j6 V P e=false:=by
   rw[bc]at eo;have br:P.ax=3:=by simpa using eo.1
   have cs:se V P.ai P.iC e.aj=false:=by simpa using eo.2
   simp[j6,br,cs]
  refine f8 _ _ ⟨⟨_,rfl⟩,M,s,m,R,Q,a3,?_,c1.tail⟩;grind;have jp:j6 V P e=true:=by
   simp only[j6,p,beq_self_eq_true,cZ,hX,bne_iff_ne,ne_eq];by_cases br:P.ax=3;grind;omega
  rw[jp,if_pos rfl]at hl;have cc:aQ 2 ad (.ptr o 0 0 0) d1=aa (.agg (cM U N)):=mi ba rfl rfl;simp only[cc,eD t,eD d6,cY t (W _),cY d6 (W _),ce,d0,O,zm];have d2:Holds d1 (eY U N R Q H s m++(M++(([]++((ca,.arr 0 3 [cF c6 e])::(ig o u v U N iB P dQ++(k++bn))))++au))):=by
   have:Holds d1 (((ca,.arr 0 3 [cF c6 e])::ig o u v U N iB P dQ)++(eY U N R Q H s m++(M++((k++bn)++au)))):=c1;exact this.X2
  have m7:=f.amV e hm p;rw[hl,yZ]at f8;have f2:=XZ (K:=K) (T:=iB) (U:=U) (N:=N) (rB:=rB) (E:=eS c6 cV e.af) (dQ:=.fn 219 [] [.ptr u 0 0 0,.ptr ca 0 0 0,.ptr o 0 0 0,.ptr v 0 0 0]) (k:=[]) (bn:=(ca,.arr 0 3 [cF c6 e])::(ig o u v U N iB P dQ++(k++bn))) (mC:=P.af) (vs:=e.af) (H:=H)
   (dR:=(l1 V H P (a2.take B)).foldl aZ dR) (oG:=(qV H P e).toList.foldl aZ ((l1 V H P (a2.take B)).foldl aZ dR)) (.inl ⟨c6,rfl,rfl⟩) (by omega) f.len f.af rfl ?_ ?_
  refine c7 (f2 M s m R Q au d1 a3 bD d2) rfl ?_;rintro lm d4 ⟨ac,Y,ah,aA,az,a5,bi,a9⟩;refine f8 _ _ ⟨⟨_,rfl⟩,ac,Y,ah,aA,az,a5,bi,?_⟩;exact(Holds.X3 (k:=(ca,.arr 0 3 [cF c6 e])::ig o u v U N iB P dQ) a9).tail;intro a0 ak;let⟨_,_,hs,md,_,_,_,_⟩:=zP P.af e.af f.len ak;refine⟨219,_,rfl,rfl,amT (by rw[hs,md];exact f.zS) (λit=>by rw[hs];exact f.bind it) d7 d8 ?_⟩
  have m5:qV H P e=aa (kv a0 P e.aj):=by rw[qV,ak]<;>rfl
  grind;grind[qV];obtain⟨⟨ht,rfl⟩,ac,Y,ah,aA,az,a5,bi,a9⟩:=p;rw[a6 (by have:=f.fl;grind[Sm]),O];exact hn (B+1,ac,Y,ah,aA,az,h4) ⟨h,a5,bi,a9⟩ (by omega);grind
 ·have d2:Holds l (eY U N R Q H s m++(ig o u v U N iB P dQ++(M++((k++bn)++au)))):=y.swap
  have cc:∀x,x[o]?=aa (.arr 0 2 [cM U N])->aQ 2 ad (.ptr o 0 0 0) x=aa (.agg (cM U N)):=λx g=>mi g rfl rfl;have he:∀(x:List Obj)(a0:bb),(gb V X H P=[a0])->a0=H->Holds x (ig o u v U N iB P dQ++(eY U N R Q H s m++(M++((k++bn)++au))))->HR C z bE x (λ_ h=>nW [] h):=by
   intro x a0 ak i0 f5;subst i0;have br:=el [] a0 [] (by grind) M s m R Q (ig o u v U N iB P dQ++au) x a3 bD f5.MX;let⟨r,d4,d0,ac,Y,ah,aA,az,a5,bi,a9⟩:=br;refine⟨r,d4,d0,ac,Y,ah,aA,az,a5,?_,a9.MY⟩;rw[ak];exact bi
  have i6:gb V X H P=[]->nW [] l:=λh=>⟨M,s,m,R,Q,a3,by rw[h];exact bD,y⟩;refine b (λbv=>?_) (λbv=>?_);have bv:P.ax=5:=by simpa using bv
  let⟨e,aR,c2⟩:∃e aR,P.af=[e,aR]:=by
   have:=(f.lit.cmp bv).1
   match m6:P.af with
   |[dR,T]=>grind
   |[]=>grind
   |[_]=>grind
   |_::_::_::_=>grind
  have kx:∀L,bT 4 (eS iB cT [e,aR]) (I 0) L=aa (.aH iB (cT e) 0):=λ_=>rfl;have lc:∀L,bT 4 (eS iB cT [e,aR]) (I 1) L=aa (.aH iB (cT aR) 0):=λ_=>rfl;have lt:∀L,fy (.sl 4) (eS iB cT [e,aR]) (aa (I 1)) ae L=aa (eS iB cT [aR]):=λ_=>rfl;have ls:∀L,fy (.sl 4) (eS iB cT [e,aR]) ae (aa (I 1)) L=aa (eS iB cT [e]):=λ_=>rfl;have gv:∀j:aG,(AV.agg [g (cV j) 0,g (cV j) 1,g (cV j) 2])=.agg (cV j):=λ_=>rfl
  have ak:=am0 (V:=V) (X:=X) bv c2 f.len f.j1;have kl:=f.amW e (by grind);simp only[cc _ ba,eD t,cY t (W _),ce,c2,kx,lc,O,lL];refine e4 _ (H3 H s m e f.len) (.ck (Em d2) (bS.snap (by simp))) (X5 _ _) ?_;simp only[fH,de,eF,O,xN];refine e4 _ (H3 H s m aR f.len) (.ck (Em d2) (bS.snap (by simp))) (X5 _ _) ?_;simp only[de,eF,O,xN];refine kR nW (λHd em=>?_) d5
  have em:∀j h,nW [] h->Hd j h:=λj h p=>em j h p;rw[bw];have hj:∀(w:aJ)(j:aG),(cD H w).2=ab->gb V X H P=[gL H w j]->Sm [w]->∀ex:List Obj->Prop,(∀h,nW [] h->ex h)->∀x,x=l++[.arr 0 3 [cV j]]->ch C 218 [.agg (cM U N),eS iB cT [w],.q (Z l) 0 0 1,dQ] x λ_ h=>ex h:=by
   intro w j kw i1 ke ex ii x f5;have io:Holds x ((Z l,.arr 0 3 [cV j])::(ig o u v U N iB P dQ++(eY U N R Q H s m++(M++((k++bn)++au))))):=by rw[f5];exact y.alloc _
   have ip:Holds x (eY U N R Q H s m++(M++(([(Z l,.arr 0 3 [cV j])]++(ig o u v U N iB P dQ++(k++bn)))++au))):=by
    have:Holds x (((Z l,.arr 0 3 [cV j])::ig o u v U N iB P dQ)++(eY U N R Q H s m++(M++((k++bn)++au)))):=io;exact this.X2
   have f2:=XZ (K:=K) (T:=iB) (U:=U) (N:=N) (rB:=rB) (E:=.q (Z l) 0 0 1) (dQ:=dQ) (k:=[(Z l,.arr 0 3 [cV j])]) (bn:=ig o u v U N iB P dQ++(k++bn)) (mC:=[w]) (vs:=[j]) (H:=H) (dR:=dR) (oG:=aZ dR (gL H w j)) (.inr (bB.of (x:=[j]))) (by simp) f.len ke f9 ?_ ?_;refine c7 (f2 M s m R Q au x a3 bD ip) (by simp[f9]) ?_;rintro lm d4 ⟨ac,Y,ah,aA,az,a5,bi,a9⟩;refine ii _ ⟨ac,Y,ah,aA,az,a5,?_,?_⟩;grind
   exact(Holds.X3 (k:=(Z l,.arr 0 3 [cV j])::ig o u v U N iB P dQ) a9).tail;intro a0 gt;rw[withE_1 kw]at gt;simp only[e1]at gt;subst gt;refine⟨z,bE,d7,d8,?_⟩;have:=(el [] _ [] (by simpa using i1)).frame ([(Z l,.arr 0 3 [cV j])]++ig o u v U N iB P dQ);grind;grind[withE_1]
  have hk:∀j:aG,(l++[Obj.arr 0 3 [cV j]])[o]?=aa (.arr 0 2 [cM U N])/\(l++[Obj.arr 0 3 [cV j]])[u]?=aa (.arr 0 9 [bg iB P])/\(l++[Obj.arr 0 3 [cV j]])[v]?=aa (.arr 0 1 [[dQ]]):=λj=>d9 (J:=[(Z l,.arr 0 3 [cV j])]) (y.alloc _);rcases ak with⟨a4,ds,ak⟩|⟨a4,ds,ak⟩|⟨a4,ds,ak⟩;simp only[a4,ds];refine aW (λ_=>?_) (λh=>by cases h);simp only[G,i];refine a8 ?_;simp only[eD t,cY t (W _),hH,O,gv]
  refine c (amO P.op (cD H e).1 (cD H aR).1 kl) ?_;refine b (λg9=>?_) (λg9=>?_);rw[g9,if_pos rfl]at ak;rw[cY bm (W _)];refine aI (dR:=dQ) rfl (aY d7 ?_);refine c7 (he l H ak rfl y) d8 ?_;grind;grind;let⟨g0,d3,g1⟩:=hk (cD H e).1;simp only[a4,ds];refine aW (λ_=>?_) (λh=>by cases h);simp only[G,i];refine bz (a8 ?_);simp only[cc _ ba,eD t,cY t (W _),ce,c2,lt,cY bm (W _),de,O,gv]
  refine aY (dR:=.q (Z l) 0 0 1) (oK:=l++[.arr 0 3 [cV (cD H e).1]]) rfl ?_;simp only[cc _ g0,eD d3,cY d3 (W _),ce,c2,cY g1 (W _),de,O,mf,true_and];exact hj aR _ ds ak (by simp[Sm]) _ (λh p=>em _ h p) _ rfl;let⟨g0,d3,g1⟩:=hk (cD H aR).1;simp only[a4,ds];refine aW (λh=>by cases h) (λ_=>?_);simp only[G,i];refine bz (bz (a8 ?_));simp only[cc _ ba,eD t,cY t (W _),ce,c2,ls,cY bm (W _),de,O,gv]
  refine aY (dR:=.q (Z l) 0 0 1) (oK:=l++[.arr 0 3 [cV (cD H aR).1]]) rfl ?_;simp only[cc _ g0,eD d3,cY d3 (W _),ce,c2,cY g1 (W _),de,O,mf,true_and];exact hj e _ a4 ak (by simp[Sm]) _ (λh p=>em _ h p) _ rfl;have bv:P.ax≠5:=by simpa using bv
  have ak:gb V X H P=if sf V X H P=ad then[H]else[]:=by rw[X4 ci,amZ bv]
  let⟨aE,cl,h1⟩:=MP (T:=true) (F:=T) (bC:=F) (c6:=bC) (iB:=c6) (d:=false) V X P.ai (j4 H P.af) f.fl f.B5 f.dF (H4 f.dF _);simp only[cc _ ba,eD t,cY t (W _),fd,ce,O];refine e4 _ (XT H s m P.af f.len f.af) (.ck (Em d2) (bS.snap (by simp))) (H6 _) ?_;refine e4 _ h1 (.ck (by rw[be.pl];exact be.ow y.Ep f6) (bS.snap (by simp))) (.aB _ (.cons _ _ (.int _ _) (.cons _ _ (.bool _) .nil))) ?_
  simp only[fH,de,eF,O];refine eb (M:=l) (sf V X H P) (λn7 i2=>?_) ?_;have m2:∀(cs:P.ax=4)(mp:Prop->Prop),True:=λ_ _=>trivial;by_cases f3:P.ax=2;have i9:sf V X H P= !ka X ⟨P.ai,j4 H P.af,0⟩ aE:=by
   rw[sf,if_neg (by omega),if_pos f3];rcases g8:ka X ⟨P.ai,j4 H P.af,0⟩ aE with _|_;let⟨d0,_⟩:=MV f.dF cl g8;grind;let⟨_,d0,_⟩:=MU cl g8;grind
  have f0:(P.ax==4)=false:=by rw[f3];decide
  have fx:(P.ax==2)=true:=by rw[f3];decide
  simp only[bK,O];refine aW (λ_=>?_) (λh=>absurd (fx.symm.trans h) (by decide));refine ei (λp=>?_) (λp=>?_);exact aW (λh=>absurd (f0.symm.trans h) (by decide)) (λ_=>kB i2 (by rw[i9,p]));grind;have cs:P.ax=4:=by
   have:=f.lit.ax;have m1:P.ax≠1:=λh=>by rw[h]at ci;simp at ci
   have g6:P.ax≠3:=λh=>by rw[h]at ci;simp at ci
   omega
  have f0:(P.ax==4)=true:=by rw[cs];decide
  have fx:(P.ax==2)=false:=by rw[cs];decide
  let⟨n,gc,dl,i5⟩:=f.lit.ai (by omega);let⟨gQ,co,ge⟩:=f.lit.iC (.inr cs);rw[dl]at co;have f1:=XY (T:=true) (F:=T) (bC:=F) (c6:=bC) (iB:=c6) (r:=false) V X n gc (j4 H P.af) P.iC f.sm f.of f.fl f.B5 f.dF co (f.aN gQ (vt co)) ge;simp only[g4,O];refine aW (λh=>absurd (fx.symm.trans h) (by decide)) (λ_=>aW (λ_=>?_) (λh=>absurd (f0.symm.trans h) (by decide)));rw[dl]
  refine e4 _ f1 (.ck (by rw[be.pl];exact be.ow y.Ep f6) (bS.snap (by simp))) (.bool _) ?_;simp only[bK,O];grind[sf];simp only[G];refine b (λgo=>?_) (λgo=>?_);rw[go,if_pos rfl]at ak;rw[cY bm (W _)];refine aI (dR:=dQ) rfl (aY d7 ?_);refine c7 (he l H ak rfl y) d8 ?_;exactλr d4 p=>d5 [] _ p;rw[go,if_neg (by decide)]at ak;exact d5 [] _ (i6 ak)
variable{bZ:Type}
theorem M1{e:Type}(c:bZ->List e)(d:K->e->K):∀(b:List bZ)(a:K),(b.flatMap c).foldl d a=b.foldl (λa x=>(c x).foldl d a) a
 |[],_=>rfl
 |x::b,a=>by rw[aaV,yZ,M1 c d b]<;>rfl
structure Es(p:D)(r:aD)(fs:List S)(cd:List aG):Prop where
 sm:eI p
 of:kN p
 aN:lU p
 fl:Sm fs
 B5:∀f∈fs,dX f.af
 dF:gm fs
 iS:zR p r
 meet:∀l∈r.ah,yn fs l cd
 aj:∀f∈fs,gn p f
 D0:∀v∈cd,Sm v.s
 af:∀l∈r.ah,Sm l.af
structure B6(p:D)(r:aD)(cd:List aG)(done:List Nat)(V:List d)(e:bb):Prop where
 aA:e.aA=V
 len:Z e.bF=Z V
 cd:∀v∈e.bF,v∈cd
 aN:vx p r done e
theorem B6.lit{r:aD}{done:List Nat}(a:Es V r X aP)(h:B6 V r aP done p H)(g:r.ah[U]?=aa P)(u:U∉done)(o:j1 p P=ad):X1 V r X H P:=by
 have c:P∈r.ah:=qj g;have i:Z H.bF=Z H.aA:=by rw[h.len,h.aA]
 refine⟨a.sm,a.of,a.aN,a.fl,a.B5,a.dF,a.iS.lits P c,by rw[h.aA];exact o,a.af P c,i,h.aN.len,(a.meet P c).len,λl b=>?_,λe q=>?_⟩;rw[h.aN.aw,xr]at b;let⟨k,t,b⟩:=b;rcases j:r.ah[k]? with _|m;grind;rw[j]at b;simp only at b;split at b;cases b
 rename_i n;have:=a.iS.one U k P m g j l n;grind;cases f:known H.aA e with
 |true=>exact a.D0 _ (LN i h.cd ((a.meet P c).yo e q) f)
 |false=>
  have s:(cD H e).2=false:=by rw[nL];exact f
  grind[cD,Sm,zV]
variable{fE:bb}
theorem B6.next{r:aD}{done:List Nat}(b:Es V r X aP)(h:B6 V r aP done p H)(c:r.ah[U]?=aa P)(g:j1 p P=ad)(e:fE∈gb V X H P):B6 V r aP (done++[U]) (c8 p P.af) fE:=by
 have f:P∈r.ah:=qj c;have a:=(LP (V:=V) (b.meet P f) h.aA h.len h.cd).1 fE e;rw[VO g]at a;exact⟨a.1,a.2.1,a.2.2.2,vx.step b.iS b.aj c (by rw[h.len,h.aA]) h.aN e⟩
def xd(c d e a i16 b:Nat):List AV:=[.ptr a 0 0 0,.ptr e 0 0 0,.ptr i16 0 0 0,.ptr c 0 0 0,.ptr d 0 0 0,.ptr b 0 0 0]
def kV(c d e a i16 b h g:Nat)(j ev:AV)(f:Bool)(r:aD)(i:List Nat):aL:=
 [(b,.arr 0 1 [[.fn 163 [] (xd c d e a i16 b)]]),(i16,.arr 0 2 [cM h g]),(a,.arr 0 1 [[eS ab cN i]]),(e,.arr 0 1 [[ev]]),(d,.arr 0 9 [aS f r]),(c,.arr 0 1 [[j]])]
variable{hF:Nat × Obj}
theorem Holds.toEnd(h:Holds M (hF::(k++(bn++(hG++js))))):Holds M (k++(bn++(hG++(hF::js)))):=Holds.MX (k:=[hF]) h
theorem Holds.X6(h:Holds M (k++(bn++(hG++(hF::js))))):Holds M (hF::(k++(bn++(hG++js)))):=Holds.MY (k:=[hF]) h
section
variable{α:Type}{i3 i4 i5 i10 i16 i18 mv me:Nat}{b:Bool}{A:α->aL->Prop}{wv ev:AV}{Y Xe:aL}{r:aD}{o:List Nat}
theorem am2{e k:α}(G:N<1000)(h:pn C 163 (I ((N+1:Nat):Int)::xd i3 i4 i5 i10 i16 i18) mv me A (Y++(kV i3 i4 i5 i10 i16 i18 mv me wv ev b r o++Xe)) H e k):
 pn C 165 [.ptr i18 0 0 0,.ptr U 0 0 0] mv me A (Y++((U,.arr 0 1 [[I (N:Int)]])::(kV i3 i4 i5 i10 i16 i18 mv me wv ev b r o++Xe))) H e k:=by
 intro d c i g f a n D B j;apply RN.hq;have y:=j.get (U:=i18) (hL:=.arr 0 1 [[.fn 163 [] (xd i3 i4 i5 i10 i16 i18)]]) (by simp[kV]);have z:=j.get (U:=U) (hL:=.arr 0 1 [[I (N:Int)]]) (by simp);have m:∀(l:List AV),[l][0]?=aa l:=λ_=>rfl;simp only[cY y (m _),cY z (m _),de,O,a6 (show N<4611686018427387904 by omega)];apply aY (dR:=163) (oK:=I ((N+1:Nat):Int)::xd i3 i4 i5 i10 i16 i18) rfl
 have E:(eY mv me g f H c i++(d++((Y++((U,Obj.arr 0 1 [[I (N:Int)]])::(kV i3 i4 i5 i10 i16 i18 mv me wv ev b r o++Xe)))++a))).Perm (eY mv me g f H c i++(d++((Y++(kV i3 i4 i5 i10 i16 i18 mv me wv ev b r o++Xe))++((U,.arr 0 1 [[I (N:Int)]])::a)))):=by
  refine l6 _ (l6 _ ?_);rw[gY Y,gY Y];apply l6 _;exact(qn [(U,Obj.arr 0 1 [[I (N:Int)]])] (kV i3 i4 i5 i10 i16 i18 mv me wv ev b r o++Xe) a)
 apply c7 (h d c i g f _ n D B (j.perm E)) rfl;rintro J F ⟨q,p,u,t,s,v,w,x⟩;refine⟨q,p,u,t,s,v,w,x.perm ?_⟩;refine l6 _ (l6 _ ?_);rw[gY Y,gY Y];apply l6 _;exact(qn [(U,Obj.arr 0 1 [[I (N:Int)]])] (kV i3 i4 i5 i10 i16 i18 mv me wv ev b r o++Xe) a).symm
theorem am3{E:List AV}(k:Es V r X aP)(bi:tA wv Y (cW b T F bC V X))(ci:lK ev [.agg (cM mv me)]=aa (U,E))(cl:E.map AV.pl=E)
 (m:α->bb->α)(aZ:List bb)(u:α)(co:∀pre j p,aZ=pre++j::p->pn C U E mv me A Xe j (pre.foldl m u) (m (pre.foldl m u) j))(eo:Z o<=100)(e:Bool):
 ∀{done:List Nat}{t:List d}{v:List Nat},Seq r.ah done t v->∀(a:List Nat)(f:bb)(pre p:List bb),o=a++v->B6 V r aP done t f->aZ=pre++(kQ V X r.ah v f++p)->
  pn C 163 (I (Z a:Int)::xd i3 i4 i5 i10 i16 i18) mv me A (Y++(kV i3 i4 i5 i10 i16 i18 mv me wv ev e r o++Xe)) f (pre.foldl m u) ((kQ V X r.ah v f).foldl m (pre.foldl m u)):=by
 intro done t v h;have l:∀(a2:List AV),[a2][0]?=aa a2:=λ_=>rfl;have rd:∀{c:List Obj}{aR:aL},Holds c (aR)->(∀j∈kV i3 i4 i5 i10 i16 i18 mv me wv ev e r o,j∈aR)->c[i10]?=aa (.arr 0 1 [[eS ab cN o]])/\c[i5]?=aa (.arr 0 1 [[ev]])/\c[i16]?=aa (.arr 0 2 [cM mv me])/\c[i3]?=aa (.arr 0 1 [[wv]])/\c[i4]?=aa (.arr 0 9 [aS e r]):=λh k=>
  ⟨h.get (k _ (by simp[kV])),h.get (k _ (by simp[kV])),h.get (k _ (by simp[kV])),h.get (k _ (by simp[kV])),h.get (k _ (by simp[kV]))⟩
 have br:∀c:List Obj,c[i16]?=aa (.arr 0 2 [cM mv me])->aQ 2 ad (.ptr i16 0 0 0) c=aa (.agg (cM mv me)):=λc g=>mi g rfl rfl;induction h with
 |nil out t=>
  intro a f pre p P ax ba z x L J G q s am ak au;apply KG.hq;apply aY (obO_1 (E:=I (Z a:Int)) rfl);have n:=au.alloc (.arr 0 1 [[I (Z a:Int)]]);generalize s++[Obj.arr 0 1 [[I (Z a:Int)]]]=c at*;generalize Z s=i at*;have aj:=n.get (U:=i) (hL:=.arr 0 1 [[I (Z a:Int)]]) (by simp);let⟨W,ai,ac,a4,af⟩:=rd n (by simp_all);have az:(Z a:Int)=Z o:=by rw[P];simp
  simp only[cY aj (l _),cY W (l _),cY ai (l _),br _ ac,de,O,a1,di,Ba];refine a8 (aY ci ?_) (by simp[az]);have a5:=(co pre f p (by grind[kQ])).frame (Y++kV i3 i4 i5 i10 i16 i18 mv me wv ev e r o);rw[gY]at a5;apply c7 (a5 z x L J G _ c am ak n.toEnd) cl;rintro d5 aE ⟨B,y,M,K,H,Q,a3,R⟩;exact⟨B,y,M,K,H,Q,a3,R.X6.tail⟩
 |cons out t aA w bm N ds be h d2=>
  intro a f pre p P ax ba z x L J G q s am ak au;apply KG.hq;apply aY (obO_1 (E:=I (Z a:Int)) rfl);have n:=au.alloc (.arr 0 1 [[I (Z a:Int)]]);generalize s++[Obj.arr 0 1 [[I (Z a:Int)]]]=c at*;generalize Z s=i at*;have aj:=n.get (U:=i) (hL:=.arr 0 1 [[I (Z a:Int)]]) (by simp);let⟨W,ai,ac,a4,af⟩:=rd n (by simp_all);have c1:Z a<Z o:=by rw[P];simp
  have c2:o[Z a]=aA:=by subst P;simp
  have az:((Z a:Int)==Z o)=false:=by simp;omega
  let⟨cs,dl⟩:=fM.1 N;have bv:(aS e r)[0+7]?=aa (eS e (bg e) r.ah):=rfl;simp only[cY aj (l _),cY W (l _),cY ai (l _),cY a4 (l _),eD af,cY af (l _),bv,br _ ac,de,O,a1,di,Ba];refine bz ?_ az;rw[aF c1 (K2 _)];simp only[O,aK,GU,c2];rw[aF cs (jB _ _)];simp only[O,o1,dl,zm];have ce:kQ V X r.ah (aA::w) f=(gb V X f bm).flatMap (kQ V X r.ah w):=by rw[kQ,N]
  rw[ce]at ba⊢;have ca:=am1 (K:=α) (iB:=e) (U:=mv) (N:=me) (rB:=A) (dQ:=.fn 165 [] [.ptr i18 0 0 0,.ptr i 0 0 0]) (bn:=(i,.arr 0 1 [[I (Z a:Int)]])::(kV i3 i4 i5 i10 i16 i18 mv me wv ev e r o++Xe)) (dR:=pre.foldl m u) bi (ax.lit k N ds be) (z:=165) (bE:=[.ptr i18 0 0 0,.ptr i 0 0 0]) rfl rfl rfl rfl (λa0 j=>(kQ V X r.ah w j).foldl m a0) ?_
  have cc:Holds c (eY mv me J G f x L++(z++((Y++((i,.arr 0 1 [[I (Z a:Int)]])::(kV i3 i4 i5 i10 i16 i18 mv me wv ev e r o++Xe)))++q))):=by
   refine n.toEnd.perm (l6 _ (l6 _ ?_));rw[gY Y,gY Y];apply l6 _;exact(qn [(i,Obj.arr 0 1 [[I (Z a:Int)]])] (kV i3 i4 i5 i10 i16 i18 mv me wv ev e r o++Xe) q).symm
  apply c7 (ca z x L J G q c am ak cc) (by simp[bi.pl]);rintro d5 aE ⟨B,y,M,K,H,Q,a3,R⟩;refine⟨B,y,M,K,H,Q,?_,?_⟩;grind[M1];have bD:Holds aE (eY mv me K H f y M++(B++((Y++(kV i3 i4 i5 i10 i16 i18 mv me wv ev e r o++Xe))++((i,.arr 0 1 [[I (Z a:Int)]])::q)))):=by
   refine R.perm (l6 _ (l6 _ ?_));rw[gY Y,gY Y];apply l6 _;exact(qn [(i,Obj.arr 0 1 [[I (Z a:Int)]])] (kV i3 i4 i5 i10 i16 i18 mv me wv ev e r o++Xe) q)
  exact bD.X6.tail
  ·intro d4 j d6 d0
   have d1:j∈gb V X f bm:=by rw[d0];simp
   have a9:=d2 (a++[aA]) j (pre++d4.flatMap (kQ V X r.ah w)) (d6.flatMap (kQ V X r.ah w)++p) (by grind) (ax.next k N be d1) (by grind);rw[yZ,M1]at a9;rw[gy,jW]at a9;grind[am2]
end
def tB(c:Nat)(a:Nat->Bool):List (List AV):=(ay c).map λb=>cB (a b)
theorem X7(a:Nat->Bool)(h:N<U):(tB U a)[N]?=aa (cB (a N)):=by simp[tB,h]
theorem am4(a:Nat->Bool)(c b:Nat)(d:Bool):(tB c a).set b (cB d)=tB c (Go.Law.bW a b d):=by
 refine yR λe=>?_;grind[Go.Law.bW,tB]
def tC(d:AV)(a:List Nat)(c:aL):Prop:=(a=[]/\d=.aq/\c=[])\/∃id g b,d=.q id g 0 (Z a)/\Z a<=Z b/\b.take (Z a)=a.map cN/\c=[(id,.arr g 1 b)]
def yC(a:Nat×List Nat):List AV:=[.q a.1 0 0 (Z a.2)]
def Et(a:Nat×List Nat):Nat×Obj:=(a.1,.arr 0 1 (a.2.map cN))
def xe(e:AV)(c:List (List Nat))(d:aL):Prop:=∃a b,c=a.map Prod.snd/\bB e yC 1 a b/\d=b++a.map Et
variable{bq:List Nat}
theorem tC.pl(h:tC E bq k):E.pl=E/\E.bU=true:=by
 rcases h with⟨-,rfl,-⟩|⟨id,g,a,rfl,-⟩<;>exact⟨rfl,rfl⟩
variable{fk:List (List Nat)}
theorem xe.pl(h:xe E fk k):E.pl=E/\E.bU=true:=by
 let⟨a,b,_,h,_⟩:=h;exact⟨h.pl,h.cell⟩
structure tD where
 c:Nat
 x:Nat
 jx:Nat
 l:Nat
 jl:Nat
 o:Nat
 jo:Nat
 s:Nat
 n:Nat
 v:Nat
 u:Nat
 e:Nat
 je:Nat
def one(a:AV):Obj:=.arr 0 1 [[a]]
def pt(a:Nat):AV:=.ptr a 0 0 0
def tD.H7(a:tD):List AV:=[pt a.c,pt a.x,pt a.l,pt a.o,pt a.s,pt a.n,pt a.v,pt a.u,pt a.e]
def dA(a:tD)(b:Nat)(f:Nat->List Nat)(d:TS)(j i:AV)(h g:aL):aL:=
 (a.c,one (I (d.count:Int)))::(a.x,one (.q a.jx 0 0 b))::(a.jx,.arr 0 1 (gO b d.aR))::(a.l,one (.q a.jl 0 0 b))::(a.jl,.arr 0 1 (gO b d.ca))::(a.o,one (.q a.jo 0 0 b))::(a.jo,.arr 0 1 (tB b d.eT))::
  (a.s,one j)::(a.n,one (eS ab cG ((ay b).map f)))::(a.v,one (.fn 123 [] a.H7))::(a.u,one i)::(a.e,one (.q a.je 0 0 b))::(a.je,.arr 0 1 (gO b d.of))::(h++g)
section
variable{d:tD}{n:Nat}{G:Nat->List Nat}{s:TS}{sv ov:AV}{PS PO F:aL}{H:List Obj}
theorem xf(h:Holds H (dA d n G s sv ov PS PO++F)){a:AV}(b:(U,one a)∈dA d n G s sv ov PS PO):aQ 1 ab (pt U) H=aa a:=gx (h.get (hL:=one a) (by grind)) rfl
theorem M3(h:Holds H (dA d n G s sv ov PS PO++F)):aQ 1 ab (pt d.c) H=aa (I (s.count:Int)):=xf h (by simp[dA])
theorem H8(h:Holds H (dA d n G s sv ov PS PO++F)):aQ 1 ab (pt d.x) H=aa (.q d.jx 0 0 n):=xf h (by simp[dA])
theorem Eu(h:Holds H (dA d n G s sv ov PS PO++F)):aQ 1 ab (pt d.l) H=aa (.q d.jl 0 0 n):=xf h (by simp[dA])
theorem B7(h:Holds H (dA d n G s sv ov PS PO++F)):aQ 1 ab (pt d.o) H=aa (.q d.jo 0 0 n):=xf h (by simp[dA])
theorem M4(h:Holds H (dA d n G s sv ov PS PO++F)):aQ 1 ab (pt d.s) H=aa sv:=xf h (by simp[dA])
theorem am5(h:Holds H (dA d n G s sv ov PS PO++F)):aQ 1 ab (pt d.n) H=aa (eS ab cG ((ay n).map G)):=xf h (by simp[dA])
theorem X8(h:Holds H (dA d n G s sv ov PS PO++F)):aQ 1 ab (pt d.v) H=aa (.fn 123 [] d.H7):=xf h (by simp[dA])
theorem M5(h:Holds H (dA d n G s sv ov PS PO++F)):aQ 1 ab (pt d.u) H=aa ov:=xf h (by simp[dA])
theorem X9(h:Holds H (dA d n G s sv ov PS PO++F)):aQ 1 ab (pt d.e) H=aa (.q d.je 0 0 n):=xf h (by simp[dA])
theorem M6(h:Holds H (dA d n G s sv ov PS PO++F)):H[d.jx]?=aa (.arr 0 1 (gO n s.aR)):=h.get (by simp[dA])
theorem M7(h:Holds H (dA d n G s sv ov PS PO++F)):H[d.jl]?=aa (.arr 0 1 (gO n s.ca)):=h.get (by simp[dA])
theorem M8(h:Holds H (dA d n G s sv ov PS PO++F)):H[d.jo]?=aa (.arr 0 1 (tB n s.eT)):=h.get (by simp[dA])
theorem M9(h:Holds H (dA d n G s sv ov PS PO++F)):H[d.je]?=aa (.arr 0 1 (gO n s.of)):=h.get (by simp[dA])
theorem B8{d w:AV}{a b:aL}(h:Holds H (a++(U,one d)::b))(c:w.pl=w/\w.bU=ad):dp 1 (pt U) w H=aa (H.set U (one w))/\Holds (H.set U (one w)) (a++(U,one w)::b):=
 ⟨lE (h.get (hL:=one d) (by simp)) rfl (by omega) c.1 c.2,Holds.su h _⟩
theorem am6(h:Holds H (dA d n G s sv ov PS PO++F))(b:Nat):∃a,dp 1 (pt d.c) (I (b:Int)) H=aa a/\Holds a (dA d n G {s with count:=b} sv ov PS PO++F):=
 ⟨_,B8 (a:=[]) h ⟨rfl,rfl⟩⟩
theorem Ya(h:Holds H (dA d n G s sv ov PS PO++F)){w:AV}(b:w.pl=w/\w.bU=ad):∃a,dp 1 (pt d.s) w H=aa a/\Holds a (dA d n G s w ov PS PO++F):=
 ⟨_,B8 (a:=[_,_,_,_,_,_,_]) h b⟩
theorem am7(h:Holds H (dA d n G s sv ov PS PO++F)){w:AV}(b:w.pl=w/\w.bU=ad):∃a,dp 1 (pt d.u) w H=aa a/\Holds a (dA d n G s sv w PS PO++F):=
 ⟨_,B8 (a:=[_,_,_,_,_,_,_,_,_,_]) h b⟩
theorem am8(h:Holds H (dA d n G s sv ov PS PO++F))(c:U<n)(a:Nat):∃b,dp 1 (.ptr d.jx 0 U 0) (I (a:Int)) H=aa b/\Holds b (dA d n G {s with aR:=Go.Law.bW s.aR U a} sv ov PS PO++F):=
 ⟨_,El a (M6 h) c,Holds.su (k:=[_,_]) h _⟩
theorem Na(h:Holds H (dA d n G s sv ov PS PO++F))(c:U<n)(a:Nat):∃b,dp 1 (.ptr d.jl 0 U 0) (I (a:Int)) H=aa b/\Holds b (dA d n G {s with ca:=Go.Law.bW s.ca U a} sv ov PS PO++F):=
 ⟨_,El a (M7 h) c,Holds.su (k:=[_,_,_,_]) h _⟩
theorem am9(h:Holds H (dA d n G s sv ov PS PO++F))(c:U<n)(a:Nat):∃b,dp 1 (.ptr d.je 0 U 0) (I (a:Int)) H=aa b/\Holds b (dA d n G {s with of:=Go.Law.bW s.of U a} sv ov PS PO++F):=
 ⟨_,El a (M9 h) c,Holds.su (k:=[_,_,_,_,_,_,_,_,_,_,_,_]) h _⟩
theorem Yb(h:Holds H (dA d n G s sv ov PS PO++F))(c:U<n)(a:Bool):∃b,dp 1 (.ptr d.jo 0 U 0) (.bool a) H=aa b/\Holds b (dA d n G {s with eT:=Go.Law.bW s.eT U a} sv ov PS PO++F):=by
 refine⟨_,?_,Holds.su (k:=[_,_,_,_,_,_]) h _⟩;rw[Ee (M8 h) (X7 _ c) (by simp[cB]) rfl rfl];have:(cB (s.eT U)).set 0 (.bool a)=cB a:=rfl;rw[this,am4]
theorem xg(h:Holds H (dA d n G s sv ov PS PO++F))(a:U<n):bT 1 (.q d.jx 0 0 n) (I (U:Int)) H=aa (.ptr d.jx 0 U 0)/\aQ 1 ab (.ptr d.jx 0 U 0) H=aa (I (s.aR U:Int)):=⟨fu (M6 h) a,B3 (M6 h) a⟩
theorem xh(h:Holds H (dA d n G s sv ov PS PO++F))(a:U<n):bT 1 (.q d.jl 0 0 n) (I (U:Int)) H=aa (.ptr d.jl 0 U 0)/\aQ 1 ab (.ptr d.jl 0 U 0) H=aa (I (s.ca U:Int)):=⟨fu (M7 h) a,B3 (M7 h) a⟩
theorem ana(h:Holds H (dA d n G s sv ov PS PO++F))(a:U<n):bT 1 (.q d.je 0 0 n) (I (U:Int)) H=aa (.ptr d.je 0 U 0):=fu (M9 h) a
theorem H9(h:Holds H (dA d n G s sv ov PS PO++F))(a:U<n):bT 1 (.q d.jo 0 0 n) (I (U:Int)) H=aa (.ptr d.jo 0 U 0)/\aQ 1 ab (.ptr d.jo 0 U 0) H=aa (.bool (s.eT U)):=⟨fu (M8 h) a,by rw[cY (M8 h) (X7 _ a)]<;>rfl⟩
theorem anb(c:U<n)(H:List Obj):bT 1 (eS ab cG ((ay n).map G)) (I (U:Int)) H=aa (.aH ab (cG (G U)) 0):=by
 have:=aF (T:=false) (a7:=cG) (x:=(ay n).map G) (U:=U) (M:=H) (N:=1) (by grind) rfl;grind
end
theorem anc(h:tC E bq k)(c:Holds M (k++bn))(a:Nat)(i:Z bq<1000000):
 ∃f e d,cJ 1 8 E (.sl ab [cN a]) M=aa (f,d)/\tC f (bq++[a]) e/\Holds d (e++bn):=by
 rcases h with⟨rfl,rfl,rfl⟩|⟨id,g,b,rfl,j,m,rfl⟩;refine⟨_,_,_,pX rfl rfl (by simp),.inr ⟨Z M,0,[cN a],rfl,by simp,by simp,rfl⟩,Holds.alloc c _⟩;have l:=c.get (U:=id) (hL:=.arr g 1 b) (by simp);refine⟨.q id (g+1) 0 (Z bq+1),[(id,.arr (g+1) 1 (b.take (Z bq)++[cN a]))],M.set id (.arr (g+1) 1 (b.take (Z bq)++[cN a])),?_,.inr ⟨id,g+1,_,by simp,by simp;omega,?_,rfl⟩,Holds.set c _⟩
 have n:ij M 1 (.sl ab [cN a])=aa [cN a]:=rfl;grind[cJ,AV.isNil];grind
theorem ane(h:tC E bq k)(b:Holds M (k++bn)):aM M .cb E (eS ad cN bq):=by
 rcases h with⟨rfl,rfl,rfl⟩|⟨id,g,a,rfl,e,d,rfl⟩;exact .aq _ _;have c:=b.get (U:=id) (hL:=.arr g 1 a) (by simp);refine .vX id g 0 (Z bq) 1 a _ c (by omega) ?_;rw[ll,d];have:pQ (bq.map cN):=by
  clear b c e d;induction bq with
  |nil=>exact .nil
  |cons i bq f=>exact .cons _ _ (UI i) f
 exact this.snap
theorem anf(a:Bool)(b:List Nat):eS a cN b=eS a cI (b.map λ(c:Nat)=>(c:Int)):=by
 simp_all[eS,cN,cI]
theorem ang(h:U∈bq):b1 (λe:Int=>((U:Int)==e)) (bq.map λ(d:Nat)=>(d:Int))=(bq.idxOf U:Nat):=by
 have i:=arR h;refine tX (by grind) (λc g b=>?_) ?_;rw[xq,beq_eq_false_iff_ne];intro a;have a:U=bq[c]'(by omega):=by omega
 have f:=List.not_of_lt_findIdx b;grind;simp
theorem anh(h:tC E bq k)(b:Holds M (k++bn))(c:U∈bq)(g:Z bq<1000000)(d:kg (I (bq.idxOf U:Nat))):cp C 77 [E,I (U:Int)] M kg:=by
 have a:=TL (T:=true) (bq.map λ(e:Nat)=>(e:Int)) (U:Int) (by grind[Sm]);rw[ang c,<-anf]at a;refine e4 _ a ?_ (.int _ _) d;simp only[eg,nj,h.pl.1];exact .ck (ane h b) (.ck (.int _ _ _) (.nil _))
def B9(a:tD)(b:Nat)(f:Nat->List Nat)(d:TS)(h g:AV):aL:=
 [(a.c,one (I (d.count:Int))),(a.x,one (.q a.jx 0 0 b)),(a.jx,.arr 0 1 (gO b d.aR)),(a.l,one (.q a.jl 0 0 b)),(a.jl,.arr 0 1 (gO b d.ca)),(a.o,one (.q a.jo 0 0 b)),(a.jo,.arr 0 1 (tB b d.eT)),
  (a.s,one h),(a.n,one (eS ab cG ((ay b).map f))),(a.v,one (.fn 123 [] a.H7)),(a.u,one g),(a.e,one (.q a.je 0 0 b)),(a.je,.arr 0 1 (gO b d.of))]
section
variable{d:tD}{n:Nat}{G:Nat->List Nat}{s:TS}{sv ov:AV}{PS PO F:aL}{H:List Obj}
theorem Ia:dA d n G s sv ov PS PO++F=B9 d n G s sv ov++(PS++(PO++F)):=by
 have:dA d n G s sv ov PS PO=B9 d n G s sv ov++(PS++PO):=rfl;rw[this,gY,gY]
theorem Ib(h:Holds H (dA d n G s sv ov PS PO++F)):Holds H (PS++(B9 d n G s sv ov++(PO++F))):=by
 grind[Ia,Holds.swap]
theorem ani(h:Holds H (PS++(B9 d n G s sv ov++(PO++F)))):Holds H (dA d n G s sv ov PS PO++F):=by
 rw[Ia];exact Holds.swap h
theorem Yc(h:Holds H (dA d n G s sv ov PS PO++F)):Holds H (PO++(B9 d n G s sv ov++(PS++F))):=by
 rw[Ia]at h;exact h.perm (by grind[List.perm_append_comm_assoc])
theorem anj(h:Holds H (PO++(B9 d n G s sv ov++(PS++F)))):Holds H (dA d n G s sv ov PS PO++F):=by
 rw[Ia];exact h.perm (by grind[List.perm_append_comm_assoc])
end
def dJ(a:List Nat):List Nat:=(ay (a.foldl max 0+1)).filter λb=>y (b∈a)
theorem ank:∀{b a:Nat},a<=b\/a∈bq->a<=bq.foldl max b:=by
 induction bq with
 |nil=>grind
 |cons d bq c=>
  intro b a h;rw[ni];apply c;grind
theorem Ca(a:List Nat)(b:Nat):b∈dJ a<->b∈a:=by
 simp only[dJ,l4,iw,decide_eq_true_eq];grind[ank]
theorem Yd(a:List Nat):(dJ a).Pairwise (· <·):=aaK.sublist IX
theorem anl{a:List Nat}(d:a.Perm bq)(b:bq.Nodup)(e:a.Pairwise (· <=·)):a=dJ bq:=by
 refine LU ?_ (Yd bq) (by grind[Ca]);have c:=d.symm.nodup b;exact(e.and c).imp λh=>by omega
structure Ev(C:fq):Prop where
 anm:∀{H:List Obj}{id g off m:Nat}{es:List (List AV)},H[id]?=aa (.arr g 1 es)->off+m<=Z es->0<m->m<=1000000->C 124 [.q id g off m] H (.q (Z H+1) 0 0 m) (H++[.arr 0 1 [],.arr 0 1 ((es.drop off).take m)])
def Nb(j:tD)(b:Nat)(h:Nat->List Nat)(a:TS)(g:aL)(r:AV)(i:List Obj):Prop:=
 r=.aB []/\a.count+a.nO b<=b/\∃f e d c,tC f a.bD d/\xe e a.out c/\Holds i (dA j b h a f e d c++g)
variable{b0:List (List AV)}
theorem ann(h:b0.take (Z bq)=bq.map cN):(b0.drop U).take (Z bq -U)=(bq.drop U).map cN:=by
 rw[IZ,<-h,Oy]
theorem Ye(h:U∈bq):bq.idxOf U<Z bq:=by grind
theorem ano(a:List Nat):a.map cN=gO (Z a) (λb=>a.getD b 0):=by
 grind[List.ext_getElem,gO,List.length_map,List.getD]
theorem anp(a:Nat->Nat)(b:Nat):gO b a=(mr a b).map cN:=by simp_all[gO,mr]
theorem anq(a:List Nat):mr (λb=>a.getD b 0) (Z a)=a:=by
 refine ql (by simp[mr]) λe c d=>?_;grind[mr]
theorem anr(f c d:Nat×Obj)(e a b:aL):(f::(e++(a++d::c::b))).Perm (f::((e++[c])++(a++d::b))):=by
 rw[gY];exact .cons _ (l6 _ (((List.Perm.swap c d b).append_left a).trans arW))
variable{dZ:Nat -> List Nat}{fY:TS}
theorem ans(ce:Ev C){i:tD}(hh:U<=1000)(aA:N∈fY.bD)(hn:∀ac∈fY.bD,ac<U)(hj:fY.bD.Nodup)(d0:Z (fY.bD.drop (fY.bD.idxOf N))<=12)(hk:Z fY.out<=1000)(hg:Z fY.bD<=1000)
 (d6:fY.count+fY.nO U<=U){H:List Obj}(F:tC E fY.bD bn)(a5:xe dQ fY.out hG)(h:Holds H (dA i U dZ fY E dQ bn hG++k))(Q:AV->List Obj->Prop)(d5:∀r ah,Nb i U dZ (fY.pop dJ N) k r ah->Q r ah):
 bd (aQ 1 ab (pt i.s) H) λf5=>
 cp C 77 [f5,I (N:Int)] H λbi=>
 bd (aQ 1 ab (pt i.s) H) λf6=>
 bd (fy (.sl 1) f6 (aa bi) ae H) λf7=>
 ch C 124 [f7] H λL S=>
 bd (aQ 1 ab (pt i.s) S) λf8=>
 bd (fy (.sl 1) f8 ae (aa bi) S) λf9=>
 bd (dp 1 (pt i.s) f9 S) λax=>
 bd (gk .sl L ax) λgc=>
 jA (λP v Hi=>
 bd (aT .s .lss (g P 0) gc) λge=>
 ez ge (
 bd (bT 1 L (g P 0) v) λgo=>
 bd (aQ 1 ab go v) λbm=>
 bd (aQ 1 ab (pt i.e) v) λgt=>
 bd (aQ 1 ab (pt i.o) v) λbr=>
 bd (aQ 1 ab (pt i.u) v) λgQ=>
 bd (gk .sl gQ v) λg0=>
 bd (bT 1 gt bm v) λg1=>
 bd (dp 1 g1 g0 v) λT=>
 (
 bd (aQ 1 ab (pt i.o) T) λg2=>
 ob g2 br)/\(
 bd (bT 1 br bm T) λf0=>
 bd (dp 1 f0 ff T) λc2=>
 bd (aT .s .add (g P 0) (I 1)) λf1=>
 Hi [f1] c2)) (
 ch C 125 [L] v λho am=>
 bd (aQ 1 ab (pt i.u) am) λf2=>
 bd (fQ 1 [.aq] 1 [(0,L)]) λf3=>
 cj (cJ 1 24 f2 f3 am) λf4 dl=>
 bd (dp 1 (pt i.u) f4 dl) λds=>
 Q (.aB []) ds)) [(I 0)] ax:=by
 rw[M4 h,O];apply anh F (Ib h) aA (by omega);rw[O];have g9:=Ye aA;obtain⟨id,g,l,rfl,he,fn,rfl⟩:∃id g l,E=.q id g 0 (Z fY.bD)/\Z fY.bD<=Z l/\l.take (Z fY.bD)=fY.bD.map cN/\bn=[(id,.arr g 1 l)]:=by
  rcases F with⟨g8,-,-⟩|F;grind;exact F
 have a9:=(Ib h).get (U:=id) (hL:=.arr g 1 l) (by simp);rw[Hh a9 (z:=fY.bD.idxOf N) (by omega),O];generalize em:Z fY.bD -fY.bD.idxOf N=m;have a4:Z (fY.bD.drop (fY.bD.idxOf N))=m:=by simp;omega
 have aE:=ce.anm (H:=H) (id:=id) (g:=g) (off:=fY.bD.idxOf N) (m:=m) a9 (by omega) (by omega) (by omega);refine⟨_,_,aE,?_⟩;have aR:(l.drop (fY.bD.idxOf N)).take m=(fY.bD.drop (fY.bD.idxOf N)).map cN:=by rw[<-em];exact ann fn
 rw[aR];generalize d8:fY.bD.drop (fY.bD.idxOf N)=c at a4 d0 aR⊢;generalize d9:Z H+1=j;have aj:H++[Obj.arr 0 1 [],Obj.arr 0 1 (c.map cN)]=(H++[.arr 0 1 []])++[.arr 0 1 (c.map cN)]:=by simp
 have D:Holds ((H++[.arr 0 1 []])++[.arr 0 1 (c.map cN)]) (dA i U dZ fY (.q id g 0 (Z fY.bD)) dQ [(id,.arr g 1 l)] hG++((j,.arr 0 1 (c.map cN))::k)):=by
  have:=Holds.alloc (h.app [.arr 0 1 []]) (.arr 0 1 (c.map cN));simp only[gy,jW,d9]at this;exact(by grind[Holds.front,dA])
 rw[aj];clear aE aj;generalize(H++[Obj.arr 0 1 []])++[Obj.arr 0 1 (c.map cN)]=g3 at D⊢;dsimp only;rw[M4 D,O];have eo:=(Ib D).get (U:=id) (hL:=.arr g 1 l) (by simp);rw[Vv eo (z:=fY.bD.idxOf N) (by omega),O];let⟨bv,ci,d1⟩:=Ya D (w:=.q id g 0 (fY.bD.idxOf N)) ⟨rfl,rfl⟩;rw[ci,O,o0,O];have ex:tC (.q id g 0 (fY.bD.idxOf N)) (fY.bD.take (fY.bD.idxOf N)) [(id,.arr g 1 l)]:=by
  refine .inr ⟨id,g,l,?_,?_,?_,rfl⟩;grind;grind;grind[List.length_take,Nat.min_eq_left,List.map_take]
 have ha:∀ac∈c,ac<U:=by grind
 apply bG (K:=Nat×List Obj) (λt=>[I (t.1:Int)]) (λt=>t.2) (λt=>m -t.1) (λt=>t.1<=m/\Holds t.2 (dA i U dZ {fY with of:=λd=>if d∈c.take t.1 then Z fY.out else fY.of d,eT:=λd=>if d∈c.take t.1 then ab else fY.eT d} (.q id g 0 (fY.bD.idxOf N)) dQ [(id,.arr g 1 l)] hG++((j,.arr 0 1 (c.map cN))::k))) (0,bv) ⟨by simp,by simpa using d1⟩;rintro⟨f,g4⟩ ⟨el,p⟩ g6 ba;simp only at el p ba⊢;simp only[G,A,O,a]
 refine b (λY=>?_) (λW=>?_);have Y:f<m:=by simpa using Y
 have a0:f<Z c:=by omega
 have aZ:=p.get (U:=j) (hL:=.arr 0 1 (c.map cN)) (by simp);rw[fu aZ (show f<m from Y),O,cY aZ (bE:=cN c[f]) (by simp[a0])];rw[show(cN c[f])[0]?=aa (I (c[f]:Int))from rfl,O,X9 p,O,B7 p,O,M5 p,O];let⟨n,cc,V,X,az⟩:=a5;have J:c[f]<U:=by simp_all
 have a2:Z n=Z fY.out:=by rw[V];simp
 rw[X.ln,O,ana p J,O,a2];let⟨ca,cl,w⟩:=am9 p J (Z fY.out);rw[cl,O,B7 w,O];refine⟨rfl,?_⟩;rw[(H9 w J).1,O];let⟨M,R,x⟩:=Yb w J ab;rw[R,O,a6,O];refine ba (f+1,M) ⟨by omega,?_⟩ (by omega);have ak:∀{af:Type}(K:af)(y:Nat->af),Go.Law.bW (λd=>if d∈c.take f then K else y d) c[f] K=λd=>if d∈c.take (f+1)then K else y d:=by
  intro af K y
  funext d
  rw[iu a0];simp only[Go.Law.bW,dm,l5];by_cases ai:d=c[f];simp[ai];simp[ai]
 simp only at x⊢;rw[ak,ak]at x;exact x;have W:f=m:=by simp at W;omega
 subst W;rw[gP (by omega)]at p;rw[ano c,a4]at p;have es:=amD (id:=j) (g:=0) (U:=f) (ki:=λfx=>c.getD fx 0) (k:=dA i U dZ {fY with of:=λd=>if d∈c then Z fY.out else fY.of d,eT:=λd=>if d∈c then ab else fY.eT d} (.q id g 0 (fY.bD.idxOf N)) dQ [(id,.arr g 1 l)] hG++k) (by omega) (Holds.back p);apply c7 es rfl;rintro r ca ⟨rfl,c1,hl,hm,w⟩;have d7:c.Nodup:=by grind
 have a3:mr c1 f=dJ c:=by
  refine anl ?_ d7 ?_;grind[anq];grind[mr,List.Pairwise.imp_of_mem,List.pairwise_lt_range]
 have fd:Z (dJ c)=f:=by rw[<-a3];simp[mr]
 rw[anp,a3]at w;have au:=Holds.front (k:=dA i U dZ {fY with of:=λd=>if d∈c then Z fY.out else fY.of d,eT:=λd=>if d∈c then ab else fY.eT d} (.q id g 0 (fY.bD.idxOf N)) dQ [(id,.arr g 1 l)] hG) w;rw[M5 au,O];rw[show fQ 1 [.aq] 1 [(0,.q j 0 0 f)]=aa (.sl ab [yC (j,dJ c)])by rw[yC,fd]<;>rfl,O];let⟨n,cc,V,X,az⟩:=a5;have a2:Z n=Z fY.out:=by rw[V];simp
 have x:=Yc au;rw[az,gY]at x;let⟨B,z,M,R,d2⟩:=bB.app (bytes:=24) X x (j,dJ c) rfl (by omega);apply aY R;have d3:Holds M (dA i U dZ {fY with of:=λd=>if d∈c then Z fY.out else fY.of d,eT:=λd=>if d∈c then ab else fY.eT d} (.q id g 0 (fY.bD.idxOf N)) dQ [(id,.arr g 1 l)] ((B,.arr z 1 ((n++[(j,dJ c)]).map yC))::(n++[(j,dJ c)]).map Et)++k):=by
  apply anj;apply d2.perm;rw[hE (f:=Et)];exact(by grind[anr,Et,dJ])
 let⟨g5,co,d4⟩:=am7 d3 (w:=.q B z 0 (Z (n++[(j,dJ c)]))) ⟨rfl,rfl⟩;rw[co,O];have cs:fY.pop dJ N={fY with bD:=fY.bD.take (fY.bD.idxOf N),eT:=λd=>if d∈c then ab else fY.eT d,of:=λd=>if d∈c then Z fY.out else fY.of d,out:=fY.out++[dJ c]}:=by
  rw[TS.pop,d8]
 have eq:xe (.q B z 0 (Z (n++[(j,dJ c)]))) (fY.out++[dJ c]) ((B,.arr z 1 ((n++[(j,dJ c)]).map yC))::(n++[(j,dJ c)]).map Et):=
  ⟨n++[(j,dJ c)],[(B,.arr z 1 ((n++[(j,dJ c)]).map yC))],by grind,bB.of,rfl⟩
 apply d5 _ _;rw[cs];exact⟨rfl,d6,_,_,_,_,ex,eq,d4⟩
theorem Yf(b:Inv dZ U fY bq):fY.bD.Nodup/\(∀a∈fY.bD,a<U)/\Z fY.bD<=U:=by
 have d:fY.bD.Nodup:=b.gh.imp (by grind);have e:∀a∈fY.bD,a<U:=λa c=>b.lt a (b.kU a c);simp_all[FB]
def yD(a:List (List Nat)):Prop:=∀g∈a,g.Pairwise (· <·)/\g≠[]
structure Yg(d:tD)(n:Nat)(G:Nat->List Nat)(F:aL)(f:Nat)(s0:TS)(gr:List Nat)(a:Nat)(dl:Nat)(i:Nat)(t:TS)(sv ov:AV)(PS PO:aL)(H:List Obj):Prop where
 le:i<=Z (G a)
 ci:qf G n s0 t gr a ((G a).take i)
 eq:sw dJ G f a (G a) (s0.enter a)=sw dJ G f a ((G a).drop i) t
 wh:t.nO n<=f
 cw:t.count+t.nO n<=n
 ol:Z t.out+(dl+1)<=t.count
 ok:yD t.out
 st:tC sv t.bD PS
 ou:xe ov t.out PO
 hH:Holds H (dA d n G t sv ov PS PO++F)
theorem ant(f7:Ev C){q:tD}(g4:U<=1000)(d1:∀D,D<U->∀N∈dZ D,N<U)(go:∀D,Z (dZ D)<=100000)(ge:∀af:List Nat,af.Nodup->(∀D∈af,∀N∈af,hU dZ D N)->Z af<=12):
 ∀(p d:Nat)(j:TS)(z:List Nat)(dl:Nat)(ah M:AV)(S J:aL)(Q:List Obj),Inv dZ U j z->j.aR d=0->d<U->(∀g∈z,hU dZ g d)->j.nO U<=p->j.count+j.nO U<=U->Z j.out+dl<=j.count->yD j.out->tC ah j.bD S->xe M j.out J->
  Holds Q (dA q U dZ j ah M S J++k)->HR C 123 [I (d:Int),pt q.c,pt q.x,pt q.l,pt q.o,pt q.s,pt q.n,pt q.v,pt q.u,pt q.e] Q (λr R=>Nb q U dZ (iY dJ dZ p d j) k r R/\Z (iY dJ dZ p d j).out+dl<=(iY dJ dZ p d j).count/\yD (iY dJ dZ p d j).out):=by
 intro p;induction p with
 |zero=>
  intro d j z dl ah M S J Q Y T t a2 hm;have:=HW (fY:=j) t T;omega
 |succ p ho=>
  intro d j z dl ah M S J Q Y T t a2 hm h4 it g9 hj g7 h;have i2:=HW (fY:=j) t T;have gQ:=XA Y T t a2;have g0:j.count+1+(j.enter d).nO U<=U:=by omega
  let⟨ip,ii,i0⟩:=Yf Y;apply afh.hq;rw[M3 h,O,a6,O];let⟨fn,cl,F⟩:=am6 h (j.count+1);rw[cl,O,H8 F,O,Eu F,O,B7 F,O,M3 F,O,O,(xg F t).1,O];let⟨fx,co,K⟩:=am8 F t (j.count+1);rw[co,O];refine⟨by rw[M3 K,O]<;>rfl,by rw[B7 K,O]<;>rfl,by rw[Eu K,O]<;>rfl,?_⟩;rw[(xh K t).1,O];let⟨f0,cs,V⟩:=Na K t (j.count+1);rw[cs,O];refine⟨by rw[B7 V,O]<;>rfl,?_⟩;rw[(H9 V t).1,O];let⟨f1,c1,aE⟩:=Yb V t ad
  rw[c1,O,M4 aE,O,Bv,O];let⟨ex,ce,f2,c2,d9,d0⟩:=anc hj (Ib aE) d (by omega);apply aY c2;let⟨cc,ds,W⟩:=Ya (ani d0) d9.pl;rw[ds,O];replace W:Holds cc (dA q U dZ (j.enter d) ex M ce J++k):=W;clear F K V aE d0 cl co cs c1 c2 ds fn fx f0 f1 f2;rw[am5 W,O,anb t,O,aK,show(cG (dZ d))[0]?=aa (eS ab cN (dZ d))from rfl,O,a1,O]
  refine bG (K:=Nat×TS×AV×AV×aL×aL×List Obj) (λy=>[I (y.1:Int)]) (λy=>y.2.2.2.2.2.2) (λy=>Z (dZ d) -y.1) (λy=>Yg q U dZ k p j z d dl y.1 y.2.1 y.2.2.1 y.2.2.2.1 y.2.2.2.2.1 y.2.2.2.2.2.1 y.2.2.2.2.2.2) (0,j.enter d,ex,M,ce,J,cc) ⟨by simp,by simpa using gQ,by simp,by simp only;omega,by simp only;exact g0,by simp only;show Z j.out+(dl+1)<=j.count+1;omega,g9,d9,g7,W⟩ ?_
  rintro⟨m,f,br,bi,au,ak,f3⟩ i hO es;simp only at i es⊢;simp only[G,A,O,a];have id:=i.le;refine b (λa5=>?_) (λg2=>?_);have d6:m<Z (dZ d):=by simpa using a5
  have P:(dZ d)[m]∈dZ d:=bp d6;have B:=d1 d t _ P;have a9:(dZ d).take (m+1)=(dZ d).take m++[(dZ d)[m]]:=by simp
  have a0:(dZ d).drop m=(dZ d)[m]::(dZ d).drop (m+1):=by simp
  have d4:=go d;refine kR (λfd w=>fd=[I ((dZ d)[m]:Int)]/\∃bv bm be am aj,Yg q U dZ k p j z d dl (m+1) bv bm be am aj w) (λi4 a4=>?_) ?_;have h:=i.hH;rw[aF (a7:=cN) (N:=1) d6 rfl,O,aK,show(cN (dZ d)[m])[0]?=aa (I ((dZ d)[m]:Int))from rfl,O,H8 h,O,(xg h B).1,O,(xg h B).2,O,di,O];refine b (λH=>?_) (λH=>?_);have E:f.aR (dZ d)[m]=0:=by simpa using H
  have d5:∀g∈z++[d],hU dZ g (dZ d)[m]:=by
   intro g a3;rcases dm.1 a3 with w|w;exact(a2 g w).trans (.hv P);simp at w;subst w;exact .hv P
  have eo:=HX Ca d1 p _ f (z++[d]) i.ci.inv E B d5 i.wh;rw[X8 h,O];apply aY (dR:=123) (oK:=[I ((dZ d)[m]:Int),pt q.c,pt q.x,pt q.l,pt q.o,pt q.s,pt q.n,pt q.v,pt q.u,pt q.e]) rfl;apply c7 (ho _ f (z++[d]) (dl+1) br bi au ak f3 i.ci.inv E B d5 i.wh i.cw i.ol i.ok i.st i.ou h) rfl;rintro r hw ⟨⟨-,g1,hu,hs,f6,f5,hk,g8,L⟩,he,ha⟩
  rw[Eu L,O,O,(xh L t).1,O,(xh L t).2,O,O,(xh L B).1,O,(xh L B).2,O,Mx,O,O];rw[show min ((iY dJ dZ p (dZ d)[m] f).ca d:Int) ((iY dJ dZ p (dZ d)[m] f).ca (dZ d)[m]:Int)=((min ((iY dJ dZ p (dZ d)[m] f).ca d) ((iY dJ dZ p (dZ d)[m] f).ca (dZ d)[m]):Nat):Int)by omega];let⟨f4,aA,aZ⟩:=Na L t (min ((iY dJ dZ p (dZ d)[m] f).ca d) ((iY dJ dZ p (dZ d)[m] f).ca (dZ d)[m]));rw[aA,O]
  refine a4 _ _ ⟨rfl,{iY dJ dZ p (dZ d)[m] f with ca:=Go.Law.bW (iY dJ dZ p (dZ d)[m] f).ca d (min ((iY dJ dZ p (dZ d)[m] f).ca d) ((iY dJ dZ p (dZ d)[m] f).ca (dZ d)[m]))},hu,hs,f6,f5,⟨by omega,?_,?_,?_,g1,he,ha,hk,g8,aZ⟩⟩;rw[a9];exact XE i.ci P E eo;rw[i.eq,a0,sw,if_pos E];exact iP (Xz (fY:=f) (λD ba=>eo.ext.kU ba)) i.wh;have E:f.aR (dZ d)[m]≠0:=by simpa using H
  rw[B7 h,O,(H9 h B).1,O,(H9 h B).2,O];refine b (λac=>?_) (λac=>?_);simp only[Eu h,(xh h t).1,(xh h t).2,(xg h B).1,(xg h B).2,O,Mx];rw[show min (f.ca d:Int) (f.aR (dZ d)[m]:Int)=((min (f.ca d) (f.aR (dZ d)[m]):Nat):Int)by omega];let⟨f4,aA,aZ⟩:=Na h t (min (f.ca d) (f.aR (dZ d)[m]));rw[aA,O]
  refine a4 _ _ ⟨rfl,{f with ca:=Go.Law.bW f.ca d (min (f.ca d) (f.aR (dZ d)[m]))},br,bi,au,ak,⟨by omega,?_,?_,i.wh,i.cw,i.ol,i.ok,i.st,i.ou,aZ⟩⟩;rw[a9];exact XC i.ci P E ac;rw[i.eq,a0,sw,if_neg E,if_pos ac];have d8:¬f.eT (dZ d)[m]=true:=by rw[ac];decide
  refine a4 _ _ ⟨rfl,f,br,bi,au,ak,⟨by omega,?_,?_,i.wh,i.cw,i.ol,i.ok,i.st,i.ou,h⟩⟩;rw[a9];exact XD i.ci E d8;rw[i.eq,a0,sw,if_neg E,if_neg d8];rintro fd w ⟨rfl,bv,bm,be,am,aj,hh⟩;rw[a6,O];exact es (m+1,bv,bm,be,am,aj,w) hh (by omega)
  ·have g3:m=Z (dZ d):=by simp at g2;omega
   subst g3;have h:=i.hH;have X:qf dZ U j f z d (dZ d):=by have:=i.ci;grind
   have em:sw dJ dZ p d (dZ d) (j.enter d)=f:=by rw[i.eq,qk,sw]
   rw[Eu h,O,(xh h t).1,O,(xh h t).2,O,H8 h,O,(xg h t).1,O,(xg h t).2,O,cx,O];refine b (λH=>?_) (λH=>?_);have g6:¬f.ca d=f.aR d:=by simp at H;omega
   have ev:iY dJ dZ (p+1) d j=f:=by
    simp only[iY];rw[em,if_neg g6]
   rw[ev];have:=i.ol;exact⟨⟨rfl,i.cw,_,_,_,_,i.st,i.ou,h⟩,by omega,i.ok⟩
   ·have d3:f.ca d=f.aR d:=by simp at H;omega
    have ev:iY dJ dZ (p+1) d j=f.pop dJ d:=by
     simp only[iY];rw[em,if_pos d3]
    have hg:=XF (G:=dZ) (n:=U) Ca Y X d3;let⟨i5,hl,_⟩:=X.bD;have d2:d∈f.bD:=by rw[hl];simp
    let⟨g5,a5,i1⟩:=Yf X.inv;have d4:Z (f.bD.drop (f.bD.idxOf d))<=12:=by
     refine ge _ (by grind) λD ba N hn=>?_;have el:∀ai∈f.bD.drop (f.bD.idxOf d),(f.pop dJ d).ht ai/\(f.pop dJ d).of ai=Z f.out:=by
      intro ai i3;refine⟨⟨X.inv.kU ai (by grind),?_⟩,?_⟩;grind[TS.pop];grind[TS.pop]
     let⟨f8,f9⟩:=el D ba;let⟨ax,az⟩:=el N hn;exact((hg.inv.scc D N f8 ax).1 (f9.trans az.symm)).1
    have h3:=i.cw;have iC:=i.ol;have ax:Z f.out<=1000:=by omega
    have az:Z f.bD<=1000:=by omega
    apply ans f7 g4 d2 a5 g5 d4 ax az i.cw i.st i.ou h (λr R=>Nb q U dZ (iY dJ dZ (p+1) d j) k r R/\Z (iY dJ dZ (p+1) d j).out+dl<=(iY dJ dZ (p+1) d j).count/\yD (iY dJ dZ (p+1) d j).out);intro r R gt;rw[ev];refine⟨gt,?_,?_⟩
    rotate_left
    intro g a3;rcases dm.1 a3 with w|w;exact i.ok g w;rw[l5]at w;subst w;refine⟨Yd _,λgc=>?_⟩;have d7:d∈f.bD.drop (f.bD.idxOf d):=by
     have io:=Ye d2;rw[List.mem_drop_iff_getElem];exact⟨0,by omega,by simp⟩
    rw[<-Ca,gc]at d7;simp at d7;show Z (f.out++[dJ (f.bD.drop (f.bD.idxOf d))])+dl<=f.count;simp;omega
def kW(b:List (Int×Int))(c:Nat):List Nat:=(b.filter λa=>a.1==(c:Int)).map λa=>a.2.toNat
def gu(a:D)(b:Nat):List Nat:=kW ((kM a).map (·.1)) b
theorem anu(b:List (Int×Int))(c:Int×Int)(a:Nat):kW (b++[c]) a=if c.1=(a:Int)then kW b a++[c.2.toNat]else kW b a:=by
 grind[kW]
theorem Yh(a:List (Int×Int))(b:Nat):Z (kW a b)<=Z a:=by
 grind[kW]
theorem bB.anv(h:bB E cN 1 bq k)(a:Holds M (k++bn)):aM M .res E (eS ab cN bq):=by
 rcases h with⟨rfl,rfl,rfl⟩|⟨id,g,rfl,rfl⟩;exact .aq _ _;exact h8 (U:=1) (a.get (by simp)) (by simp)
theorem anw{a:Nat->aL}(h:Holds M (k++(flat a U++bn)))(f:N<U):∃b,Holds M (a N++b):=by
 let⟨c,d,e⟩:=Ek a f;have g:flat a U=c++(a N++d):=by rw[<-e,HS]
 grind[Holds,List.append_assoc,Holds.sub]
theorem Yi{b:Nat->AV}:∀{a:List Nat},(∀j∈a,aM M .res (b j) (eS ab cN (dZ j)))->fF M .res (a.map λj=>[b j]) (a.map λj=>cG (dZ j))
 |[],_=>.nil _
 |j::a,h=>.ck (.ck (h j (by simp)) (.nil _)) (Yi (by grind))
theorem anx(f:D)(K:mn f):PR C 104 [.agg (cP T F f)] (eS ab cG ((ay (Z f.Q)).map (gu f))):=by
 have bi:=K.2.2;apply Rk.pr;rw[eP,O,bj,O,aK,e,kt,O,a1,O];apply aY (rY (by omega) (by omega));rw[gS,O];apply c (Xn f K);simp only[fH,de,eF,O,a1,dK,eU];generalize J:(kM f).map (·.1)=g;have be:Z g<=10000:=by rw[<-J];simpa using ML K
 have ak:∀n∈g,∃h m:Nat,n=((h:Int),(m:Int))/\h<Z f.Q/\m<Z f.Q:=by
  intro n w;rw[<-J,cy]at w;obtain⟨y,B,rfl⟩:=w;let⟨⟨a5,M⟩,N,H⟩:=BG y B;exact⟨y.1.1.toNat,y.1.2.toNat,by grind,by omega,by omega⟩
 refine bG (K:=Nat×(Nat->AV)×(Nat->aL)×List Obj) (λl=>[I (l.1:Int)]) (λl=>l.2.2.2) (λl=>Z g -l.1) (λl=>l.1<=Z g/\(∀d,bB (l.2.1 d) cN 1 (kW (g.take l.1) d) (l.2.2.1 d))/\Holds l.2.2.2 ((0,.arr 0 1 (b8 (Z f.Q) λd=>[l.2.1 d]))::flat l.2.2.1 (Z f.Q))) (0,λ_=>.aq,λ_=>[],[.arr 0 1 (db (Z f.Q) [.aq])]) ⟨by simp,λd=>by simpa[kW]using bB.nil cN 1,?_⟩ ?_;have:(b8 (Z f.Q) λ_=>[AV.aq])=db (Z f.Q) [.aq]:=by
  unfold b8;rw[OJ];simp
 simp only[MM,this];exact⟨by simp,λy B=>by simp at B;subst B;rfl⟩;rintro⟨k,j,t,s⟩ ⟨ai,z,u⟩ a2 R;simp only at ai z u R⊢;simp only[G,A,O,a];have E:=u.get (U:=0) (hL:=.arr 0 1 (b8 (Z f.Q) λd=>[j d])) (by simp);refine b (λx=>?_) (λah=>?_)
 ·have x:k<Z g:=by simpa using x
  let⟨h,m,w,v,ba⟩:=ak _ (bp x);have ax:g.take (k+1)=g.take k++[g[k]]:=iu x;have U:∀n:Int×Int,dS 2 (.agg (b2 n))=aa [I n.1,I n.2]:=λ_=>rfl;have aA:∀n:Int×Int,aQ 2 ad (.aH ab (b2 n) 0) s=aa (.agg (b2 n)):=λ_=>rfl;rw[aF (a7:=b2) (N:=2) x (tT _),O,aA,O,U,O];simp only[w,G,i];rw[xa E v,O,Aj E v (a:=j h) rfl,O,Bv,O];let⟨p,r,P⟩:=Ek t v;have af:flat t (Z f.Q)=p++(t h++r):=by rw[<-P,HS]
  rw[af]at u;have au:=Yh (g.take k) h;rw[hW]at au;have M:Holds s (t h++(((0,.arr 0 1 (b8 (Z f.Q) λd=>[j d]))::p)++r)):=Holds.swap (k:=(0,.arr 0 1 (b8 (Z f.Q) λd=>[j d]))::p) (by simpa using u);let⟨id,o,S,V,N⟩:=bB.app (bytes:=8) (z h) M m rfl (by omega);refine aY V ⟨rfl,trivial,?_⟩
  have H:Holds S ((0,.arr 0 1 (b8 (Z f.Q) λd=>[j d]))::((id,.arr o 1 ((kW (g.take k) h++[m]).map cN))::(p++r))):=N.perm (List.Perm.swap _ _ _);have L:=H.get (U:=0) (hL:=.arr 0 1 (b8 (Z f.Q) λd=>[j d])) (by simp);rw[xa L v,O];apply aI (HQ L v (w:=j h) rfl (a:=.q id o 0 (Z (kW (g.take k) h++[m]))) rfl rfl);rw[a6,O]
  have X:=Holds.set H (.arr 0 1 (b8 (Z f.Q) (bN (λd=>[j d]) h [.q id o 0 (Z (kW (g.take k) h++[m]))])));refine R (k+1,bN j h (.q id o 0 (Z (kW (g.take k) h++[m]))),bN t h [(id,.arr o 1 ((kW (g.take k) h++[m]).map cN))],_) ⟨by omega,λd=>?_,?_⟩ (by omega);simp only;rw[ax,anu,w];by_cases n:d=h;subst n;simp only[if_true,eN];grind[bN,kW,cN,bB.of];grind[bN,kW,cN];simp only
  have W:(b8 (Z f.Q) (bN (λd=>[j d]) h [.q id o 0 (Z (kW (g.take k) h++[m]))]))=b8 (Z f.Q) λd=>[bN j h (.q id o 0 (Z (kW (g.take k) h++[m]))) d]:=by
   refine B2 λd _=>?_;unfold bN;grind
  rw[P,<-W];refine X.perm (List.Perm.cons _ ?_);exact(arW (l₁:=p) (l₂:=r)).symm
 have aj:k=Z g:=by simp at ah;omega
 subst aj;rw[dU]at z;have ac:gu f=kW g:=by funext y;rw[gu,J]
 rw[ac];have:=Yi (M:=s) (b:=j) (dZ:=kW g) (a:=ay (Z f.Q)) λd am=>by
  obtain⟨r,Y⟩:=anw (k:=[(0,.arr 0 1 (b8 (Z f.Q) λd=>[j d]))]) (bn:=[]) (by simpa using u) (iw.1 am);exact(z d).anv Y
 have a9:aM s .res (.q 0 0 0 (Z f.Q)) (.sl ab ((ay (Z f.Q)).map λd=>cG (kW g d))):=by
  refine .pE 0 0 0 _ 1 (b8 (Z f.Q) λd=>[j d]) _ E (by rw[yy];omega) ?_;rw[ll,gP (by simp[yy])];exact this
 have a3:eS ab cG ((ay (Z f.Q)).map (kW g))=.sl ab ((ay (Z f.Q)).map λd=>cG (kW g d)):=by
  rw[eS,vP]<;>rfl
 simp_all
theorem Nc:∀{a b:List Nat},a.Nodup->(∀x∈a,x∈b)->Z a<=Z b
 |[],b,_,_=>vL _
 |x::a,b,c,f=>by
  obtain⟨d,e,rfl⟩:=EX (f x (by simp));rw[kZ]at c;have:=Nc (a:=a) (b:=d++e) c.2 (by grind);grind
theorem anz:∀b∈kM V,∃r∈V.ak,b.1.1=r.ai:=by
 have f:∀(r:aD)(i:r∈V.ak)(a:List Lit)(c:List Edge),(∀b∈c,∃r∈V.ak,b.1.1=r.ai)->∀b∈a.foldl (j3 V r) c,∃r∈V.ak,b.1.1=r.ai:=by
  intro r i a;induction a with
  |nil=>grind
  |cons j a e=>
   grind[j3]
 have g:∀(a:List aD)(d:∀r∈a,r∈V.ak)(c:List Edge),(∀b∈c,∃r∈V.ak,b.1.1=r.ai)->∀b∈a.foldl (p2 V) c,∃r∈V.ak,b.1.1=r.ai:=by
  intro a;induction a with
  |nil=>grind
  |cons r a e=>exactλd c h=>e (by grind) _ (f r (d r (by simp)) r.ah c h)
 exact g V.ak (λ_ h=>h) [] (by simp)
theorem Am:N∈gu V U<->p3 V U N=true:=by
 rw[HT];simp only[gu,kW,cy,l4,beq_iff_eq];constructor;rintro⟨c,⟨⟨b,a,rfl⟩,d⟩,rfl⟩;refine⟨b,a,?_⟩;have:=(BG b a).2.1;grind;grind
theorem Nd(h:p3 V U N=ad):U<Z V.Q/\N<Z V.Q:=by
 rw[HT,cy]at h;let⟨b,a,h⟩:=h;have:=BG b a;grind
theorem Yj:hU (gu V) U N<->U=N\/pb (p3 V) U N:=by
 constructor;intro h;induction h with
 |refl b=>omega
 |step b d e h _ a=>
  rcases a with rfl|a;exact .inr (.hv _ _ (Am.1 h));exact .inr (.step _ _ _ (Am.1 h) a)
 rintro(rfl|h);exact .refl _;induction h with
 |hv U N h=>exact .hv (Am.2 h)
 |step U c N h _ a=>exact .step _ _ _ (Am.2 h) a
theorem anA(i:Z V.ak<=12)(b:List Nat)(g:b.Nodup)(h:∀a∈b,∀c∈b,hU (gu V) a c):Z b<=12:=by
 by_cases p:Z b<=1;omega;have e:∀a∈b,a∈V.ak.map λr=>r.ai.toNat:=by
  intro a e;have:∃c∈b,c≠a:=xu λq=>by
   have:∀c∈b,c=a:=by grind
   have:=Nc (b:=[a]) g (by grind);grind
  let⟨c,o,s⟩:=this;have n:∃f,f∈gu V a:=by
   cases h a e c o with
   |refl=>omega
   |step _ f _ d _=>grind
  let⟨f,d⟩:=n;have d:=Am.1 d;rw[HT,cy]at d;let⟨j,l,m⟩:=d;let⟨r,i,k⟩:=anz j l;refine cy.2 ⟨r,i,?_⟩;rw[<-k,m];simp
 have:=Nc g e;grind
theorem anB(p:fY=kA dJ (gu V) (Z V.Q) (ay (Z V.Q)) TS.init)(f:yD fY.out):tg (Z V.Q) (c4 V) fY.out fY.of:=by
 have l:∀d,d<Z V.Q->∀i∈gu V d,i<Z V.Q:=λd _ i q=>(Nd (Am.1 q)).2;let⟨_,t,j,k⟩:=amw (n:=Z V.Q) Ca l (Z V.Q) (c5 _) fY p;refine⟨λa b=>?_,λr n a=>⟨λo=>?_,λ⟨b,s⟩=>?_⟩,λa e b m=>?_,λg c=>(f g c).1,λg c=>(f g c).2⟩;grind;exact j r _ (bu n) a o;grind;rw[k a e b m,Yj,Yj,cQ];simp only[hX,beq_iff_eq,bc,c4,G1 (λa e h=>Nd h)];grind
theorem anC(a i h g f d m k l j e b c:K):[a,i,h,g,f,d,m,k,l,j,e,b,c].Perm [i,m,k,l,j,f,d,g,e,a,h,b,c]:=
 (List.Perm.swap i a _).trans (.cons i ((qn [a,h,g,f,d] [m,k,l,j] [e,b,c]).trans (.append_left [m,k,l,j] ((qn [a,h,g] [f,d] [e,b,c]).trans (.append_left [f,d] (qn [a,h] [g,e] [b,c]))))))
structure Nf(p:D)(x4 x6 x7 x8:AV)(H:List Obj):Prop where
 ex:∃kn ke kl kx je jl jx:Nat,x4=pt kn/\x6=pt ke/\x7=pt kl/\x8=pt kx/\
  Holds H [(kx,one (.q jx 0 0 (Z p.Q))),(jx,.arr 0 1 (db (Z p.Q) [I 0])),(kl,one (.q jl 0 0 (Z p.Q))),(jl,.arr 0 1 (db (Z p.Q) [I 0])),(kn,one (eS ab cG ((ay (Z p.Q)).map (gu p)))),
   (ke,one (.q je 0 0 (Z p.Q))),(je,.arr 0 1 (db (Z p.Q) [I 0]))]
theorem anD(a:Nat):gO a (λ_=>0)=db a [I 0]:=by
 simp[gO,OJ,cN]
theorem anE(a:Nat):tB a (λ_=>ab)=db a [ff]:=by
 simp[tB,OJ,cB]
theorem anF(h:xe E fk k)(c:Holds M (k++bn)):aM M .res E (eS ab cG fk):=by
 obtain⟨b,l,rfl,f,rfl⟩:=h;rcases f with⟨rfl,rfl,-⟩|⟨id,g,rfl,rfl⟩;exact .aq _ _;have d:=c.get (U:=id) (hL:=.arr g 1 (b.map yC)) (by simp);refine .pE id g 0 (Z b) 1 (b.map yC) _ d (by simp) ?_;rw[ll,gP (by simp)];have e:∀a∈b,M[a.1]?=aa (.arr 0 1 (a.2.map cN)):=λa e=>c.get (U:=a.1) (hL:=.arr 0 1 (a.2.map cN)) (by
  simp only[hD,dK,b5,dm,cy];exact .inr (.inl ⟨a,e,rfl⟩))
 clear d c;induction b with
 |nil=>exact .nil _
 |cons a b m=>
  refine .ck (.ck ?_ (.nil _)) (by grind);simp_all[h8]
structure Yk(d:tD)(n:Nat)(G:Nat->List Nat)(i:Nat)(t:TS)(sv ov:AV)(PS PO:aL)(H:List Obj):Prop where
 le:i<=n
 iv:Inv G n t []
 eq:kA dJ G n (ay n) TS.init=kA dJ G n ((ay n).drop i) t
 cw:t.count+t.nO n<=n
 ol:Z t.out<=t.count
 ok:yD t.out
 st:tC sv t.bD PS
 ou:xe ov t.out PO
 hH:Holds H (dA d n G t sv ov PS PO)
variable{oF oM oI:AV}
theorem Yl(d7:Ev C)(c1:mn V)(f5:Z V.ak<=12){d0 d1:AV}(ce:Nf V oM oI d0 d1 M):
 KB C E dQ oF oM (I (Z V.Q:Int)) oI d0 d1 M (λr p=>∃(N:List (List Nat))(of:Nat->Nat),aM p .res r (.aB [eS ab cN ((ay (Z V.Q)).map of),eS ab cG N])/\N=(kA dJ (gu V) (Z V.Q) (ay (Z V.Q)) TS.init).out/\of=(kA dJ (gu V) (Z V.Q) (ay (Z V.Q)) TS.init).of/\yD N/\Z N<=Z V.Q):=by
 have f0:=c1.2.2;have ci:∀w,w<Z V.Q->∀d2∈gu V w,d2<Z V.Q:=λw _ d2 f9=>(Nd (Am.1 f9)).2;have d9:∀w,Z (gu V w)<=100000:=λw=>by
  have P:=Yh ((kM V).map (·.1)) w;have aj:=ML c1;simp only[kc]at P;unfold gu;omega
 obtain⟨aE,S,aA,W,ax,gc,K,rfl,rfl,rfl,rfl,cl⟩:=ce.ex;generalize Z V.Q=f at*;unfold KB;apply aY (rY (by omega) (by omega));have P:=Holds.alloc cl (.arr 0 1 (db f [ff]));generalize Z M=az at*;generalize M++[Obj.arr 0 1 (db f [ff])]=y at*;apply aY (show lA 1 [.aq] y=aa (pt (Z y),y++[one .aq])from rfl);have aj:=Holds.alloc P (one .aq);generalize Z y=T at*;generalize y++[one .aq]=d3 at*
 let⟨be,br⟩:=B8 (a:=[]) aj (w:=.q az 0 0 f) ⟨rfl,rfl⟩;apply aI be;generalize d3.set T (one (.q az 0 0 f))=z at*;apply aY (show lA 1 [.aq] z=aa (pt (Z z),z++[one .aq])from rfl);have bv:=Holds.alloc br (one .aq);generalize Z z=aZ at*;generalize z++[one .aq]=B at*;apply aY (show lA 1 [.aq] B=aa (pt (Z B),B++[one .aq])from rfl);have bD:=Holds.alloc bv (one .aq);generalize Z B=U at*
 generalize B++[one .aq]=F at*;apply aY (show lA 1 [I 0] F=aa (pt (Z F),F++[one (I 0)])from rfl);have ca:=Holds.alloc bD (one (I 0));generalize Z F=R at*;generalize F++[one (I 0)]=d4 at*;let⟨bi,cc⟩:=B8 (a:=[]) ca (w:=I 0) ⟨rfl,rfl⟩;apply aI bi;generalize d4.set R (one (I 0))=H at*;apply aY (show lA 1 [.fN] H=aa (pt (Z H),H++[one .fN])from rfl);have am:=Holds.alloc cc (one .fN)
 generalize Z H=L at*;generalize H++[one .fN]=a9 at*;let⟨bm,d8⟩:=B8 (a:=[]) am (w:=.fn 123 [] [pt R,pt W,pt aA,pt T,pt aZ,pt aE,pt L,pt U,pt S]) ⟨rfl,rfl⟩;apply aI bm;generalize a9.set L (one (.fn 123 [] [pt R,pt W,pt aA,pt T,pt aZ,pt aE,pt L,pt U,pt S]))=ba at*;clear P aj br bv bD ca cc am be bi bm cl ce;let j:tD:=⟨R,W,K,aA,gc,T,az,aZ,aE,L,U,S,ax⟩
 have el:Holds ba (dA j f (gu V) TS.init .aq .aq [] []):=by
  have:=d8.perm (anC _ _ _ _ _ _ _ _ _ _ _ _ _);rw[<-anD,<-anE]at this;exact this
 refine bG (K:=Nat×TS×AV×AV×aL×aL×List Obj) (λk=>[I (k.1:Int)]) (λk=>k.2.2.2.2.2.2) (λk=>f -k.1) (λk=>Yk j f (gu V) k.1 k.2.1 k.2.2.1 k.2.2.2.1 k.2.2.2.2.1 k.2.2.2.2.2.1 k.2.2.2.2.2.2) (0,TS.init,.aq,.aq,[],[],ba) ⟨by simp,XG,by simp,?_,by simp[TS.init],λg eo=>by simp[TS.init]at eo,.inl ⟨rfl,rfl,rfl⟩,⟨[],[],rfl,.inl ⟨rfl,rfl,rfl⟩,rfl⟩,el⟩ ?_;have:TS.init.nO f<=f:=iP (pA _ _) (by simp)
 show 0+TS.init.nO f<=f;omega;rintro⟨i,m,a2,X,af,Y,p⟩ d gQ dl;simp only at d dl⊢;simp only[G,A,O,a];have g5:=d.le;have h:Holds p (dA j f (gu V) m a2 X af Y++[]):=by rw[sO];exact d.hH
 refine b (λfx=>?_) (λes=>?_);have t:i<f:=by simpa using fx
 have co:(ay f).drop i=i::(ay f).drop (i+1):=by
  rw[oC (by simpa using t)];simp
 refine kR (λds ai=>ds=[I (i:Int)]/\∃a4 a3 a0 ah ac,Yk j f (gu V) (i+1) a4 a3 a0 ah ac ai) (λg7 cs=>?_) ?_;rw[show aQ 1 ab (pt W) p=aa (.q K 0 0 f)from H8 h,O,show bT 1 (.q K 0 0 f) (I (i:Int)) p=aa (.ptr K 0 i 0)from(xg h t).1,O,show aQ 1 ab (.ptr K 0 i 0) p=aa (I (m.aR i:Int))from(xg h t).2,O,di,O];refine b (λau=>?_) (λau=>?_);have J:m.aR i=0:=by simpa using au
 have c2:m.nO f<=f:=iP (pA _ _) (by simp);have f8:=HX Ca ci f i m [] d.iv J t (by simp) c2;rw[show aQ 1 ab (pt L) p=aa (.fn 123 [] j.H7)from X8 h,O];apply aY (dR:=123) (oK:=[I (i:Int),pt j.c,pt j.x,pt j.l,pt j.o,pt j.s,pt j.n,pt j.v,pt j.u,pt j.e]) rfl;apply c7 (ant d7 (k:=[]) f0 ci d9 (anA f5) f i m [] 0 a2 X af Y p d.iv J t (by simp) c2 d.cw d.ol d.ok d.st d.ou h) rfl
 rintro r a9 ⟨⟨-,em,go,ge,d6,d5,f6,f1,am⟩,f3,f2⟩;refine cs _ _ ⟨rfl,_,go,ge,d6,d5,⟨t,f8.inv,?_,em,f3,f2,f6,f1,by grind⟩⟩;rw[d.eq,co,kA,if_pos J];have J:¬m.aR i=0:=by simpa using au
 refine cs _ _ ⟨rfl,m,a2,X,af,Y,⟨t,d.iv,?_,d.cw,d.ol,d.ok,d.st,d.ou,d.hH⟩⟩;rw[d.eq,co,kA,if_neg J];rintro ds ai ⟨rfl,a4,a3,a0,ah,ac,f4⟩;rw[a6,O];exact dl (i+1,a4,a3,a0,ah,ac,ai) f4 (by omega);have fd:i=f:=by simp at es;omega
 subst fd;have f7:kA dJ (gu V) i (ay i) TS.init=m:=by
  rw[d.eq,arX (by simp),kA]
 rw[f7,show aQ 1 ab (pt S) p=aa (.q ax 0 0 i)from X9 h,O,show aQ 1 ab (pt U) p=aa X from M5 h,O];have g4:=d.cw;have g6:=d.ol;refine⟨m.out,m.of,.aB _ _ _ (.ck ?_ (.ck ?_ (.nil _))),rfl,rfl,d.ok,by omega⟩;have:=h8 (a7:=cN) (x:=(ay i).map m.of) (id:=ax) (U:=1) (N:=0) (M:=p) (by rw[vP];exact M9 h) (by simp);simp_all;rw[d.ou.pl.1];exact anF d.ou (Yc h)
open Go.Proofs
variable{cz:Code}{L:AS}{mB:fg -> AS -> Prop}{mA:Code}{t:WS}{ju:WS -> Prop}
section
variable{P:Program}{G:Nat->Option (List AV)}{An:Nat->bR}{X:fq}{A:bR}{hc:Oper->Bool}
theorem eh.mono{c:fg->AS->Prop}(h:eh P G cz L mB)(r:∀a b,mB a b->c a b):eh P G cz L c:=λd e l i j=>by
 have:=h d e l i j;cases cz
 case loop n=>
  intro f k g;let⟨o,m,t,⟨a,b,p,q⟩,s⟩:=this f k g;grind
 all_goals exact wp_mono this (by grind)
theorem eh.Ic(k:P.follows .mixedOrders=ad)(j:∀d args a r b,X d args a r b->jy P G d args a r b)(i:∀d f a r b,C d f a r b->k1 P G An X d f a r b)
 (h:jd P G C A hc cz t (nq ju))(n:∀c,ju c->eh P G mA c.as mB):eh P G (.seq cz mA) t.as mB:=by
 refine eh.seq (oJ:=λm=>∃c,m=c.as/\ju c) (eh.mono (eh.code k j i h) ?_) ?_;rintro l p ⟨g,rfl,e⟩;cases l with
 |norm=>exact⟨rfl,g,rfl,e⟩
 |exit o=>exact e.elim
 |ret=>exact e.elim
 grind
end
theorem anG(a:D)(b:mn a)(f:∀d:AV,ju ⟨[(0,.av (.agg (cP T F a))),(1,.av d),(2,.av .aq),(3,.av .aq),(4,.av (pt 0)),(5,.av (I (Z a.Q:Int)))],[],[one (eS ab cG ((ay (Z a.Q)).map (gu a)))]⟩):
 Gv C (.agg (cP T F a)) [] ju:=by
 unfold Gv;rw[eP,O,gS,O];apply c (anx a b);apply aY (show lA 1 [.aq] []=aa (pt 0,[one .aq])from rfl);apply aI (show dp 1 (pt 0) (eS ab cG ((ay (Z a.Q)).map (gu a))) [one .aq]=aa [one (eS ab cG ((ay (Z a.Q)).map (gu a)))]from lE (bE:=[.aq]) rfl rfl (by omega) rfl rfl);rw[show aQ 1 ab (pt 0) [one (eS ab cG ((ay (Z a.Q)).map (gu a)))]=aa (eS ab cG ((ay (Z a.Q)).map (gu a)))from gx rfl rfl,O,a1,O]
 grind
theorem Ym:∀{e:List AV}{b c:Nat}{d:AV},look c (fP (oZ b e))=aa d->∃a,∃h:a<Z e,c=b+a/\d=(e[a]).pl
 |[],b,c,d,h=>by simp[oZ,fP,look]at h
 |x::e,b,c,d,h=>by
  simp only[oZ,fP,eg,look]at h;split at h;rename_i f;simp only[e1]at h;exact⟨0,by simp,by omega,h.symm⟩;let⟨a,j,g,i⟩:=Ym h;exact⟨a+1,by grind,by omega,by grind⟩
theorem anH:Tryz.f72.body.getD .skip=.seq (cL (Tryz.f72.body.getD .skip)) (.seq (cL (cR (Tryz.f72.body.getD .skip))) (.seq (cL (cR (cR (Tryz.f72.body.getD .skip)))) (.seq (.region 3 (va (cL (cR (cR (cR (Tryz.f72.body.getD .skip)))))) ad) (cR (cR (cR (cR (Tryz.f72.body.getD .skip)))))))):=by kernel_rfl
theorem anI:Tryz.f72.body=aa (Tryz.f72.body.getD .skip):=by kernel_rfl
theorem anJ:xU Tryz.f72 1=true:=by kernel_rfl
theorem yE{e:Nat->bR}:∀d c a r b,C d c a r b->k1 aU G0 e C d c a r b:=λ_ _ _ _ _ h=>.uR _ _ _ _ _ h
theorem Ao:∀d c a r b,C d c a r b->jy aU G0 d c a r b:=λ_ _ _ _ _ h=>h
abbrev Ac:Nat->bR:=λ_=>wy
theorem Yn(W:Ev C)(K:mn V)(aE:Z V.ak<=12):
 jy aU G0 72 [.agg (cP T F V)] [] (.aB [eS ab cN ((ay (Z V.Q)).map (kA dJ (gu V) (Z V.Q) (ay (Z V.Q)) TS.init).of),eS ab cG (kA dJ (gu V) (Z V.Q) (ay (Z V.Q)) TS.init).out]) []:=by
 have o:=anJ;simp only[xU,bc,gZ,decide_eq_true_eq]at o;let⟨⟨⟨_,ac⟩,af⟩,ah⟩:=o;refine eh.fn Tryz.func72 anI ac ah af ?_;rw[anH];have e0:({env:=nU 0 [.agg (cP T F V)],bx:=[],hp:=[]}:AS)=WS.as {env:=oZ 0 [.agg (cP T F V)],bx:=[],hp:=[]}:=rfl;rw[e0];have br:=K.2.2
 let S:WS->Prop:=λU=>∃i,U=⟨[(0,.av (.agg (cP T F V))),(1,.av i),(2,.av .aq),(3,.av .aq),(4,.av (pt 0)),(5,.av (I (Z V.Q:Int)))],[],[one (eS ab cG ((ay (Z V.Q)).map (gu V)))]⟩;have B:Gv C (.agg (cP T F V)) [] S:=by grind[anG]
 rw[ahI]at B;refine eh.Ic (An:=Ac) wm Ao yE B λba ai=>?_;refine eh.Ic (An:=Ac) wm Ao yE ai λbe aj=>?_;apply eh.Ic (An:=Ac) wm Ao yE aj;rintro bi ⟨i,rfl⟩;generalize l:WS.as ⟨[(0,.av (.agg (cP T F V))),(1,.av i),(2,.av .aq),(3,.av .aq),(4,.av (pt 0)),(5,.av (I (Z V.Q:Int)))],[],[one (eS ab cG ((ay (Z V.Q)).map (gu V)))]⟩=g;have aZ:look 1 g.env=aa i.pl:=by rw[<-l]<;>rfl
 have a0:look 2 g.env=aa .aq:=by rw[<-l]<;>rfl
 have a2:look 3 g.env=aa .aq:=by rw[<-l]<;>rfl
 have a3:look 4 g.env=aa (pt 0):=by rw[<-l]<;>rfl
 have M:look 5 g.env=aa (I (Z V.Q:Int)):=by rw[<-l]<;>rfl
 have aA:g.hp=[one (eS ab cG ((ay (Z V.Q)).map (gu V)))]:=by rw[<-l]<;>rfl
 refine eh.seq (oJ:=λp=>∃q r s t v,Nf V q r s t v/\p.hp=v/\(∀e k,look e (fP (oZ 1 [i,.aq,.aq,q,I (Z V.Q:Int),r,s,t]))=aa k->look e p.env=aa k)) (eh.Fe (A:=wy) wm λaR au=>?_) ?_;obtain⟨m,id,done,b,c,az⟩:=ahQ (A:=wy) M (by omega) rfl aR [] (λ_=>0) g au (J.start g _ _);refine⟨m,⟨pt 0,pt (id 3),pt (id 4),pt (id 5),m.hp,?_,rfl,?_⟩,az⟩;have y:=b.al 0 (by omega) (c 6 (by omega))
 have z:=b.al 1 (by omega) (c 7 (by omega));have A:=b.al 2 (by omega) (c 8 (by omega));have a4:=b.ms 0 (by omega) (c 1 (by omega));have N:=b.ms 1 (by omega) (c 3 (by omega));have O:=b.ms 2 (by omega) (c 5 (by omega));simp only[c 9 (by omega),c 10 (by omega),c 11 (by omega),if_true,fW,Nat.reduceAdd]at y z A a4 N O;have w:∀a,a<6->pV done a:=λa d=>by
  by_cases h:a<3;exact .inl (by grind);exact .inr (by grind)
 have bv:∀j a,j<6->a<6->j≠a->id j≠id a:=λj a G d h X=>h (b.inj j a G d (w j G) (w a d) X);have bm:∀a,a<6->1<=id a:=λa d=>by
  have:=(b.ge a d (w a d)).1;grind
 have Y:m.hp[0]?=aa (one (eS ab cG ((ay (Z V.Q)).map (gu V)))):=by rw[b.Dy 0 (by grind),aA]<;>rfl
 refine⟨0,id 3,id 4,id 5,id 0,id 1,id 2,rfl,rfl,rfl,rfl,?_,λca L=>?_⟩;simp only[eg,nj,kZ,b5,jM,or_false,not_or,not_false_eq_true,xt,and_true];grind;simp only[b5,jM,or_false]at L;rcases L with rfl|rfl|rfl|rfl|rfl|rfl|rfl;exact A.2;exact O.2;exact z.2;exact N.2;exact Y;exact y.2;grind;intro e k n;obtain⟨a,d,rfl,rfl⟩:=Ym n;have f:∀e,e∈wy.mI->look e (sU wy m).env=look e m.env:=λe o=>xT o _
 simp only[kD,eU]at d;have:a=0\/a=1\/a=2\/a=3\/a=4\/a=5\/a=6\/a=7:=by omega
 rcases this with rfl|rfl|rfl|rfl|rfl|rfl|rfl|rfl;rw[f _ (by decide),b.env _ (by omega) (by omega) (by omega) (by omega)];exact aZ;rw[f _ (by decide),b.env _ (by omega) (by omega) (by omega) (by omega)];exact a0;rw[f _ (by decide),b.env _ (by omega) (by omega) (by omega) (by omega)];exact a2;rw[f _ (by decide),b.env _ (by omega) (by omega) (by omega) (by omega)];exact a3
 rw[f _ (by decide),b.env _ (by omega) (by omega) (by omega) (by omega)];exact M;rw[f _ (by decide)];exact(b.al 0 (by omega) (c 6 (by omega))).1;rw[f _ (by decide)];exact(b.al 1 (by omega) (c 7 (by omega))).1;rw[f _ (by decide)];exact(b.al 2 (by omega) (c 8 (by omega))).1;rintro p ⟨q,r,s,t,v,am,rfl,ax⟩;have E:=Yl W K aE (E:=i) (dQ:=.aq) (oF:=.aq) am;rw[Ub]at E
 apply eh.sub (n:=WS.as {env:=oZ 1 [i,.aq,.aq,q,I (Z V.Q:Int),r,s,t],bx:=[],hp:=p.hp}) ax (by grind[WS.as,look]) rfl;apply eh.mono (eh.code (An:=Ac) wm Ao yE E);rintro a5 m ⟨a9,rfl,H⟩;cases a5 with
 |exit j=>grind
 |norm=>
  obtain⟨k,n,R,of,x,rfl,rfl,-⟩:=zu H;exact⟨.inl rfl,k,n,x⟩
 |ret=>
  obtain⟨k,n,R,of,x,rfl,rfl,-⟩:=zu H;exact⟨.inr rfl,k,n,x⟩
variable{o:Array Oper}{oJ:AS -> Prop}{B:Oper}{ly:List Oper}{ra:bR}{m:Operand}{gC:List Obj}{Y:ar}{s:Act}{u cr kj:TypeId}
section
variable{P:Program}{G:Nat->Option (List AV)}
def xi(P:Program)(G:Nat->Option (List AV))(c:Array Oper)(i:List Oper)(j:AS)(k:AS->Prop):Prop:=
 ∀(a:ar)(b:Act)(Q:Exit->Act->World->Prop)(d:List Nat),gG c d=i->(∀h∈d,h<c.size)->St a j b.tmps->du G a->uO b.tmps.size c=ad->(∀f e g,k f->nW a f b e g->Q .normal e g)->wpOps P c Q d b a.w
theorem xi.nil(h:oJ L):xi P G o [] L oJ:=λa b Q g d e f _ _ c=>by
 have:=Pg d e;subst this;exact c L b a.w h ⟨a,rfl,f,Fr.refl a,rfl,rfl⟩
theorem xi.op{k:AV->AS->Prop}(y:ga o L B=aa ad)(h:∀(c:ar)(d:Act),St c L d.tmps->du G c->∃b a,k b a/\cv P B d c b a)(D:∀b a,k b a->xi P G o ly (gj B.dst (b,a)) oJ):xi P G o (B::ly) L oJ:=λc d Q O q s e g u n=>by
 obtain⟨N,E,rfl,i,r⟩:=CR q s;have z:=CQ e y;have p:=(AX u i).1;let⟨b,a,C,R,J,l,w,t,x,I,f⟩:=h c d e g;simp only[wpOps,i,z,if_true];refine .inl ?_;have H:=I.CP (fX:=B.dst) x p;have j:=D b a C l (d.put B.dst J) Q E r (by grind) H (g.mono f e.bM) (by grind[kp])
  (λF m K A v=>n F m K A (v.trans f (kp _ _ _) (nr _ _ _)))
 unfold Oper.wp;rw[w];rcases t with rfl|⟨rfl,rfl⟩;exact j;exact j
theorem eh.region{id:Nat}(k:xi P G o (bI o) L λa=>oJ (sU ra a)):eh P G (.region id o ab) L λl m=>l=.norm/\oJ m:=λb d n h q=>by
 apply wp_region;apply k b d _ (ay o.size) (JN o) (by grind) n h (by grind[gH]);intro a p r j i;let⟨c,e,f,g⟩:=i;exact⟨.norm,_,⟨rfl,j⟩,rfl,c,e,f.mI _ _,g⟩
theorem eh.cond(e:l G L m=.bool T)(h:eh P G (if T then cz else mA) (qu ra m L) mB):eh P G (.cond m cz mA) L mB:=λi d c b a=>by
 simp only[gH,bc]at a;have f:=R.y8 (e▸dH c b m);apply wp_cond f;have g:gH d.tmps.size (if T then cz else mA)=true:=by cases T;exact a.2;exact a.1
 exact h.wp (c.drop ra m) b g
theorem eh.anK(h:eh P G cz L λb a=>(b=.norm/\oJ a)\/(b≠.norm/\mB b a))(n:∀a,oJ a->eh P G mA a mB):eh P G (.seq cz mA) L mB:=λs t l j k=>by
 simp only[gH,bc]at k;refine wp_seq (wp_mono (h.wp l j k.1) ?_);rintro m u w1 ⟨b,a,o,rfl,i,rfl,g,c,f,e⟩;rcases o with⟨rfl,q⟩|⟨w,d⟩;refine wp_mono ((n a q).wp g (j.mono c l.bM) (by grind)) ?_;rintro m v x ⟨b,r,d,rfl,p⟩;cases b<;>exact⟨_,r,d,rfl,p.trans c f e⟩
 cases b with
 |norm=>grind
 |exit id=>exact⟨_,a,d,rfl,i,rfl,g,c,f,e⟩
 |ret=>exact⟨_,a,d,rfl,i,rfl,g,c,f,e⟩
theorem eh.anL{fn:Func}{args:List AV}{r:AV}(l:P.funcs[U]?=aa fn)(k:fn.body=aa cz)(u:(fn.name== "runtime.NumGoroutine")=ab)(C:gH fn.ntmps cz=ad)(B:Z args<=fn.ntmps)
 (h:eh P G cz {env:=nU 0 args,bx:=[],hp:=M} λe b=>(e=.norm\/e=.ret)/\xF P fn b=aa r/\b.hp=gC):jy P G U args M r gC:=by
 refine⟨⟨fn,cz,l,k,u⟩,λn c g A q j p=>?_⟩;apply calls_of_wp l k;have E:(c.toArray++Array.replicate (fn.ntmps -c.toArray.size) undef).size=fn.ntmps:=by
  have:=j.length;simp;omega
 have m:=JK g j fn.ntmps;rw[q]at m;apply wp_mono (h.wp (a:={tmps:=c.toArray++Array.replicate (fn.ntmps -c.toArray.size) undef,defers:=[]}) m p (by grind));rintro z i w1 ⟨e,b,⟨v,x,rfl⟩,rfl,a,rfl,f,o,D,t⟩;let⟨d,y,s⟩:=JJ f x;have hp:i.defers=[]/\∃d,(results fn i.tmps).run P a.w=.ok d a.w/\CS n b.hp r (.returned d) a.w:=⟨t,d,y,a,rfl,o,f.bM,f.hp.symm,s⟩;rcases v with rfl|rfl<;>exact hp
theorem anM(d:St Y L s.tmps)(e:du G Y)(b:B.op=.binOp .eql u m (.const (.slice ae 0 0)) cr)(g:P.underlying u=aa (.slice kj)){a:Option Addr}(c:s.eval m=.slice a U N):cv P B s Y (.bool a.isNone) L:=by
 refine cv.still d (bA:=.bool a.isNone) ?_ (.inl (.bool _));have f:(eqGuard .eql u m (.const (.slice ae 0 0)) (.slice a U N) (.slice ae 0 0)).run P Y.w=.ok () Y.w:=by simp[eqGuard]
 simp only[execOp,b,c];rw[show s.eval (.const (.slice ae 0 0))=.slice ae 0 0 from rfl];simp_all[Sem.run_bind,Result.andThen_ok,binOp,run_equal_slice_nil]
end
def cC:Code->Code|.cond _ a _=>a|c=>c
def rq(rs:List ResultVar)(Q:AV->List Obj->Prop):fg->WS->Prop:=λb a=>match b with|.ret=>Db aU rs a Q|_=>False
structure sx(f:Nat)(fn:Func)(b:Code)(A:bR)(hc:Oper->Bool)(t sz bytes:Nat):Prop where
 hf:aU.funcs[f]?=aa fn
 ok:xU fn 1=ad
 hb:fn.body=aa b
 sh:b=.seq (cL b) (.seq (.seq (.region 1 (va (cL (cL (cR b)))) ab) (.cond (.tmp 4) (cC (cR (cL (cR b)))) .skip)) (cR (cR b)))
 hA:4∈A.mI/\0∈A.mI/\2∈A.mI/\4∈A.cs
 un:∃e,aU.underlying t=aa (.slice e)
 ops:(bI (va (cL (cL (cR b))))).map Bp=[(.move (.tmp 0),aa 3,ae,[]),(.binOp .eql t (.tmp 3) (.const (.slice ae 0 0)) t,aa 4,ae,[0])]
 t0:∀C x0 H M,jd aU G0 C A hc (cL b) {env:=oZ 0 [x0],bx:=[],hp:=H} (nq M)=cj (ft sz H) λx1 h1=>M ⟨[(0,.av x0),(2,.av x1)],[],h1⟩
 t2:∀C x0 x1 H Q,jd aU G0 C A hc (cC (cR (cL (cR b)))) ⟨[(0,.av x0),(2,.av x1)],[],H⟩ (rq (bI fn.results) Q)=cj (ft sz H) λx3 h3=>Q (AV.pl x3) h3
 t3:∀C x0 x1 H Q,jd aU G0 C A hc (cR (cR b)) ⟨[(0,.av x0),(2,.av x1)],[],H⟩ (rq (bI fn.results) Q)=cj (cJ sz bytes .dG x0 H) λx4 h4=>Q (AV.pl x4) h4
theorem Ie{e:Type}{c b:Nat}(h:b≠c):∀a:List (Nat×e),look b (lz c a)=look b a
 |[]=>rfl
 |(f,g)::a=>by
  simp only[lz];split;rename_i d;subst d;rw[Ie h a];grind[look];simp only[look];rw[Ie h a]
variable{cH:Oper -> Bool}
theorem sx.run{fn:Func}{bytes:Nat}(h:sx U fn cz ra cH N z bytes)(v:E.pl=E){r:AV}(k:Bool->Prop)
 (a4:∀(e:ar)(ai:Value),e.H=M++[.arr 0 z []]->R e E ai->∃B Y V,ai=.slice B Y V/\k B.isNone)(a9:k ad->r=.q (Z M+1) 0 0 0/\gC=(M++[.arr 0 z []])++[.arr 0 z []])(a3:k ab->cJ z bytes .dG E (M++[.arr 0 z []])=aa (r,gC))(a5:r.pl=r):
 jy aU G0 U [E] M r gC:=by
 have X:=h.ok;simp only[xU,bc,gZ,decide_eq_true_eq]at X;let⟨⟨⟨_,aR⟩,aZ⟩,W⟩:=X;rw[h.hb]at W;refine eh.anL h.hf h.hb aR W aZ ?_;rw[h.sh];have e0:({env:=nU 0 [E],bx:=[],hp:=M}:AS)=WS.as {env:=oZ 0 [E],bx:=[],hp:=M}:=by
  simp[WS.as,KA 0 [E] (by simp[v])]
 rw[e0];generalize g:(⟨[(0,.av E),(2,.av (.q (Z M) 0 0 0))],[],M++[.arr 0 z []]⟩:WS)=aj;have a2:jd aU G0 C ra cH (cL cz) {env:=oZ 0 [E],bx:=[],hp:=M} (nq λc=>c=aj):=by
  rw[h.t0];apply aY (show ft z M=aa (.q (Z M) 0 0 0,M++[.arr 0 z []])from rfl);exact g
 apply eh.Ic (An:=Ac) wm Ao yE a2;rintro c rfl;have az:look 0 c.as.env=aa E:=by rw[<-g];show aa (EV.val (.av E))=_;simp[EV.val,v]
 have aA:look 2 c.as.env=aa (.q (Z M) 0 0 0):=by rw[<-g]<;>rfl
 have D:c.as.hp=M++[.arr 0 z []]:=by rw[<-g]<;>rfl
 have aE:c.as.bx=[]:=by rw[<-g]<;>rfl
 have sub:∀{P:Code}{a:AS}{Q:fg->AS->Prop},look 0 a.env=aa E->look 2 a.env=aa (.q (Z M) 0 0 0)->a.hp=M++[.arr 0 z []]->eh aU G0 P c.as Q->eh aU G0 P a Q:=by
  intro P a Q o p s a0;refine eh.sub (λbm b d=>?_) (λbm b d=>by rw[aE]at d;simp[look]at d) (D.trans s.symm) a0;rw[<-g]at d;simp only[WS.as,fP,eg,nj,look]at d;split at d;rename_i t;subst t;rw[o,<-d];simp[EV.val,v];split at d;rename_i t;subst t;rw[p,<-d]<;>rfl
  cases d
 refine eh.anK (oJ:=λa=>k ab/\look 0 a.env=aa E/\look 2 a.env=aa (.q (Z M) 0 0 0)/\a.hp=M++[.arr 0 z []]) ?_ ?_;refine eh.seq (oJ:=λa=>∃N,k N/\look 4 a.env=aa (.bool N)/\look 0 a.env=aa E/\look 2 a.env=aa (.q (Z M) 0 0 0)/\a.hp=M++[.arr 0 z []]) (eh.region (ra:=ra) ?_) ?_;have n:=h.ops;generalize va (cL (cL (cR cz)))=ac at n⊢;let⟨L,O,I⟩:∃L O,bI ac=[L,O]:=by
  rcases I:bI ac with _|⟨L,_|⟨O,_|⟨cl,ci⟩⟩⟩<;>rw[I]at n<;>simp at n
  grind
 rw[I]at n⊢;simp only[eg,nj,Cs,and_true]at n;let⟨af,ah⟩:=n;simp only[Bp,eE]at af ah;let⟨co,bv,bD,_⟩:=af;let⟨ca,x,cs,_⟩:=ah;apply xi.op (k:=λb i=>b=E/\i=c.as) (by simp[ga,bD]) (λe A j u=>⟨E,c.as,⟨rfl,rfl⟩,O9 (A:=ra) j u (by simp_all[aV,l])⟩);rintro b i ⟨rfl,rfl⟩;rw[bv];simp only[gj];have br:look 3 (put 3 b c.as.env)=aa b:=by rw[fO]<;>rfl
 have o:look 0 (put 3 b c.as.env)=aa b:=by rw[fO,if_neg (by decide)];exact az
 have p:look 2 (put 3 b c.as.env)=aa (.q (Z M) 0 0 0):=by rw[fO,if_neg (by decide)];exact aA
 let⟨t,ba⟩:=h.un;refine xi.op (k:=λw i=>(∃N,k N/\w=.bool N)/\i={c.as with env:=put 3 b c.as.env}) (by grind[ga]) (λe A j u=>?_) ?_;have J:=j.env 3 b br;replace J:R e b (A.tmps.getD 3 undef):=J.resolve_right (by
  rintro⟨_,_,_,h,_⟩;subst h;cases v)
 let⟨B,Y,V,be,m⟩:=a4 e _ (j.hp.symm.trans D) J;exact⟨_,_,by grind,anM j u ca ba be⟩;rintro w i ⟨⟨tt,m,rfl⟩,rfl⟩;refine xi.nil ⟨tt,m,?_,?_,?_,by rw[x];exact D⟩;rw[x];simp only[gj,sU];rw[xT h.hA.1,fO,if_pos rfl];rw[x];simp only[gj,sU];rw[xT h.hA.2.1,fO,if_neg (by decide)];exact o;rw[x];simp only[gj,sU];rw[xT h.hA.2.2.1,fO,if_neg (by decide)];exact p;rintro a ⟨tt,m,ce,o,p,s⟩
 apply eh.cond (ra:=ra) (T:=tt) (by grind[l]);have am:look 0 (qu ra (.tmp 4) a).env=aa E:=by simp only[qu];rw[if_pos h.hA.2.2.2];exact(by grind[Ie])
 have au:look 2 (qu ra (.tmp 4) a).env=aa (.q (Z M) 0 0 0):=by simp only[qu];rw[if_pos h.hA.2.2.2];exact(by grind[Ie])
 have ax:(qu ra (.tmp 4) a).hp=M++[.arr 0 z []]:=by simp only[qu];rw[if_pos h.hA.2.2.2];exact s
 rcases tt with _|_;intro e A j u cc;exact wp_skip ⟨.norm,_,by grind,rfl,e,rfl,j,Fr.refl e,rfl,rfl⟩;apply sub am au ax;obtain⟨rfl,rfl⟩:=a9 m;have G:jd aU G0 C ra cH (cC (cR (cL (cR cz)))) c (rq (bI fn.results) λb y=>b=.q (Z M+1) 0 0 0/\y=(M++[.arr 0 z []])++[.arr 0 z []]):=by
  rw[<-g,h.t2];apply aY (show ft z (M++[Obj.arr 0 z []])=aa (AV.q (Z (M++[Obj.arr 0 z []])) 0 0 0,(M++[Obj.arr 0 z []])++[Obj.arr 0 z []])from rfl);exact(by grind)
 apply eh.mono (eh.code (An:=Ac) wm Ao yE G);rintro K i ⟨ak,rfl,f⟩;cases K with
 |norm=>exact f.elim
 |exit bi=>exact f.elim
 |ret=>
  simp only[rq]at f;obtain⟨b,d,rfl,F⟩:=zu (fn:=fn) f;exact .inr ⟨by simp,.inr rfl,d,F⟩
 rintro a ⟨m,o,p,s⟩;apply sub o p s;have G:jd aU G0 C ra cH (cR (cR cz)) c (rq (bI fn.results) λb y=>b=r/\y=gC):=by
  rw[<-g,h.t3];exact aY (a3 m) ⟨a5,rfl⟩
 apply eh.mono (eh.code (An:=Ac) wm Ao yE G);rintro K i ⟨ak,rfl,f⟩;cases K with
 |norm=>exact f.elim
 |exit bi=>exact f.elim
 |ret=>
  simp only[rq]at f;obtain⟨b,d,rfl,F⟩:=zu (fn:=fn) f;exact⟨.inr rfl,d,F⟩
theorem sx.nil{fn:Func}{bytes:Nat}(h:sx U fn cz ra cH N z bytes)(c:Bool)(a:List Obj):
 jy aU G0 U [.sl c []] a (.q (Z a+1) 0 0 0) (a++[.arr 0 z [],.arr 0 z []]):=by
 have d:a++[Obj.arr 0 z [],.arr 0 z []]=(a++[.arr 0 z []])++[.arr 0 z []]:=by simp
 rw[d];refine h.run rfl (λ_=>True) (λe s _ b=>?_) (by grind) (λ_=>?_) rfl;cases b with
 |jN _ f cap=>grind
 |sl _ _ cz r p cap g i j l m n cH o b k=>grind
 simp[cJ,ij,AV.isNil]
theorem sx.q{fn:Func}{bytes:Nat}(h:sx U fn cz ra cH N 1 bytes)(i:bytes=8){id g off:Nat}(a:M[id]?=aa (.arr g 1 b0))(m:off+z<=Z b0)(n:0<z)(o:z<=1000000):
 jy aU G0 U [.q id g off z] M (.q (Z M+1) 0 0 z) (M++[.arr 0 1 [],.arr 0 1 ((b0.drop off).take z)]):=by
 have b:M++[Obj.arr 0 1 [],.arr 0 1 ((b0.drop off).take z)]=(M++[.arr 0 1 []])++[.arr 0 1 ((b0.drop off).take z)]:=by simp
 have p:(M++[Obj.arr 0 1 []])[id]?=aa (.arr g 1 b0):=by rw[oA (fM.1 a).1];exact a
 rw[b];refine h.run rfl (λN=>N=ab) (λd r f c=>?_) (λh=>by cases h) (λ_=>?_) rfl;cases c with
 |q _ _ _ _ _ l e k j=>
  grind
 grind[ij,cJ,AV.isNil]
theorem anN:sx 118 Tryz.f118 (Tryz.f118.body.getD .skip) ⟨[0,2,4],[4],[],[(2,3)],[5],[]⟩ (pM []) 36 3 32 where
 hf:=Tryz.func118
 ok:=by kernel_rfl
 hb:=by kernel_rfl
 sh:=by kernel_rfl
 hA:=by decide
 un:=⟨93,by kernel_rfl⟩
 ops:=by kernel_rfl
 t0:=λ_ _ _ _=>by kernel_rfl
 t2:=λ_ _ _ _ _=>by kernel_rfl
 t3:=λ_ _ _ _ _=>by kernel_rfl
theorem Yo:sx 124 Tryz.f124 (Tryz.f124.body.getD .skip) ⟨[0,2,4],[4],[],[(2,1)],[5],[]⟩ (pM []) 31 1 8 where
 hf:=Tryz.func124
 ok:=by kernel_rfl
 hb:=by kernel_rfl
 sh:=by kernel_rfl
 hA:=by decide
 un:=⟨3,by kernel_rfl⟩
 ops:=by kernel_rfl
 t0:=λ_ _ _ _=>by kernel_rfl
 t2:=λ_ _ _ _ _=>by kernel_rfl
 t3:=λ_ _ _ _ _=>by kernel_rfl
theorem anO:sx 267 Tryz.f267 (Tryz.f267.body.getD .skip) ⟨[0,2,4],[4],[],[(2,1)],[5],[]⟩ (pM []) 122 1 16 where
 hf:=Tryz.func267
 ok:=by kernel_rfl
 hb:=by kernel_rfl
 sh:=by kernel_rfl
 hA:=by decide
 un:=⟨9,by kernel_rfl⟩
 ops:=by kernel_rfl
 t0:=λ_ _ _ _=>by kernel_rfl
 t2:=λ_ _ _ _ _=>by kernel_rfl
 t3:=λ_ _ _ _ _=>by kernel_rfl
theorem anP:sx 268 Tryz.f268 (Tryz.f268.body.getD .skip) ⟨[0,2,4],[4],[],[(2,2)],[5],[]⟩ (pM []) 128 2 16 where
 hf:=Tryz.func268
 ok:=by kernel_rfl
 hb:=by kernel_rfl
 sh:=by kernel_rfl
 hA:=by decide
 un:=by simp
 ops:=by kernel_rfl
 t0:=λ_ _ _ _=>by kernel_rfl
 t2:=λ_ _ _ _ _=>by kernel_rfl
 t3:=λ_ _ _ _ _=>by kernel_rfl
theorem anQ:sx 271 Tryz.f271 (Tryz.f271.body.getD .skip) ⟨[0,2,4],[4],[],[(2,4)],[5],[]⟩ (pM []) 85 4 48 where
 hf:=Tryz.func271
 ok:=by kernel_rfl
 hb:=by kernel_rfl
 sh:=by kernel_rfl
 hA:=by decide
 un:=by simp
 ops:=by kernel_rfl
 t0:=λ_ _ _ _=>by kernel_rfl
 t2:=λ_ _ _ _ _=>by kernel_rfl
 t3:=λ_ _ _ _ _=>by kernel_rfl
theorem anR:sx 272 Tryz.f272 (Tryz.f272.body.getD .skip) ⟨[0,2,4],[4],[],[(2,9)],[5],[]⟩ (pM []) 89 9 112 where
 hf:=Tryz.func272
 ok:=by kernel_rfl
 hb:=by kernel_rfl
 sh:=by kernel_rfl
 hA:=by decide
 un:=⟨87,by kernel_rfl⟩
 ops:=by kernel_rfl
 t0:=λ_ _ _ _=>by kernel_rfl
 t2:=λ_ _ _ _ _=>by kernel_rfl
 t3:=λ_ _ _ _ _=>by kernel_rfl
theorem anS:sx 30 Tryz.f30 (Tryz.f30.body.getD .skip) ⟨[0,2,4],[4],[],[(2,3)],[5],[]⟩ (pM []) 28 3 40 where
 hf:=Tryz.func30
 ok:=by kernel_rfl
 hb:=by kernel_rfl
 sh:=by kernel_rfl
 hA:=by decide
 un:=⟨38,by kernel_rfl⟩
 ops:=by kernel_rfl
 t0:=λ_ _ _ _=>by kernel_rfl
 t2:=λ_ _ _ _ _=>by kernel_rfl
 t3:=λ_ _ _ _ _=>by kernel_rfl
theorem Ap(b:Bool)(a:List Obj):C 30 [.sl b []] a (.q (Z a+1) 0 0 0) (a++[.arr 0 3 [],.arr 0 3 []]):=anS.nil b a
theorem anT(h:(U,N)∈wx)(b:Bool)(a:List Obj):jy aU G0 U [.sl b []] a (.q (Z a+1) 0 0 0) (a++[.arr 0 N [],.arr 0 N []]):=by
 simp only[wx,b5,eE,jM,or_false]at h;rcases h with⟨rfl,rfl⟩|⟨rfl,rfl⟩|⟨rfl,rfl⟩|⟨rfl,rfl⟩|⟨rfl,rfl⟩|⟨rfl,rfl⟩;exact anN.nil b a;exact Yo.nil b a;exact anO.nil b a;exact anP.nil b a;exact anQ.nil b a;exact anR.nil b a
open Go Go.Lib
theorem uD:aU.underlying 28=aa (.slice 38):=by kernel_rfl
def zF:Value:=.agg #[.int .i64 0,.slice ae 0 0,.int .i64 0]
theorem Yp:∃a,aU.info? 38=aa a/\a.size=3/\a.bytes=40/\a.zero=aa zF:=by
 have h:(aU.info? 38).map (λa=>(a.size,a.bytes,a.zero))=aa (3,40,aa zF):=by kernel_rfl
 simp_all
variable{rE:Program}
theorem Ig(w:World)(i t u elem:TypeId)(j:TypeInfo)(g c h n:Nat)(e:Addr)(l s f:Nat)(b:Array Value)(m:TypeId)(a:List Value)
 (B:rE.underlying i=aa (.slice elem))(v:rE.info? elem=aa j)
 (q:w.heap[g]?=aa (.cells b m (0,0)))(x:Nat.min l h=f)(z:Z a=f*j.size)
 (r:∀k d,a[k]?=aa d->w.cell? (e.add k)=aa d)(p:c+Z a<=b.size)(o:∀d∈a,d.oneCell'=ad):
 (Builtin.copy_ #[i,t] u #[.slice (aa ⟨g,c,ae⟩) h n,.slice (aa e) l s]).run rE w=
  .ok (goInt f) (w.setRow g ((bI b).take c++a++(bI b).drop (c+Z a)).toArray):=by
 have y:=run_loadCells_list (P:=rE) w e a r;have A:=run_storeCells_at rE g c m a 0 b w q (by simpa using p) o;simp_all[Builtin.copy_,run_underlying,Builtin.lenOf,Builtin.firstCells,sizeOf,typeInfo]
variable{e2:World}{bA:Value}
theorem Yq{w:World}{a:Option Addr}{cap:Nat}(c:∀g,(Builtin.append_ #[28,28] g #[.slice a U cap,.slice (aa ⟨N,0,ae⟩) 1 z]).run aU w=.ok bA e2)(l:U<=cap)(f:a=ae->cap=0):
 Calls aU 121 #[.slice a U cap,.int .i64 U,.slice (aa ⟨N,0,ae⟩) 1 z] w λe h=>e=.returned bA/\h=e2:=by
 have m:=run_underlying uD
 go_enter Tryz.func121,Tryz.ntmps121
 cases a with
 |none=>
  have b:=f rfl;subst b;have b:U=0:=by omega
  subst b
  go_wp2_with (at_builtin;refine Lib.wpList_append_run _ rfl _ _ _ _ rfl _ _ rfl rfl _ _ (c _) ?_)
  go_ret;simp
 |some d=>
  obtain⟨i,j,k⟩:=d
  go_wp2_with (at_builtin;refine Lib.wpList_append_run _ rfl _ _ _ _ rfl _ _ rfl rfl _ _ (c _) ?_)
  all_goals(go_ret;simp)
variable{eG:Array Value}
theorem Ew{w:World}(b:w.heap[U]?=aa (.cells eG u (0,0)))(a:Nat):w.cell? ⟨U,a,ae⟩=eG[a]?:=by
 simp[World.cell?,b]
set_option maxHeartbeats 4000000 in
theorem anU{w:World}{cap:Nat}{c:Array Value}{vs:List Value}(T:z<N)(ac:N+1<=cap)(X:N+1<=9223372036854775807)(r:dh≠U)
 (g:w.heap[U]?=aa (.cells eG u (0,0)))(am:cap*3<=eG.size)(O:∀K∈(bI eG).take (N*3),K.oneCell'=ad)
 (i:w.heap[dh]?=aa (.cells c cr (0,0)))(aj:(bI c).take 3=vs)(ai:Z vs=3)(x:∀o∈vs,o.oneCell'=ad):
 ∃a t:List Value,a=(bI eG).take ((z+1)*3)++((bI eG).take (N*3)).drop (z*3)++(bI eG).drop ((N+1)*3)/\t=a.take (z*3)++vs++a.drop (z*3+3)/\
 Calls aU 121 #[.slice (aa ⟨U,0,ae⟩) N cap,.int .i64 z,.slice (aa ⟨dh,0,ae⟩) 1 mH] w λf L=>
  f=.returned (.slice (aa ⟨U,0,ae⟩) (N+1) cap)/\L=(w.drew.setRow U a.toArray).setRow U t.toArray:=by
 refine⟨_,_,rfl,rfl,?_⟩;let⟨s,q,af,_,_⟩:=Yp;have az:=run_underlying uD;have au:¬((z:Int)=(N:Int)):=by omega
 have M:∀w,(Go.sizeOf 38).run aU w=.ok 3 w:=by simp
 have I:w.shape? dh=aa (cr,c.size):=by simp[World.shape?,i]
 have J:w.shape? U=aa (u,eG.size):=by simp[World.shape?,g]
 have G:∀l j m,(callFunc 180 #[.slice (aa ⟨dh,0,ae⟩) 1 mH,.slice (aa ⟨U,m,ae⟩) l j]).run aU w=.ok (.value (.bool ab)) w:=λl j m=>by
  rw[run_callFunc_extern Tryz.func180 (by kernel_rfl) (by kernel_rfl) (by kernel_rfl) (e:=Extern.SlicesOverlaps.overlaps #[28,28] #[4]) (by kernel_rfl),
   Lib.run_overlaps_apart w 28 4 38 uD 3 M ⟨dh,0,ae⟩ ⟨U,m,ae⟩ 1 mH l j r cr u c.size eG.size I J (by omega) (by simp[World.frozen?,i]) (by simp[World.frozen?,i])]
  rfl
 generalize E:((bI eG).take (N*3)).drop (z*3)=d;have B:Z d=(N -z)*3:=by rw[<-E];simp;omega
 have C:∀b dc n,(Builtin.copy_ #[28,28] b #[.slice (aa ⟨U,(z+1)*3,ae⟩) (N -z) dc,.slice (aa ⟨U,z*3,ae⟩) (N+1 -z) n]).run aU w.drew=.ok (goInt ((N -z:Nat):Int)) (w.drew.setRow U ((bI eG).take ((z+1)*3)++d++(bI eG).drop ((N+1)*3)).toArray):=λb dc n=>by
  have f:=Ig (rE:=aU) w.drew 28 28 b 38 s U ((z+1)*3) (N -z) dc ⟨U,z*3,ae⟩ (N+1 -z) n (N -z) eG u d uD q g (by grind) (by grind)
   (λk o F=>by
    rw[Addr.add_lit];rw[show w.drew.cell? ⟨U,z*3+k,ae⟩=eG[z*3+k]? from Ew (w:=w.drew) g _];grind)
   (by omega) (by grind)
  grind
 generalize H:(bI eG).take ((z+1)*3)++d++(bI eG).drop ((N+1)*3)=a at*;have Y:Z a=eG.size:=by rw[<-H];simp[B];omega
 have D:∀(W:World),W.heap=(w.drew.setRow U a.toArray).heap->∀b dc,(Builtin.copy_ #[28,28] b #[.slice (aa ⟨U,z*3,ae⟩) (N+1 -z) dc,.slice (aa ⟨dh,0,ae⟩) 1 mH]).run aU W=.ok (goInt ((1:Nat):Int)) (W.setRow U (a.take (z*3)++vs++a.drop (z*3+3)).toArray):=λW p b dc=>by
  have y:W.heap[U]?=aa (.cells a.toArray u (0,0)):=by rw[p];exact setRow_heap _ _ _ _ _ _ g
  have A:W.heap[dh]?=aa (.cells c cr (0,0)):=by rw[p,setRow_other _ _ _ _ (λh=>r h)];exact i
  have f:=Ig (rE:=aU) W 28 28 b 38 s U (z*3) (N+1 -z) dc ⟨dh,0,ae⟩ 1 mH 1 a.toArray u vs uD q y (by grind) (by omega)
   (λk o F=>by
    rw[Addr.add_lit,e,Ew A];grind)
   (by grind) x
  grind
 have ak:IntKind.i64.wrap ((z:Int)+(1:Int))=(z:Int)+(1:Int):=by rw[IntKind.wrap_i64];omega
 have P:(0:Int)<=(z:Int)+(1:Int):=by omega
 have V:z<=N:=by omega
 have ah:((z:Int)+(1:Int)).toNat=z+1:=by omega
 have Q:¬(cap=z+1):=by omega
 have R:(z:Int)<=(N:Int)+(1:Int):=by omega
 have S:¬(cap=z):=by omega
 go_enter Tryz.func121,Tryz.ntmps121
 go_wp2_with (simp only[G])
 have ax:aU.follows .mixedOrders=true:=by kernel_rfl
 go_region_law_o (refine step_copy_runI rfl _ _ 28 28 rfl _ _ (by simp[Act.eval,Act.put]) (by simp[Act.eval,Act.put]) (C _ _ _) ?_)
 go_wp2_with (at_builtin;refine wpList_copy_runI _ rfl _ _ 28 28 rfl _ _ rfl rfl (D _ rfl _ _) ?_)
 go_ret;simp
set_option maxHeartbeats 4000000 in
theorem anV{w:World}{cap:Nat}{o:Array Value}{vs:List Value}(a3:z<N)(a5:N<=cap)(ba:cap<N+1)(aE:(N+1)*40<=140737488355328)
 (q:w.heap[U]?=aa (.cells eG u (0,0)))(bv:N*3<=eG.size)(ak:∀ai∈(bI eG).take (N*3),ai.oneCell'=ad)
 (Y:w.heap[dh]?=aa (.cells o cr (0,0)))(bi:(bI o).take 3=vs)(ac:Z vs=3)(G:∀n∈vs,n.oneCell'=ad):
 ∃(d:Nat)(a b E:List Value),N+1<=d/\Z a=d*3/\a.take (z*3)=(bI eG).take (z*3)/\b=a.take (z*3)++vs++a.drop (z*3+3)/\E=b.take ((z+1)*3)++((bI eG).take (N*3)).drop (z*3)++b.drop ((N+1)*3)/\
 Calls aU 121 #[.slice (aa ⟨U,0,ae⟩) N cap,.int .i64 z,.slice (aa ⟨dh,0,ae⟩) 1 mH] w λg aj=>
  g=.returned (.slice (aa ⟨w.heap.size,0,ae⟩) (N+1) d)/\aj=(((w.drew.alloc (.cells a.toArray 38)).setRow w.heap.size b.toArray).drew).setRow w.heap.size E.toArray:=by
 let⟨k,t,X,aZ,cc⟩:=Yp;have co:=run_underlying uD;have aR:U<w.heap.size:=(kY.1 q).1;have bm:dh<w.heap.size:=(kY.1 Y).1;have T:(Builtin.firstCells k.size z (.slice (aa ⟨U,0,ae⟩) z cap)).run aU w.drew=.ok ((bI eG).take (z*3)).toArray w.drew:=by
  rw[X];exact run_firstCells_some w.drew 3 z ⟨U,0,ae⟩ z cap ((bI eG).take (z*3)) (by grind) (λaf n R=>by
   rw[Addr.add_lit,e,Ew (w:=w.drew) q];grind)
 have cl:aU.underlying 3=aa (.int .i64):=by kernel_rfl
 have S:(N:Int)+(1:Int) -(z:Int)=((N+1 -z:Nat):Int):=by omega
 have Q:z+(N+1 -z)=N+1:=by omega
 have A:∀c,(Builtin.append_ #[28,3] c #[.slice (aa ⟨U,0,ae⟩) z cap,.int .i64 ((N:Int)+(1:Int) -(z:Int))]).run aU w=
  .ok (.slice (aa ⟨w.heap.size,0,ae⟩) (N+1) (grownCap w (N+1) cap 38)) (w.drew.alloc (.cells (((bI eG).take (z*3)).toArray++Builtin.zeroCells zF.cells (N+1 -z)++Builtin.zeroCells zF.cells (grownCap w (N+1) cap 38 -(N+1))) 38)):=by grind[Lib.run_append_grow_zeros,uD,growslice_fits]
 have K:N+1<=grownCap w (N+1) cap 38:=grownCap_ge w _ _ _;have am:grownCap w (N+1) cap 38<=9223372036854775807:=by
  have:=grownCap_le_maxLen w (N+1) cap 38 (by unfold maxLen;omega);unfold maxLen at this;omega
 generalize J:grownCap w (N+1) cap 38=d at*;generalize i:(bI eG).take (z*3)++bI (Builtin.zeroCells zF.cells (N+1 -z))++bI (Builtin.zeroCells zF.cells (d -(N+1)))=a;have y:((bI eG).take (z*3)).toArray++Builtin.zeroCells zF.cells (N+1 -z)++Builtin.zeroCells zF.cells (d -(N+1))=a.toArray:=by
  rw[<-i];simp
 rw[y]at A;have B:∀l,(Builtin.zeroCells zF.cells l).size=l*3:=λl=>by rw[AT]<;>rfl
 have s:Z ((bI eG).take (z*3))=z*3:=by rw[hW,yQ];omega
 have v:Z a=d*3:=by rw[<-i];simp only[gy,s,yQ,B];omega
 have V:a.take (z*3)=(bI eG).take (z*3):=by rw[<-i,gY,ET (by omega),gP (by omega)]
 refine⟨d,a,_,_,K,v,V,rfl,rfl,?_⟩;generalize r:((bI eG).take (N*3)).drop (z*3)=j;have L:Z j=(N -z)*3:=by rw[<-r];simp;omega
 have p:∀(W:World),W.heap=(w.drew.alloc (.cells a.toArray 38)).heap->W.heap[w.heap.size]?=aa (.cells a.toArray 38 (0,0))/\W.heap[U]?=aa (.cells eG u (0,0))/\W.heap[dh]?=aa (.cells o cr (0,0)):=λW f=>by
  rw[f];refine⟨heap_alloc_new w.drew _,?_,?_⟩;show(w.heap.push _)[U]?=_;grind;show(w.heap.push _)[dh]?=_;grind
 have M:∀(W:World),W.heap=(w.drew.alloc (.cells a.toArray 38)).heap->∀c dc,(Builtin.copy_ #[28,28] c #[.slice (aa ⟨w.heap.size,z*3,ae⟩) (N+1 -z) dc,.slice (aa ⟨dh,0,ae⟩) 1 mH]).run aU W=.ok (goInt ((1:Nat):Int)) (W.setRow w.heap.size (a.take (z*3)++vs++a.drop (z*3+3)).toArray):=λW f c dc=>by
  let⟨m,D,C⟩:=p W f;have g:=Ig (rE:=aU) W 28 28 c 38 k w.heap.size (z*3) (N+1 -z) dc ⟨dh,0,ae⟩ 1 mH 1 a.toArray 38 vs uD t m (by grind) (by omega)
   (λaf n R=>by
    rw[Addr.add_lit,e,Ew C];grind)
   (by grind) G
  grind
 generalize x:a.take (z*3)++vs++a.drop (z*3+3)=b at*;have a9:Z b=d*3:=by rw[<-x];simp[v,ac];omega
 have O:∀(W:World),W.heap=((w.drew.alloc (.cells a.toArray 38)).setRow w.heap.size b.toArray).heap->∀c dc h,(Builtin.copy_ #[28,28] c #[.slice (aa ⟨w.heap.size,(z+1)*3,ae⟩) (N -z) dc,.slice (aa ⟨U,z*3,ae⟩) (N -z) h]).run aU W=.ok (goInt ((N -z:Nat):Int)) (W.setRow w.heap.size (b.take ((z+1)*3)++j++b.drop ((N+1)*3)).toArray):=λW f c dc h=>by
  let⟨m,D,C⟩:=p _ rfl;have ah:W.heap[w.heap.size]?=aa (.cells b.toArray 38 (0,0)):=by rw[f];exact setRow_heap _ _ _ _ _ _ m
  have ce:W.heap[U]?=aa (.cells eG u (0,0)):=by rw[f,setRow_other _ _ _ _ (by omega)];exact D
  have g:=Ig (rE:=aU) W 28 28 c 38 k w.heap.size ((z+1)*3) (N -z) dc ⟨U,z*3,ae⟩ (N -z) h (N -z) b.toArray 38 j uD t ah (by grind) (by grind)
   (by grind[Addr.add_lit,Ew])
   (by grind) (by grind)
  rw[L,show(z+1)*3+(N -z)*3=(N+1)*3 by omega]at g;exact g
 have bD:¬((z:Int)=(N:Int)):=by omega
 have ca:(cap:Int)<(N:Int)+(1:Int):=by omega
 have au:¬(d=z):=by omega
 have ax:¬(d=z+1):=by omega
 have a0:¬(cap=z):=by omega
 have br:IntKind.i64.wrap ((z:Int)+(1:Int))=(z:Int)+(1:Int):=by rw[IntKind.wrap_i64];omega
 have az:(0:Int)<=(z:Int)+(1:Int):=by omega
 have a4:z<=N:=by omega
 have be:((z:Int)+(1:Int)).toNat=z+1:=by omega
 have aA:(z:Int)<=(N:Int):=by omega
 have ci:aU.follows .mixedOrders=true:=by kernel_rfl
 clear S Q T J i x y B s r
 go_enter Tryz.func121,Tryz.ntmps121
 have H:((w.alloc (.cells a.toArray 38)).drew).heap=(w.drew.alloc (.cells a.toArray 38)).heap:=rfl;have I:((((w.alloc (.cells a.toArray 38)).drew).setRow w.heap.size b.toArray).drew).heap=((w.drew.alloc (.cells a.toArray 38)).setRow w.heap.size b.toArray).heap:=rfl;have a2:=λc dc=>M _ H c dc;have P:=λc dc h=>O _ I c dc h
 go_wp2_with (at_builtin;refine Lib.wpList_append_run _ rfl _ _ _ _ rfl _ _ rfl rfl _ _ (A _) ?_)
 go_region_law_o (refine step_copy_runI rfl _ _ 28 28 rfl _ _ (by simp[Act.eval,Act.put]) (by simp[Act.eval,Act.put]) (P _ _ _) ?_)
 go_wp2
 go_ret;exact⟨rfl,by rw[gY]<;>rfl⟩
variable{hK:List Value}
theorem anW{vs a T b d:List Value}(g:Z hK=U)(j:Z vs=3)(h:Z a=N)(c:List Value)(i:Z c=3)(e:b=(hK++c)++a++T)(f:d=b.take U++vs++b.drop (U+3)):d=hK++vs++a++T:=by
 grind
variable{gA:ar}
theorem Yr{d vs:List Value}(c:∀b∈b0,Z b=3)(s:U<=Z b0)(q:Z b0*3<=Z hK)(k:Fr Y gA)(g:Good Y)
 (n:RL Y b0.flatten (hK.take (Z b0*3)))(l:∀a∈hK.take (Z b0*3),a.oneCell'=ad)(p:Z bE=3)(o:RL Y bE vs)(m:∀a∈vs,a.oneCell'=ad)(f:d.take ((Z b0+1)*3)=hK.take (U*3)++vs++(hK.take (Z b0*3)).drop (U*3)):
 (∀b∈b0.take U++bE::b0.drop U,Z b=3)/\RL gA (b0.take U++bE::b0.drop U).flatten (d.take (Z (b0.take U++bE::b0.drop U)*3))/\∀a∈d.take (Z (b0.take U++bE::b0.drop U)*3),a.oneCell'=true:=by
 have e:Z (b0.take U++bE::b0.drop U)=Z b0+1:=by simp;omega
 rw[e,f];have h:(b0.take U).flatten=b0.flatten.take (U*3):=by
  have:=uT 0 U c;simpa using this
 have i:(b0.drop U).flatten=b0.flatten.drop (U*3):=by
  have:=uT U (Z b0 -U) c;rw[gP (by simp)]at this;rw[this,gP];rw[q5,Fg c];omega
 have j:hK.take (U*3)=(hK.take (Z b0*3)).take (U*3):=by rw[Ox];congr 1;omega
 refine⟨λb r=>?_,?_,λa c=>?_⟩;grind;grind[List.flatten_append,List.flatten_cons,List.append_assoc,RL.append,RL.mono,RL.take,RL.drop];grind
theorem Ys{id g:Nat}{a:List (List AV)}{cap:Nat}(i:Good Y)(f:Y.H[id]?=aa (.arr g 3 b0))(G:Z a=U)(x:c0 Y.w e2 (λN=>∃B,Y.h id=aa (N,B)))(e:e2.heap[N]?=aa (.cells hK.toArray u (0,0)))
 (J:(∃C,Y.h id=aa (N,C))\/Y.w.heap.size<=N)(p:U<=cap)(F:cap*3<=Z hK)(v:bA=.slice (aa ⟨N,0,ae⟩) U cap)
 (t:∀d:ar,Fr Y d->(∀j∈a,Z j=3)/\RL d a.flatten (hK.take (Z a*3))/\∀A∈hK.take (Z a*3),A.oneCell'=ad):
 CS Y (Y.H.set id (.arr (g+1) 3 a)) (.q id (g+1) 0 U) (.returned bA) e2:=by
 have r:=(fM.1 f).1;have I:=(kY.1 e).1;let⟨b,n⟩:=ar.sV i x f (j:=.arr (g+1) 3 a) (e:=aa (N,Z hK)) (by simp[hM])
  (by grind)
  (λb=>by
   let⟨o,D,E⟩:=t _ b;refine⟨o,by grind[ar.bW]⟩)
 refine⟨_,rfl,b,n,rfl,?_⟩;have s:(Y.bW e2 id (.arr (g+1) 3 a) (aa (N,Z hK))).H[id]?=aa (.arr (g+1) 3 a):=by simp[ar.bW,r]
 refine .q id (g+1) 0 _ bA (by grind) (by grind) (λL y z c=>?_) λy z c=>?_;grind;rw[s]at c;injection c with k;injection k with _ l m;subst l;subst m;exact⟨_,cap,v,p,by omega,.inr ⟨N,Z hK,by simp[ar.bW],by simp,by omega⟩⟩
theorem Yt:CO aU 121:=⟨Tryz.f121,Tryz.f121.body.getD .skip,Tryz.func121,by kernel_rfl,by kernel_rfl⟩
theorem Yu:qE aU 28=aa (3,[.int .i64 0,.aq,.int .i64 0],40):=by kernel_rfl
theorem Yv(g:Good Y)(e:Y.H[U]?=aa (.arr 0 3 [bE]))(h:R Y (.q U 0 0 1) bA):
 ∃b d a c,bA=.slice (aa ⟨b,0,ae⟩) 1 d/\Y.h U=aa (b,a.size)/\Y.w.heap[b]?=aa (.cells a c (0,0))/\Z bE=3/\Z ((bI a).take 3)=3/\RL Y bE ((bI a).take 3)/\∀j∈(bI a).take 3,j.oneCell'=true:=by
 let⟨i,f⟩:=g.gI U _ e;have r:=i bE (by simp);rcases f with⟨h,-⟩|⟨b,a,c,l,m,n,o,p⟩;cases h
 cases h with
 |q _ _ _ _ _ _ k s h=>
  grind
theorem Yw{id g:Nat}(n:M[id]?=aa (.arr g 3 b0))(ce:Z b0=N)(ak:M[U]?=aa (.arr 0 3 [bE]))(cl:id≠U)(af:z<=N)(a9:(N+1)*40<=2^47):
 jy aU G0 121 [.q id g 0 N,.int .i64 z,.q U 0 0 1] M (.q id (g+1) 0 (N+1)) (M.set id (.arr (g+1) 3 (b0.take z++bE::b0.drop z))):=by
 refine⟨Yt,λa el gd eq a0 a2 S=>?_⟩;subst a0;obtain⟨r,Q,rfl,I,T⟩:∃r Q,el=[r,.int .i64 z,Q]/\R a (.q id g 0 N) r/\R a (.q U 0 0 1) Q:=by
  cases a2 with
  |cons _ aR _ _ A o=>cases o with
   |cons _ b _ _ G o=>cases o with
    |cons _ em _ _ eo o=>cases o with
     |nil=>cases G;grind
 obtain⟨az,k,aA,fd,rfl,br,X,Y,d,V,B⟩:=Yv gd ak T;have cs:=(gd.gI id _ n).2;have aj:=(gd.gI id _ n).1;by_cases bv:z=N;subst bv;have d8:St a {env:=[],bx:=[],hp:=a.H} (#[]:Array Value):=⟨gd,rfl,by grind[look],by grind[look]⟩;have a4:cJ 3 40 (.q id g 0 z) (.q U 0 0 1) a.H=aa (.q id (g+1) 0 (z+1),a.H.set id (.arr (g+1) 3 (b0.take z++[bE]))):=by
  have d4:ij a.H 3 (.q U 0 0 1)=aa [bE]:=by simp[ij,ak]
  simp only[cJ,d4,AV.isNil,eZ,if_false,n];rw[if_pos ⟨trivial,by omega,trivial,by simpa using a9⟩];rfl
 let⟨be,_,_,_⟩:=Km (L:={env:=[],bx:=[],hp:=a.H}) Yu (by decide) a4;have d2:=λp=>Ju (s:=⟨#[],[]⟩) (kj:=p) d8 (.inl I) (.inl T) (cr:=28) (by simp_all[qq]) be;have bi:b0.drop z=[]:=by grind
 have L:∃u cap,r=.slice u z cap/\z<=cap/\(u=ae->cap=0):=by
  cases I with
  |q _ _ _ _ _ _ A bm h=>
   grind
 obtain⟨u,cap,rfl,ca,co⟩:=L;let⟨d9,t,dl,a3,ax,m⟩:=d2 28;have C:∀p,(Builtin.append_ #[28,28] p #[.slice u z cap,.slice (aa ⟨az,0,ae⟩) 1 k]).run aU a.w=.ok d9 t.w:=λp=>dl;apply(Yq C ca co).mono;rintro v aE ⟨rfl,rfl⟩;refine⟨t,rfl,m,ax.bM,?_,a3⟩;rw[bi];exact ax.hp.symm;have ah:z<N:=by omega
 rcases cs with⟨h,-⟩|⟨b,c,y,O,P,d6,am,D⟩;grind;have L:∃cap,r=.slice (aa ⟨b,0,ae⟩) N cap/\N<=cap/\cap*3<=c.size:=by
  cases I with
  |q _ _ _ _ _ _ A bm h=>
   grind
 obtain⟨cap,rfl,ci,ba⟩:=L;have d3:az≠b:=λv=>cl (gd.jY id U b _ _ O (v▸br));subst ce;have ac:Z (b0.take z++bE::b0.drop z)=Z b0+1:=by simp;omega
 have K:Z b0*3<=Z (bI c):=by simpa using d6
 have e:Z ((bI c).take (z*3))=z*3:=by rw[hW];omega
 have f:Z (((bI c).take (Z b0*3)).drop (z*3))=(Z b0 -z)*3:=by rw[q5,hW];omega
 by_cases ai:Z b0+1<=cap;let⟨i,j,x,l,J⟩:=anU (w:=a.w) (z:=z) (mH:=k) ah ai (by omega) d3 P ba D X rfl d B;have C:j=(bI c).take (z*3)++(bI aA).take 3++((bI c).take (Z b0*3)).drop (z*3)++(bI c).drop ((Z b0+1)*3):=by
  refine anW e d f (((bI c).drop (z*3)).take 3) (by grind) ?_ l;rw[x]
  congr 2
  grind
 have d1:Z j=c.size:=by rw[C];simp only[gy,e,d,f,q5,yQ];simp at K;omega
 apply J.mono;rintro v aE ⟨rfl,rfl⟩;have a5:(a.w.drew.setRow b i.toArray).heap[b]?=aa (.cells i.toArray y (0,0)):=setRow_heap _ _ _ _ _ _ P;refine Ys (hK:=j) (u:=y) (N:=b) (cap:=cap) gd n ac ?_ (setRow_heap _ _ _ _ _ _ a5) (.inl ⟨_,O⟩) ai (by omega) rfl ?_;exact((c0.drew _ _).trans (by grind[c0.setRow])).trans (c0.setRow _ _ _ _ ⟨_,O⟩);intro t m;apply Yr (hK:=bI c) aj af K m gd am D Y V B
 rw[C,ET (by simp only[gy,e,d,f];omega),gP (by simp only[gy,e,d,f];omega)];let⟨F,E,i,j,S,c1,c2,x,l,J⟩:=anV (w:=a.w) (z:=z) (mH:=k) ah ci (by omega) (by omega) P (by omega) D X rfl d B;have ds:Z i=F*3:=by rw[x];simp only[gy,hW,q5,c1,d]at*;omega
 have d0:i.take ((z+1)*3)=(bI c).take (z*3)++(bI aA).take 3:=by
  rw[x,c2,ET (by simp only[gy,e,d];omega),gP (by simp only[gy,e,d];omega)]
 rw[d0]at l;have d1:Z j=F*3:=by rw[l];simp only[gy,e,d,f,q5,ds];omega
 apply J.mono;rintro v aE ⟨rfl,rfl⟩;have A:(a.w.drew.alloc (.cells E.toArray 38)).heap[a.w.heap.size]?=aa (.cells E.toArray 38 (0,0)):=heap_alloc_new a.w.drew _;have G:=setRow_heap (a.w.drew.alloc (.cells E.toArray 38)) a.w.heap.size _ i.toArray _ _ A;refine Ys (hK:=j) (u:=38) (N:=a.w.heap.size) (cap:=F) gd n ac ?_ (setRow_heap _ _ _ _ _ _ G) (.inr (c5 _)) S (by omega) rfl ?_
 have d7:c0 a.w (a.w.drew.alloc (.cells E.toArray 38)) (λb=>∃s,a.h id=aa (b,s)):=(c0.drew _ _).trans (c0.alloc _ _ _);have au:∀(W:World)(rr:Array Value),c0 a.w W (λb=>∃s,a.h id=aa (b,s))->c0 a.w (W.setRow a.w.heap.size rr) (λb=>∃s,a.h id=aa (b,s)):=λW rr h=>
  ⟨h.os,h.output,h.tape,iP h.size (by simp),λd5 bD cc=>by rw[setRow_other _ _ _ _ (by omega)];exact h.block d5 bD cc⟩
 exact au _ _ ((au _ _ d7).trans (c0.drew _ _));intro t m;apply Yr (hK:=bI c) aj af K m gd am D Y V B;rw[l,ET (by simp only[gy,e,d,f];omega),gP (by simp only[gy,e,d,f];omega)]
theorem Yx(g:M[U]?=aa (.arr 0 3 [bE])):
 jy aU G0 121 [.aq,.int .i64 0,.q U 0 0 1] M (.q (Z M) 0 0 1) (M++[.arr 0 3 [bE]]):=by
 refine⟨Yt,λa z gd K n o G=>?_⟩;subst n;obtain⟨d,rfl,f⟩:∃d,z=[.slice ae 0 0,.int .i64 0,d]/\R a (.q U 0 0 1) d:=by
  cases o with
  |cons _ i _ _ l b=>cases b with
   |cons _ B _ _ m b=>cases b with
    |cons _ C _ _ F b=>cases b with
     |nil=>cases l;cases m;grind
 obtain⟨A,j,S,T,rfl,N,J,L,O,I,E⟩:=Yv gd g f;have x:St a {env:=[],bx:=[],hp:=a.H} (#[]:Array Value):=⟨gd,rfl,by grind[look],by grind[look]⟩;have r:cJ 3 40 .aq (.q U 0 0 1) a.H=aa (.q (Z a.H) 0 0 1,a.H++[.arr 0 3 [bE]]):=by
  have v:ij a.H 3 (.q U 0 0 1)=aa [bE]:=by simp[ij,g]
  simp only[cJ,v,AV.isNil,if_true];rfl
 let⟨s,_,_,_⟩:=Km (L:={env:=[],bx:=[],hp:=a.H}) Yu (by decide) r;let⟨y,e,t,p,h,k⟩:=Ju (s:=⟨#[],[]⟩) (kj:=28) x (.inl R.aq) (.inl f) (cr:=28) (by simp_all[qq]) s;have u:∀c,(Builtin.append_ #[28,28] c #[.slice ae 0 0,.slice (aa ⟨A,0,ae⟩) 1 j]).run aU a.w=.ok y e.w:=λc=>t;have:=Yq u (c5 _) (λ_=>rfl);apply this.mono;rintro D V ⟨rfl,rfl⟩;exact⟨e,rfl,k,h.bM,h.hp.symm,p⟩
theorem tA.cl{W:List AV}(h:tA E k W):dS 1 E=aa [E]:=by
 rcases h with⟨a,rfl,-⟩|⟨id,rfl,-⟩<;>rfl
theorem vx.e0(a:D)(r:aD):vx a r [] e0:=⟨rfl,rfl,by simp[AM.e0]⟩
theorem Yy{ev:AV}{r:aD}{t:Nat->Nat->List AV}(a4:Es V r X aP)(aj:lR r)(L:tA E k (cW T F bC c6 V X))
 (a3:ev.pl=ev)(a0:dS 1 ev=aa [ev])(aR:∀b a,lK ev [.agg (cM b a)]=aa (U,t b a))(aZ:∀b a,(t b a).map AV.pl=t b a)(q:K->bb->K)(n:K)
 (a2:∀b a pre N ba,ik V X r=pre++N::ba->pn C U (t b a) b a rB bn N (pre.foldl q n) (q (pre.foldl q n) N))
 (ai:rB n hG)(aA:Holds M (hG++(k++(bn++js)))):
 HR C 97 [E,.agg (aS iB r),ev] M (λ_ P=>∃g,rB ((ik V X r).foldl q n) g/\Holds P (g++(k++(bn++js)))):=by
 refine Sl.hq ?_ (by simp[L.pl,a3]);have a9:∀(W:List AV),[W][0]?=aa W:=λ_=>rfl;refine aY (obO_1 L.cl) (aY (Al rfl rfl) (aY (obO_1 a0) ?_));have p:=((aA.alloc (.arr 0 1 [[E]])).alloc (.arr 0 9 [aS iB r])).alloc (.arr 0 1 [[ev]]);simp only[gy,jW]at p⊢;generalize(M++[Obj.arr 0 1 [[E]]]++[.arr 0 9 [aS iB r]]++[.arr 0 1 [[ev]]])=i at*;generalize Z M+1+1=f at*;generalize Z M+1=c at*
 generalize Z M=e at*;have ac:=p.get (U:=c) (hL:=.arr 0 9 [aS iB r]) (by simp);refine aI (mi ac rfl rfl) ?_;have aE:∀z:AV->Prop,z (pZ (ord r.ah []))->cp C 158 [.agg (aS iB r),.aq] i z:=λz j=>by
  refine⟨.df,[.agg (aS iB r),eS ab cS []],pZ (ord r.ah []),by decide,?_,UW r [] aj (by simp),by simp,j⟩;exact .ck eu (.ck (.aq _ _) (.nil _))
 apply aE _;rcases J:ord r.ah []with _|o;have ak:ik V X r=[]:=by rw[ik,J]
 simp only[pZ,fH,de,eF,O];apply aY rfl;have m:=p.alloc (.arr 0 1 [[.aq]]);have u:=m.get (U:=Z i) (hL:=.arr 0 1 [[.aq]]) (by simp);apply aI (lE u rfl (by decide) rfl rfl);have w:=m.set (.arr 0 1 [[AV.aq].set 0 (eS ab cN [])]);simp only[cx,O];refine a8 ⟨hG,by rw[ak];exact ai,?_⟩ (by decide);exact w.tail.tail.tail.tail;have ak:ik V X r=kQ V X r.ah o e0:=DU J;let⟨a5,ca⟩:=Hn J;simp only[pZ,fH,de,eF,O]
 apply aY rfl;have m:=p.alloc (.arr 0 1 [[.aq]]);have u:=m.get (U:=Z i) (hL:=.arr 0 1 [[.aq]]) (by simp);apply aI (lE u rfl (by decide) rfl rfl);have w:=m.set (.arr 0 1 [[AV.aq].set 0 (eS ab cN o)]);simp only[cx,O];refine bz ?_ (by decide);have bD:Z ((i++[Obj.arr 0 1 [[AV.aq]]]).set (Z i) (.arr 0 1 [[AV.aq].set 0 (eS ab cN o)]))=Z i+1:=by simp
 generalize(i++[Obj.arr 0 1 [[AV.aq]]]).set (Z i) (.arr 0 1 [[AV.aq].set 0 (eS ab cN o)])=y at*;generalize Z i=d at*;clear m u p ac;have A:=(w.alloc (.mp ad [] [])).alloc (.mp ad [] []);simp only[e3,gy,jW]at A⊢;generalize y++[Obj.mp ad [] []]++[.mp ad [] []]=s at*;generalize Z y+1=a at*;generalize Z y=b at*;refine aI (dR:=cM b a) rfl (aY rfl ?_);have B:=A.alloc (.arr 0 2 [[.oO,.oO]])
 have Y:=B.get (U:=Z s) (hL:=.arr 0 2 [[.oO,.oO]]) (by simp);apply aI (stO_9 Y rfl rfl rfl);have af:=B.set (.arr 0 2 [cM b a]);generalize(s++[Obj.arr 0 2 [[AV.oO,AV.oO]]]).set (Z s) (.arr 0 2 [cM b a])=l at*;generalize Z s=i16 at*;clear B Y A w;apply aY rfl;have G:=af.alloc (.arr 0 1 [[.fN]]);have v:=G.get (U:=Z l) (hL:=.arr 0 1 [[.fN]]) (by simp);simp only[zm]
 apply aI (lE v rfl (by decide) rfl rfl);have H:=G.set (.arr 0 1 [[AV.fN].set 0 (.fn 163 [] (xd e c f d i16 (Z l)))]);simp only[xd]at H;generalize(l++[Obj.arr 0 1 [[AV.fN]]]).set (Z l) (.arr 0 1 [[AV.fN].set 0 (.fn 163 [] [.ptr d 0 0 0,.ptr f 0 0 0,.ptr i16 0 0 0,.ptr e 0 0 0,.ptr c 0 0 0,.ptr (Z l) 0 0 0])])=Q at*;generalize Z l=h at*;clear G v af
 have v:=H.get (U:=h) (hL:=.arr 0 1 [[AV.fN].set 0 (.fn 163 [] [.ptr d 0 0 0,.ptr f 0 0 0,.ptr i16 0 0 0,.ptr e 0 0 0,.ptr c 0 0 0,.ptr h 0 0 0])]) (by simp);refine aI (dR:=.fn 163 [] (xd e c f d i16 h)) (by rw[cY v (a9 _)]<;>rfl) ?_;apply aY (dR:=163) (oK:=I ((0:Nat):Int)::xd e c f d i16 h) rfl
 have ax:=am3 (α:=K) (mv:=b) (me:=a) (i3:=e) (i4:=c) (i5:=f) (i10:=d) (i16:=i16) (i18:=h) (Xe:=bn) (A:=rB) a4 L (aR b a) (aZ b a) q (ik V X r) n (a2 b a) (by have:=aj.1;grind) iB a5 [] e0 [] [] rfl ⟨rfl,rfl,by simp[e0],vx.e0 V r⟩ (by grind);have am:∀{x g:aL},(x++(kV e c f d i16 h b a E ev iB r o++(g++(k++(bn++js))))).Perm (x++(g++((k++(kV e c f d i16 h b a E ev iB r o++bn))++js))):=by
  intro x g;apply l6 _;rw[gY k,gY (kV e c f d i16 h b a E ev iB r o)];exact(qn _ g _).trans ((qn _ k _).append_left g)
 have az:Holds Q (eY b a ad ad e0 [] (λ_=>0)++(kV e c f d i16 h b a E ev iB r o++(hG++(k++(bn++js))))):=by
  apply H.perm;apply(qn [_,_] [_,_] _).trans;exact(List.Perm.swap _ _ _)
 apply c7 (ax hG [] (λ_=>0) ad ad js Q ⟨xt,by simp[e0]⟩ ai (az.perm am)) rfl;rintro cc P ⟨g,be,br,bm,bi,-,bv,au⟩;refine⟨g,?_,?_⟩;grind;exact(au.perm am.symm).sub.sub
structure Ng(p:D)(r:aD)(e:bb):Prop where
 len:Z e.bF=Z e.aA
 af:Sm r.af
 aw:r.aj.ax=2\/r.aj.ax=3->r.aj.aE∈e.aw
 kinds:0<=r.aj.ax/\r.aj.ax<=3
 fn:r.aj.ax=3->∃a:Nat,∃h:a<Z p.aO,r.aj.aR=a/\∃x:Nat,jS e r.aj.aE=x/\x<Z p.aO[a].gQ
theorem anX{j:Bool}(g:D)(t:List S)(r:aD)(a:bb)(e:List d)(f:d->Int)(h:Ng g r a)(u:lZ a e f):
 PR C 99 [.aH T (cW F bC c6 iB g t) 0,.agg (aS j r),.agg (mu a e f)] (.agg (cF ab (kO g r a))):=by
 apply afF.pr;have J:j0 2 (.agg (mu a e f))=aa (.aH ab (mu a e f) 0):=rfl;have K:∀w,aQ 2 ad (.aH ab (mu a e f) 0) w=aa (.agg (mu a e f)):=λ_=>rfl;have M:(mu a e f)[0+1]?=aa (.ih (iU e) (e.map λc=>I (f c))):=rfl;have N:(aS j r)[0+1]?=aa (I r.ai):=rfl;have U:(aS j r)[0+2]?=aa (eS j cT r.af):=rfl;have P:(aS j r)[0+3+0]?=aa (I r.aj.ax):=rfl;have Q:(aS j r)[0+3+2]?=aa (.str r.aj.aE):=rfl
 have R:(aS j r)[0+3+3]?=aa (I r.aj.aR):=rfl;have w1:(cW F bC c6 iB g t)[0+0+1]?=aa (eS F (cg F) g.aO):=rfl;have E:ma [I 0,.aq,I 0] [(0,1,I r.ai),(1,1,eS ab cV (j4 a r.af)),(2,1,I (-1))]=aa [I r.ai,eS ab cV (j4 a r.af),I (-1)]:=rfl;have s:∀c:Int,dS 3 (.agg [I r.ai,eS ab cV (j4 a r.af),I c])=aa [I r.ai,eS ab cV (j4 a r.af),I c]:=λ_=>rfl;have x:∀c:Int,nu (I c)=aa (I c):=λ_=>rfl
 have B:∀c:Int,c=sg g r a->aM [] .res (AV.pl (.agg [I r.ai,eS ab cV (j4 a r.af),I c])) (.agg (cF ab (kO g r a))):=λc n=>by
  subst n;exact eu
 simp only[J,o2,K,O,bj,aK,N,U];refine⟨.df,_,_,by decide,.ck (XS a e f _) (.ck eu (.nil _)),XT a e f r.af h.len h.af,(λa=>by cases a),?_⟩;simp only[E,s,bw,bj,aK,P,Q,R,M,yB,w1,O,di,G,i];refine b (λl=>?_) (λl=>b (λm=>?_) (λm=>b (λk=>?_) (λk=>?_)));have l:r.aj.ax=1:=by simpa using l
 simp only[x,s,O,G,i];exact B _ (by rw[sg,if_pos l]);have m:r.aj.ax=2:=by simpa using m
 let⟨o,p⟩:=u.aN _ (h.aw (.inl m));rw[MS (E:=.ih (iU e) (e.map λc=>I (f c))) rfl o,p];simp_all[sg];have k:r.aj.ax=3:=by simpa using k
 let⟨o,p⟩:=u.aN _ (h.aw (.inr k));let⟨q,H,y,c,z,n⟩:=h.fn k;have A:(cg F g.aO[q])[0+5]?=aa (eS F cI g.aO[q].gQ):=rfl;have V:∀v:Int,(cI v)[0]?=aa (I v):=λ_=>rfl;rw[MS (E:=.ih (iU e) (e.map λc=>I (f c))) rfl o,p,y,aF H (sZ _ _)];simp only[O,bj,aK,A];rw[z,aF n (jf _)];simp_all[sg];grind[sg]
structure xj(C:fq):Prop where
 anY:∀{v:AV}{fs:List S}{P F:aL}{H:List Obj}{id:Nat}(i:Nat)(f:S),bB v (cF ab) 3 fs P->Holds H ((id,.arr 0 3 [cF ab f])::(P++F))->i<=Z fs->Z fs<1099511627776->
  HR C 121 [v,I (i:Int),.q id 0 0 1] H (λr H'=>∃P',bB r (cF ab) 3 (fs.take i++f::fs.drop i) P'/\Holds H' (P'++F))
def sy(g:Nat)(e:Bool)(a:D)(f:List S)(d:aL):Prop:=
 ∃c b,bB c (cF ab) 3 f b/\d=(g,.arr 0 5 [[eS ab (bo ab) a.aw,eS ab (cg ab) a.aO,eS ab (bO ab) a.Q,eS e (aS ab) a.ak,c]])::b
theorem bB.ow(h:bB E (cF ab) 3 X k)(a:Holds M (k++bn)):aM M .cb E (eS ad (cF ab) X):=by
 rcases h with⟨rfl,rfl,rfl⟩|⟨id,g,rfl,rfl⟩;exact .aq _ _;exact o7 (U:=3) (a.get (by simp)) (by simp)
theorem sy.ow(h:sy U T V X k)(a:Holds M (k++bn)):aM M .cb (.ptr U 0 0 0) (.aH ad (cW ab T ad ab V X) 0):=by
 obtain⟨b,c,e,rfl⟩:=h;refine .oU U 0 0 0 5 [[eS ab (bo ab) V.aw,eS ab (cg ab) V.aO,eS ab (bO ab) V.Q,eS T (aS ab) V.ak,b]] [eS ab (bo ab) V.aw,eS ab (cg ab) V.aO,eS ab (bO ab) V.Q,eS T (aS ab) V.ak,b] (cW ab T ad ab V X) (a.get (by simp)) rfl ?_;have d:Holds M (c++bn):=a.tail;exact .ck eu (.ck eu (.ck eu (.ck eu (.ck (e.ow d) (.nil _)))))
end AM
end Go
