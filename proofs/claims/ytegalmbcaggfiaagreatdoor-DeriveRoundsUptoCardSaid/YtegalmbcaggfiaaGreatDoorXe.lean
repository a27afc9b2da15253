/- The law DeriveRoundsUptoCardSaid: part 5 of 14 of the proof. No condition. -/
import Derived.Test.YtegalmbcaggfiaaGreatDoorXd
import Derived.Shelf.Spec.SlicesInsertGrow
set_option maxRecDepth 100000
open List renaming length->Z,range->ay,map->Ra,replicate->dh,getElem_inj->ar8,getElem_set->ar9,map_const'->O0,map_singleton->Jj,perm_middle->asb
open Option renaming some->aa,none->ae,map_none->CH
open Bool renaming true->ad,false->ab
open Decidable renaming decide->y,not_not->avL
open Array renaming toList->bJ
open Int renaming ofNat->b4
open Go.Proofs.Tryz renaming prog->aU
open List.Pairwise renaming imp->avM
open List.Perm renaming append_left->l7
open Nat renaming min_le_left->aba
namespace Go
namespace AM
open Go.Law
def eh(a:Lit):List AV:=[I a.ax,.str a.au,I a.ah,eS ab cT a.af,.str a.bind,.str a.aj,I a.iG,I a.op,I a.bb]
def As(b:D)(a:Lit)(h:aL)(f j k:Nat)(i:List (List AV))(l:AV)(g:List Obj):Prop:=∃d c e,l=I d/\(d=0<->hS b a=ad)/\(hS b a=ad->kc a c e=iu b a)/\Holds g ((f,.arr j 9 (i.set k (eh (kc a c e))))::h)
variable{f ca:Int}
section
variable{P:D}{l:Lit}{X:aL}{B gB j:Nat}{es:List (List AV)}{H':List Obj}
theorem As.mk(b a c:Int)(d:b=0<->hS P l=ad)(e:hS P l=ad->kc l a c=iu P l)(h:Holds H' ((B,.arr gB 9 (es.set j (eh (kc l a c))))::X)):As P l X B gB j es (I b) H':=⟨b,a,c,rfl,d,e,h⟩
theorem As.bad(a:Int)(h:Holds H' ((B,.arr gB 9 (es.set j (eh (kc l f ca))))::X))(b:a≠0)(c:hS P l=ab):As P l X B gB j es (I a) H':=by grind[mk]
theorem As.ok(h:Holds H' ((B,.arr gB 9 (es.set j (eh (kc l f ca))))::X))(b:hS P l=ad)(a:kc l f ca=iu P l):As P l X B gB j es (I 0) H':=by grind[mk]
end
variable{M:List Obj}{k:aL}{U N z dp:Nat}{b1:List (List AV)}
theorem alw(d:D)(a:Lit)(be:eA d)(d2:Sm a.af)(ds:kA d)(Y:a.ax=5->Z a.af=2)(ac:(a.ax=3\/a.ax=4)<->a.aj≠[])(s:z<Z b1)(ai:∀M,Holds M k->SC d dp M)
 (J:Holds M ((U,.arr N 9 (b1.set z (eh a)))::k)):
 HR C 274 [.ptr dp 0 0 0,.ptr U N z 0] M (As d a k U N z b1):=by
 apply Th.hq;simp only[qf J,ng J,O,e];refine tB s J (by simp[eh]) rfl rfl λd6 K=>?_;simp only[qf K,ng K,O,e];refine tB s K (by simp[eh]) rfl rfl λbv m=>?_;have m:Holds bv ((U,.arr N 9 (b1.set z (eh (kc a (-1) (-1)))))::k):=m;simp only[qf m,ng m,sC s m,O,e,eh,kc,dj,eH,c6];clear K J;refine b (λh=>?_) (λh=>?_);have w:a.ax=5:=by simpa using h
 let⟨l,t,aR⟩:∃l t,a.af=[l,t]:=by
  have:=Y w
  match em:a.af,this with
  |[l,t],_=>grind
 have aA:hS d a= !(l.aF==[]&&t.aF==[]&&l.const.ty !=t.const.ty):=by
  rw[hS,if_pos w,aR]
 have B:kc a (-1) (-1)=iu d a:=by
  rw[HL,nR,if_pos w,Ak,if_neg (by omega)]
 have d3:∀M:List Obj,bP 4 (eS ab cT a.af) (I 0) M=aa (.aH ab (cT l) 0):=λM=>by rw[aR];exact aE (x:=[l,t]) (U:=0) (by simp) rfl
 have E:∀M:List Obj,bP 4 (eS ab cT a.af) (I 1) M=aa (.aH ab (cT t) 0):=λM=>by rw[aR];exact aE (x:=[l,t]) (U:=1) (by simp) rfl
 have cb:∀l:aK,g (cT l) 0=.str l.aF:=λ_=>rfl;have cc:∀l:aK,g (cT l) 1=I l.const.ty:=λ_=>rfl;simp only[d3,E,O,lM,ya,mg,true_and,cb,cc,gW,cv,bz,G];refine aV (λn=>aV (λX=>?_) (λX=>?_)) (λn=>?_);rw[n,X]at aA;refine b (λp=>?_) (λp=>?_);exact .bad 72 m (by omega) (by grind);exact .ok m (by grind) B;rw[n,X]at aA;simp only[c5,e6,if_false];exact .ok m (by grind) B;rw[n]at aA;simp only[c5,e6,if_false]
 exact .ok m (by grind) B;have w:a.ax≠5:=by simpa using h
 have o:hS d a=(match d.Q[(eO d a.au).toNat]? with
  |ae=>ab
  |aa f=>y (0<=eO d a.au)&&nQ f a.af&& !(y (f.of<0)&&(!(a.bind==[])||(a.ax==3||a.ax==4)))&&
   (!(a.ax==3||a.ax==4)||(y (0<=fx d f a.aj)&&(match d.aw[f.of.toNat]? with|aa a2=>fx d f a.aj !=eD a2 []|ae=>ab)))):=by
  rw[hS,if_neg w];rfl
 have L:=ai _ m.tail;let⟨fn,br,bm,a5,a9⟩:=L.W7;simp only[L.nc,L.ao,O,e,bm];apply eV _ (En br a.au) (.ck (Em a5) (.ck (.str _ _) (.nil _))) (.int _ _);have d0:pz br a.au=eO d a.au:=a9 _;rw[d0];refine tB s m (by simp[eh]) rfl rfl λa3 j=>?_;have j:Holds a3 ((U,.arr N 9 (b1.set z (eh (kc a (eO d a.au) (-1)))))::k):=j;simp only[qf j,ng j,sC s j,O,e,eh,kc,dj,eH,A];clear L bm a5 a9 m
 refine b (λn=>?_) (λn=>?_);have n:eO d a.au<0:=by simpa using n
 refine .bad 70 j (by omega) ?_;grind;have n:0<=eO d a.au:=by simpa using n
 let⟨r,R,S⟩:∃r:Nat,eO d a.au=r/\r<Z d.Q:=by
  have:=Ar (λa2:cO=>a2.au==a.au) d.Q;grind[eO]
 have B:∀a0,a0=(if a.ax=3\/a.ax=4 then fx d d.Q[r] a.aj else -1)->kc a (r:Int) a0=iu d a:=by
  rintro a0 rfl;rw[HL,nR,if_neg w,R,Ak,R];simp only[eR,bq S]
 rw[R]at o n j;simp only[eR,bq S]at o;rw[R];have P:=ai _ j.tail;let⟨f0,bi,a4⟩:=P.tb;let⟨id,gi,E,T,V⟩:=a4.at S;simp only[P.nc,P.ao,O,e,fY,bi,E,mj T V (ji _ _),W8,rZ,r1,r2,te,sa,sb,sd];clear E T V a4 bi;generalize d1:d.Q[r]=f at*;have es:f.of<Z d.aw:=ds f (d1▸bn S);have ci:y ((0:Int)<=(r:Int))=true:=by simp
 rw[ci,c3]at o;let⟨W,c1,c2⟩:=WZ (T:=false) (F:=false) f a.af d2;have cs:(AV.agg [.str f.au,eS ab cI f.a6,.str f.aN,I f.of,.bool f.ek,I f.fy,I f.bb])=.agg (bO ab f):=rfl;rw[cs];apply c c1;simp only[cv,O];refine b (λp=>?_) (λp=>?_);have p:W≠0:=by simpa using p
 refine .bad W j p ?_;grind;have p:W=0:=by simpa using p
 rw[c2.1 p,c3]at o;have co:(a.ax==3||a.ax==4)= !(a.aj==[]):=by
  rw[iA];simpa using ac
 rw[co]at o;simp only[A,jE,O];refine yF (M:=a3) (y (f.of<0)&&(!(a.bind==[])|| !(a.aj==[]))) [.str f.au,eS ab cI f.a6,.str f.aN,I f.of,.bool f.ek,I f.fy,I f.bb] (λex el=>?_) ?_;refine aV (λu=>ib (λY=>?_) (λY=>?_)) (λu=>?_);grind;grind;grind;simp only[G,i];refine b (λu=>.bad 72 j (by omega) (by grind)) (λu=>?_);rw[u,ri,c3,Ff]at o;rw[bz];simp only[qf j,ng j,sC s j,O,e,eh,kc,dj,eH,jE]
 refine dw (λv=>?_) (λv=>?_);have eq:0<=f.of:=by
  rw[v]at u;simp at u;omega
 have ak:a.ax=3\/a.ax=4:=ac.2 (by simpa using v);let⟨H,am⟩:∃H:Nat,f.of=H:=⟨f.of.toNat,by omega⟩;have x:H<Z d.aw:=by omega
 have dl:fx d f a.aj=bV d.aw[H].az a.aj:=by
  rw[fx,am,eR,bq x]
 rw[v,am]at o;simp only[eR,bq x,l4]at o;rw[am];apply eV _ (W3 d.aw H x a.aj (be.aN _ (bn x))) (.ck P.mr (.ck (.int _ _ _) (.ck (.str _ _) (.nil _)))) (.int _ _);rw[<-dl];refine tB s j (by simp[eh]) rfl rfl λbD q=>?_;have q:Holds bD ((U,.arr N 9 (b1.set z (eh (kc a r (fx d f a.aj)))))::k):=q;simp only[qf q,ng q,sC s q,O,e,eh,kc,dj,eH,A];refine b (λF=>?_) (λF=>?_)
 have d9:y (0<=fx d f a.aj)=false:=by simp at F⊢;omega
 exact .bad 70 q (by omega) (by grind);have F:y (0<=fx d f a.aj)=true:=by simpa using F
 rw[F,c3]at o;have ah:=ai _ q.tail;let⟨fd,d4,ce⟩:=ah.aN;let⟨id,gi,E,T,V⟩:=ce.at x;simp only[ah.nc,ah.ao,O,fY,d4,E,mj T V (kK _ _)];apply c (Hm _ (be.aN _ (bn x)));simp only[c6,O];refine b (λcl=>?_) (λcl=>?_);exact .bad 72 q (by omega) (by grind);exact .ok q (by grind) (B _ (by rw[if_pos ak]));have ak:¬(a.ax=3\/a.ax=4):=λh=>ac.1 h (by simpa using v);rw[v]at o
 exact .ok j (by grind) (B _ (by rw[if_neg ak]))
def vN(a:List d):hB:=a.zipIdx
theorem Mw(a:List d):(vN a).map Prod.fst=a:=by simp[vN]
theorem W9(a:List d):Z (vN a)=Z a:=by simp[vN]
theorem alx(a:List d)(b:d):vN a++[(b,Z a)]=vN (a++[b]):=by grind[vN]
variable{p:List d}
theorem aly(c:p.Nodup)(e:U<Z p):pz (vN p) p[U]=U:=by
 unfold pz;rcases h:(vN p).find? (λx=>x.1==p[U])with _|x;rw[Fh]at h;have:=h (p[U],U) (by grind[vN]);simp at this;have a:=Jh h;have b:=ar7 h;simp_all[vN,List.mem_zipIdx_iff_getElem?,fH,beq_iff_eq,ar8]
def pn(a:Nat->Int):List AV:=(ay 36).map λb=>I (a b)
theorem B8(a:Nat->Int):Z (pn a)=36:=by simp[pn]
theorem Xa(a:Nat->Int)(h:U<36):(pn a)[U]?=aa (I (a U)):=by simp[pn,h]
theorem Xb(a:Nat->Int)(b:Int):(pn a).set U (I b)=pn (bN a U b):=by
 refine y6 λc=>?_;grind[bN,pn]
theorem alz(b:Nat->Nat)(c d:Nat):(λa=>((bN b c d a:Nat):Int))=bN (λa=>(b a:Int)) c (d:Int):=by
 grind[bN]
def jV(b:Nat)(aC:Nat->Nat)(c:Nat->Int):List AV:=.b8 b::(pn (λa=>(aC a:Int))++pn c)
def ij(a c:Nat)(e:List d)(aC:Nat->Nat)(f:Nat->Int)(b:aL):aL:=(c,.arr 0 73 [jV a aC f])::(a,cg (vN e))::b
theorem Mx(a:Nat)(aC:Nat->Nat)(b:Nat->Int):Z (jV a aC b)=73:=by simp[jV,B8]
theorem clC_1(a:Nat)(aC:Nat->Nat)(b:Nat->Int)(h:U<36):(jV a aC b)[1+U]?=aa (I (aC U)):=by
 grind[jV,Nat.add_comm,List.getElem?_cons_succ,List.getElem?_append_left,B8,Xa]
theorem clC_2(b:Nat)(aC:Nat->Nat)(a:Nat->Int)(h:U<36):(jV b aC a)[37+U]?=aa (I (a U)):=by
 grind[jV,List.getElem?_cons_succ,List.getElem?_append_right,B8,Nat.add_sub_cancel_left,Xa]
theorem alA(a:Nat)(aC:Nat->Nat)(b:Nat->Int)(c:Nat)(h:U<36):(jV a aC b).set (1+U) (I c)=jV a (bN aC U c) b:=by
 simp_all[jV,Nat.add_comm,OH,ar4,B8,Xb,alz]
theorem alB(a:Nat)(aC:Nat->Nat)(b:Nat->Int)(c:Int):(jV a aC b).set (37+U) (I c)=jV a aC (bN b U c):=by
 rw[jV,show 37+U=(36+U)+1 by omega,OH,OI _ _ (by rw[B8];omega),B8,Nat.add_sub_cancel_left,Xb,jV]
variable{iD:List Obj -> Prop}
section
variable{H:List Obj}{m K:Nat}{V:List d}{aC:Nat->Nat}{ty:Nat->Int}{F:aL}
theorem Au(h:Holds H (ij m K V aC ty F)):H[K]?=aa (.arr 0 73 [jV m aC ty]):=h.get (by simp[ij])
theorem B9(h:Holds H (ij m K V aC ty F)):H[m]?=aa (cg (vN V)):=h.get (by simp[ij])
theorem qg(h:Holds H (ij m K V aC ty F)):Holds H F:=h.tail.tail
theorem uG(h:Holds H (ij m K V aC ty F))(off:Nat):iL (.ptr K 0 0 off) H=aa (.ptr K 0 0 off):=hV (Au h)
theorem tC(h:Holds H (ij m K V aC ty F))(off a:Nat):dK a (.ptr K 0 0 off) H=aa (.ptr K 0 0 (off+a)):=eF (Au h)
theorem cl_0(h:Holds H (ij m K V aC ty F)):aQ 1 ab (.ptr K 0 0 0) H=aa (.b8 m):=gA (Au h) rfl
theorem cl_1(h:Holds H (ij m K V aC ty F))(a:U<36):aQ 1 ab (.ptr K 0 0 (1+U)) H=aa (I (aC U)):=gA (Au h) (clC_1 m aC ty a)
theorem cl_2(h:Holds H (ij m K V aC ty F))(a:U<36):aQ 1 ab (.ptr K 0 0 (37+U)) H=aa (I (ty U)):=gA (Au h) (clC_2 m aC ty a)
theorem xh(h:Holds H (ij m K V aC ty F)){off:Nat}(a:U<36):pT 36 1 (.ptr K 0 0 off) (I U) H=aa (.ptr K 0 0 (off+U)):=by
 simp only[pT,AV.pl];grind[tC]
theorem Xc(h:Holds H (ij m K V aC ty F))(a:Nat)(c:U<36)(d:∀b,Holds b (ij m K V (bN aC U a) ty F)->iD b):bd (du 1 (.ptr K 0 0 (1+U)) (I a) H) iD:=by
 refine aI (lF (Au h) (Mx _ _ _) (by omega) rfl rfl) (d _ ?_);rw[alA m aC ty a c];exact Holds.set h _
theorem Xd(h:Holds H (ij m K V aC ty F))(a:Int)(d:U<36)(c:∀b,Holds b (ij m K V aC (bN ty U a) F)->iD b):bd (du 1 (.ptr K 0 0 (37+U)) (I a) H) iD:=by
 refine aI (lF (Au h) (Mx _ _ _) (by omega) rfl rfl) (c _ ?_);rw[alB m aC ty a];exact Holds.set h _
end
variable{iE:hB}
theorem alC{id:Nat}(a:d)(h:M[id]?=aa (cg iE))(b:(iE.map Prod.fst).contains a=ab):Be ⟨ab,1,[1]⟩ (I 0) (.b8 id) (.str a) M=aa (.aB [I 0,I (Z iE)],M.set id (cg (iE++[(a,0)]))):=by
 have c:(⟨ab,1,[1]⟩:KD)=sf:=rfl;rw[c];simp only[Be,h,cg,zy,th,oJ,if_true];rw[HQ,ti];have:(iE.map Prod.fst).findIdx? (a==·)=none:=by
  rw[y8];intro f e;rw[beq_eq_false_iff_ne];rintro rfl;simp only[Fk,decide_eq_false_iff_not]at b;exact b e
 grind[q4,uF,iX,Function.comp_def]
theorem alD{id:Nat}(a:d)(b:Nat)(h:M[id]?=aa (cg (iE++[(a,0)]))):Bf (.b8 id) (I (Z iE)) (I b) M=aa (M.set id (cg (iE++[(a,b)]))):=by
 have c:(Z iE:Int)=b4 (Z iE):=rfl;rw[c];simp only[Bf,h,cg];rw[if_pos (by simp[q4])];have e:q4 (iE++[(a,0)])=q4 (iE++[(a,b)]):=by simp[q4]
 have f:(uF (iE++[(a,0)])).set (Z iE) (I b).pl=uF (iE++[(a,b)]):=by
  have:Z (iE.map λg=>I (g.2:Int))=Z iE:=by simp
  rw[uF,uF,hJ,hJ,<-this,OI _ _ (c7 _),OK]<;>rfl
 rw[e,f]
variable{dy:Nat -> Int}
theorem HT{aC:Nat->Nat}(a:d)(V:p.Nodup)(E:Z p<=36)(A:∀b,b<Z p->aC b<Z p):
 (∀b j r,∀h:b<Z p,p[b]=a->Rt aC j b r->∀c,Holds c (ij U N p aC dy k)->C 318 [.ptr N 0 0 0,.str a] c (I (r:Int)) c)/\
 (a∉p->Z p<36->∀c,Holds c (ij U N p aC dy k)->HR C 318 [.ptr N 0 0 0,.str a] c (λB x=>B=I (Z p:Int)/\Holds x (ij U N (p++[a]) (bN aC (Z p) (Z p)) dy k))):=by
 have key:∀(Q:AV->List Obj->Prop)(p:List d)(aC:Nat->Nat)(c:List Obj),Holds c (ij U N p aC dy k)->Z p<=36->(∀b,b<Z p->aC b<Z p)->∀j b r,b<Z p->Rt aC j b r->Q (I (r:Int)) c->
  jB (λt i af=>bd (iL (.ptr N 0 0 0) i) λaj=>bd (dK 1 aj i) λak=>bd (pT 36 1 ak (g t 0) i) λam=>bd (aQ 1 ab am i) λau=>bd (aT .s .neq au (g t 0)) λax=>
   ez ax (bd (iL (.ptr N 0 0 0) i) λaz=>bd (dK 1 az i) λaA=>bd (pT 36 1 aA (g t 0) i) λaF=>bd (aQ 1 ab aF i) λaR=>af [aR] i) (Q (AV.pl (g t 0)) i)) [I (b:Int)] c:=by
  intro Q p aC c f E A j b r l o a3;apply bG (λa=>[I (a.2:Int)]) (λ_=>c) (λa=>a.1) (λa=>a.2<Z p/\Rt aC a.1 a.2 r) (j,b) ⟨l,o⟩;rintro⟨j,b⟩ ⟨l,o⟩ a2 M;simp only at l o M⊢;have K:b<36:=by omega
  simp only[uG f,tC f,O,e,G,xh f K,cl_1 f K,cv];cases o with
  |stop _ u=>
   simp_all
  |up j _ _ a5 Y=>
   have:((aC b:Int) !=(b:Int))=true:=by rw[bne_iff_ne];omega
   rw[this];simp only[c5,if_true];exact M (j,aC b) ⟨A b l,Y⟩ (by simp)
 refine⟨λb j r l u o c f=>?_,λX J c f=>?_⟩;refine KR.hr ?_;let⟨ac,n,D⟩:=El (E:=.b8 U) (iE:=vN p) (M:=c) a (by simp[mf,B9 f,cg]);have q:((vN p).map Prod.fst).contains a=true:=by rw[Mw];simp[<-u]
 rw[D q,<-u,aly V l]at n;rw[u,q]at n;simp only[uG f,tC f,O,e,cl_0 f,n,fK,dj,eH,bz,bI,rf,c5,e6,if_false,G,fY];exact key (λai R=>ai=I (r:Int)/\R=c) p aC c f E A j b r l o ⟨rfl,rfl⟩
 ·refine KR.hq ?_
  let⟨ac,n,D⟩:=El (E:=.b8 U) (iE:=vN p) (M:=c) a (by simp[mf,B9 f,cg]);have q:((vN p).map Prod.fst).contains a=false:=by rw[Mw];simpa using X
  rw[q]at n;have W:gu .map (.b8 U) c=aa (I (Z p)):=by simp[gu,B9 f,cg,q4,W9]
  simp only[uG f,tC f,O,e,cl_0 f,n,fK,dj,eH,bz,bI,ri,c5,if_true,G,fY,W];apply aY (alC a (B9 f) q);have L:∀(w:List Obj)(P v:Obj),Holds w ((N,.arr 0 73 [jV U aC dy])::(U,P)::k)->Holds (w.set U v) ((N,.arr 0 73 [jV U aC dy])::(U,v)::k):=by
   intro w P v T;have:=Holds.set (T.perm (List.Perm.swap _ _ _)) v;exact this.perm (List.Perm.swap _ _ _)
  have z:=L c _ (cg (vN p++[(a,0)])) f;generalize c.set U (cg (vN p++[(a,0)]))=y at*;have H:y[N]?=aa (.arr 0 73 [jV U aC dy]):=z.get (by simp);simp only[hV H,eF H,O,e,mg,true_and,eH,dj];apply aI (alD a (Z p) (z.get (by simp)));have m:=L y _ (cg (vN p++[(a,Z p)])) z;rw[alx]at m⊢;generalize y.set U (cg (vN (p++[a])))=a0 at*;have m:=m;simp only[uG m,tC m,O,mg,true_and,e,xh m J]
  refine Xc m (Z p) J λS F=>?_;have a4:Z (p++[a])=Z p+1:=by simp
  refine key (λB x=>B=I (Z p:Int)/\Holds x (ij U N (p++[a]) (bN aC (Z p) (Z p)) dy k)) (p++[a]) (bN aC (Z p) (Z p)) S F (by omega) (λb l=>?_) 0 (Z p) (Z p) (by omega) (.stop _ (by simp[bN])) ⟨rfl,F⟩;grind[bN]
variable{mH:List gX}{ry:gX}
theorem iQ.const{aC:Nat->Nat}(h:iQ p mH aC dy)(b:∀a,ry.sat a):iQ p (mH++[ry]) aC dy:=
 ⟨h.nd,h.nb,h.lt,h.rt,h.yI,λa=>by rw[uC,<-h.w9];grind⟩
theorem iQ.Xf{aC:Nat->Nat}{b:gX}(h:iQ p (mH++[ry]) aC dy)(c:∀a,ry.sat a<->b.sat a):iQ p (mH++[b]) aC dy:=
 ⟨h.nd,h.nb,h.lt,h.rt,h.yI,λa=>by rw[uC,<-c,<-uC,h.w9]⟩
theorem Xg{b:gX}(c:∀a,ry.sat a<->b.sat a):lX (mH++[ry])<->lX (mH++[b]):=by
 refine⟨λ⟨a,h⟩=>⟨a,?_⟩,λ⟨a,h⟩=>⟨a,?_⟩⟩;rw[uC,c]at h;grind;rw[uC]at h;grind
def My(i h:Nat)(c:List d)(f:aL)(b:List gX)(j:AV)(g:List Obj):Prop:=∃a aC e,j=.bool a/\Holds g (ij i h c aC e f)/\(a=ad->iQ c b aC e)/\(a=ab->¬lX b)
theorem tD(a b:Int):aT .s .eql (I a) (I b)=aa (.bool (a==b)):=rfl
theorem Mz{aC:Nat->Nat}(t:aK)(a:Int)(g:iQ p mH aC dy)(w:Z p<=36)(y:0<a)(B:t.aF=[]\/t.aF∈p)
 (f:Holds M (ij U N p aC dy k)):HR C 341 [.ptr N 0 0 0,.agg (cT t),I a] M (My U N p k (mH++[.ty t a])):=by
 apply RS.hq;have x:j2 4 (.agg (cT t))=aa (.aH ab (cT t) 0):=rfl;simp only[x,O,bh,aJ,rV,Ds,e,fY,gW];refine b (λh=>?_) (λh=>?_);have q:t.aF=[]:=by simpa using h
 have A:∀m,gX.sat m (.ty t a)<->t.const.ty=a:=by
  intro m;show ep m t=a<->_;unfold ep;grind
 rw[tD,O];refine⟨t.const.ty==a,aC,dy,rfl,f,λc=>g.const (by grind),λc i=>?_⟩;let⟨m,i⟩:=i;have:=(A m).1 (i _ (by simp));grind;have q:t.aF≠[]:=by simpa using h
 have z:=B.resolve_left q;let⟨u,n,s⟩:=sO z;let⟨D,r,o⟩:=g.rt u n;have G:=g.Aj o n;have l:r<36:=by omega
 apply qO _ ((HT (U:=U) (N:=N) (k:=k) t.aF g.nd w g.lt).1 u D r n s o M f);let⟨E,H,J⟩:=g.set (t:=t) y n s.symm o;simp only[bz,uG f,tC f,O,e,xh f l,cl_2 f l,tD];refine b (λc=>?_) (λc=>?_);have c:dy r=0:=by simpa using c
 refine Xd f a l λF j=>?_;have v:bN dy r a r=a:=by simp[bN]
 simp only[uG j,tC j,O,e,xh j l,cl_2 j l,v,tD];refine⟨_,_,_,rfl,j,λ_=>E c,λi=>?_⟩;simp at i;have c:dy r≠0:=by simpa using c
 refine⟨_,_,_,rfl,f,by grind,by grind⟩
theorem alE(a b:Int):sT [I a,I b]=aa (I (max a b)):=by
 have:(if b>a then b else a)=max a b:=by split<;>omega
 show aa (AV.int .i64 (if b>a then b else a))=_;rw[this]
theorem alF{aC:Nat->Nat}(a c:aK)(i:iQ p mH aC dy)(q:Z p<=36)
 (x:a.aF∈p\/a.aF=[]/\0<a.const.ty)(z:c.aF∈p\/c.aF=[]/\0<c.const.ty)
 (f:Holds M (ij U N p aC dy k)):HR C 320 [.ptr N 0 0 0,.agg (cT a),.agg (cT c)] M (My U N p k (mH++[.eq a c])):=by
 apply aei.hq;have W:j2 4 (.agg (cT a))=aa (.aH ab (cT a) 0):=rfl;have X:j2 4 (.agg (cT c))=aa (.aH ab (cT c) 0):=rfl;simp only[W,X,O,bh,aJ,lM,rV,Ds,e,fY,gW];refine b (λh=>?_) (λh=>?_);have n:a.aF=[]:=by simpa using h
 have A:¬a.aF∈p:=λh=>i.nb _ h n;have F:∀g,gX.sat g (.ty c a.const.ty)<->gX.sat g (.eq a c):=by
  intro g;show ep g c=_<->ep g a=ep g c;have:ep g a=a.const.ty:=by unfold ep;rw[if_pos n]
  rw[this];exact eq_comm
 refine c4 (Mz (mH:=mH) c a.const.ty i q (x.resolve_left A).2 (z.symm.imp (·.1) id) f) rfl λaz T B=>?_;obtain⟨v,w,J,rfl,H,I,au⟩:=B;exact⟨v,w,J,rfl,H,λh=>(I h).Xf F,by grind[Xg]⟩;have ai:a.aF≠[]:=by simpa using h
 refine b (λh=>?_) (λh=>?_);have n:c.aF=[]:=by simpa using h
 have A:¬c.aF∈p:=λh=>i.nb _ h n;have F:∀g,gX.sat g (.ty a c.const.ty)<->gX.sat g (.eq a c):=by
  intro g;show ep g a=_<->ep g a=ep g c;have:ep g c=c.const.ty:=by unfold ep;rw[if_pos n]
  rw[this]
 refine c4 (Mz (mH:=mH) a c.const.ty i q (z.resolve_left A).2 (x.symm.imp (·.1) id) f) rfl λaz T B=>?_;obtain⟨v,w,J,rfl,H,I,au⟩:=B;exact⟨v,w,J,rfl,H,λh=>(I h).Xf F,by grind[Xg]⟩;have aj:c.aF≠[]:=by simpa using h
 have af:=x.resolve_right λh=>ai h.1;have ah:=z.resolve_right λh=>aj h.1;let⟨P,t,K⟩:=sO af;let⟨Q,u,L⟩:=sO ah;let⟨ak,r,D⟩:=i.rt P t;let⟨am,j,E⟩:=i.rt Q u;have a2:=i.Aj D t;have a3:=i.Aj E u;have l:r<36:=by omega
 have m:j<36:=by omega
 let⟨a5,ax⟩:=i.same (bR:=a) (rD:=c) t u K.symm L.symm D E;apply qO _ ((HT (U:=U) (N:=N) (k:=k) a.aF i.nd q i.lt).1 P ak r t K D M f);simp only[mg,true_and];apply qO _ ((HT (U:=U) (N:=N) (k:=k) c.aF i.nd q i.lt).1 Q am j u L E M f);refine yF (M:=M) (y (dy r≠0)&&(y (dy j≠0)&&y (dy r≠dy j))) [] (λa4 a0=>?_) ?_;have V:∀R S:Int,(R !=S)=y (R≠S):=by grind
 simp only[uG f,tC f,O,e,xh f l,cl_2 f l,xh f m,cl_2 f m,cv,V];grind[aV];simp only[G];refine b (λo=>?_) (λo=>?_);simp only[ba,decide_eq_true_eq]at o;exact⟨ab,aC,dy,rfl,f,λh=>(by cases h),by grind⟩;have ac:dy r=0\/dy j=0\/dy r=dy j:=by
  simp only[Ji,decide_eq_false_iff_not,avL]at o;exact o
 simp only[uG f,tC f,O,e,xh f l,cl_2 f l,xh f m,cl_2 f m,alE];refine Xd f _ m λaA s=>?_;simp only[uG s,tC s,O,e,xh s l];refine Xc s j l λaR Y=>?_;exact⟨ad,_,_,rfl,Y,λ_=>ax ac,λh=>by cases h⟩
def uH(b:List aK)(d:List Int)(c:Nat):List gX:=((b.zip d).take c).map λa=>.ty a.1 a.2
theorem Xh{aC:Nat->Nat}(j:D)(c:List aK)(l:Nat)(S:l<Z j.Q)(o:iQ p mH aC dy)(L:Z p<=36)(az:Sm c)
 (ax:Z c<=Z j.Q[l].a6)(aR:∀ai∈j.Q[l].a6,0<ai)(aA:∀B∈c,B.aF=[]\/B.aF∈p)(P:∀M,Holds M k->SC j z M)
 (R:Holds M (ij U N p aC dy k)):HR C 319 [.ptr z 0 0 0,.ptr N 0 0 0,I (l:Int),eS ab cT c] M (My U N p k (mH++uH c j.Q[l].a6 (Z c))):=by
 apply RP.hq;simp only[aX,O];apply bG (K:=Nat×List Obj×(Nat->Nat)×(Nat->Int)) (λm=>[ff,I m.1]) (λm=>m.2.1) (λm=>Z c -m.1) (λm=>m.1<=Z c/\Holds m.2.1 (ij U N p m.2.2.1 m.2.2.2 k)/\iQ p (mH++uH c j.Q[l].a6 m.1) m.2.2.1 m.2.2.2) (0,M,aC,dy) ⟨by simp,R,by simpa[uH]using o⟩;rintro⟨f,am,aC,dy⟩ ⟨W,q,o⟩ au v;simp only at W q o v⊢;simp only[G,i,A,O,a];refine b (λh=>?_) (λh=>?_)
 have h:f<Z c:=by simpa using h
 have K:f<Z j.Q[l].a6:=by omega
 have ac:f<Z (c.zip j.Q[l].a6):=by simp;omega
 have T:uH c j.Q[l].a6 (f+1)=uH c j.Q[l].a6 f++[.ty c[f] j.Q[l].a6[f]]:=by
  rw[uH,iy ac,hJ];simp[uH]
 have n:=P _ (qg q);let⟨a2,aj,J⟩:=n.tb;let⟨id,gi,af,u,ah⟩:=J.at S;have V:(AV.agg [g (cT c[f]) 0,g (cT c[f]) 1,g (cT c[f]) 2,g (cT c[f]) 3])=.agg (cT c[f]):=rfl;have X:(bO ab j.Q[l])[1]?=aa (eS ab cI j.Q[l].a6):=rfl;simp only[aE h (kt _),lM,ya,V,n.nc,n.ao,O,e,fY,aj,af,pg u,c0 u ah,X,aE K (jh _),aJ,lN];refine c4 (Mz c[f] _ o L (by simp_all) (by grind) q) rfl λa3 F Y=>?_;obtain⟨H,t,E,rfl,w,x,y⟩:=Y
 rw[ht,<-T]at x y;simp only[bI,O];refine dw (λs=>?_) (λs=>?_);refine⟨ab,t,E,rfl,w,λh=>(by cases h),λ_ n=>y s ?_⟩;refine lX.mono (λH r=>?_) n;rcases dt.1 r with r|r;grind;refine dt.2 (.inr ?_);obtain⟨ak,a0,rfl⟩:=cy.1 r;refine cy.2 ⟨ak,?_,rfl⟩;grind;rw[aZ (by grind[Sm]),O];exact v (f+1,F,t,E) ⟨h,w,x s⟩ (by simp;omega);have:f=Z c:=by simp at h;omega
 subst this;exact⟨ad,aC,dy,rfl,q,λ_=>o,λh=>by cases h⟩
variable{bL:d}
theorem alG(h:p.Nodup):(eo p bL).Nodup:=by
 grind[eo]
theorem HU:∀(b:List aK){a:List d},a.Nodup->(c9 a b).Nodup
 |[],_,h=>h
 |t::b,a,h=>HU b (a:=eo a t.aF) (alG h)
theorem MA:∀(c:List aK){b:List d}{a:d},a∈c9 b c<->a∈b\/(a≠[]/\∃t∈c,t.aF=a)
 |[],b,a=>by simp[c9]
 |t::c,b,a=>by
  have:=MA c (b:=eo b t.aF) (a:=a);grind[c9,eo]
theorem MB:∀(a:List (List aK)){b:List d},b.Nodup->(a.foldl c9 b).Nodup
 |[],_,h=>h
 |x::a,_,h=>MB a (HU x h)
theorem MD:∀(c:List (List aK)){b:List d}{a:d},a∈c.foldl c9 b<->a∈b\/(a≠[]/\∃e∈c,∃f∈e,f.aF=a)
 |[],b,a=>by simp
 |y::c,b,a=>by
  rw[np,MD c,MA];grind
def nh(r:aD)(a:Nat):List d:=((r.ai.take a).map Lit.af).foldl c9 (c9 [] r.af)
theorem ME(r:aD)(a:Nat):(nh r a).Nodup:=MB _ (by grind[HU])
theorem Et{r:aD}:bL∈nh r U<->bL≠[]/\((∃a∈r.af,a.aF=bL)\/∃b∈r.ai.take U,∃a∈b.af,a.aF=bL):=by
 rw[nh,MD,MA];grind
theorem Xi{r:aD}:bL∈fF r<->bL≠[]/\((∃a∈r.af,a.aF=bL)\/∃b∈r.ai,∃a∈b.af,a.aF=bL):=by
 rw[fF,MD];grind
theorem alH(r:aD):Z (nh r (Z r.ai))=Z (fF r):=by
 refine((OZ (ME r _) (MB _ xF)).2 λa=>?_).length_eq;show a∈nh r (Z r.ai)<->a∈fF r;rw[Et,Xi,dY]
theorem alI{r:aD}:bL∈nh r (Z r.ai)<->bL∈fF r:=by rw[Et,Xi,dY]
theorem Xj{r:aD}(h:U<Z r.ai):nh r (U+1)=c9 (nh r U) r.ai[U].af:=by
 rw[nh,iy h,hJ,zd]<;>rfl
theorem MF(b:List aK)(a:List d):Z (c9 a b)<=Z a+Z b:=zN b a
theorem Xk{aC:Nat->Nat}(e:List aK)(H:p.Nodup)(X:Z p+Z e<=36)(l:∀c,c<Z p->aC c=c)(F:∀M,Holds M k->M[z]?=aa (.arr 0 1 [[.ptr N 0 0 0]]))
 (E:Holds M (ij U N p aC dy k)):HR C 317 [eS ab cT e,.ptr z 0 0 0] M (λx t=>x=.aB []/\∃n,Holds t (ij U N (c9 p e) n dy k)/\∀c,c<Z (c9 p e)->n c=c):=by
 apply Tk.hq;simp only[aX,O];apply bG (K:=Nat×List Obj×(Nat->Nat)) (λf=>[I f.1]) (λf=>f.2.1) (λf=>Z e -f.1) (λf=>f.1<=Z e/\Holds f.2.1 (ij U N (c9 p (e.take f.1)) f.2.2 dy k)/\∀c,c<Z (c9 p (e.take f.1))->f.2.2 c=c) (0,M,aC) ⟨by simp,by simpa[c9]using E,by simpa[c9]using l⟩;rintro⟨c,m,aC⟩ ⟨o,j,l⟩ V v;simp only at o j l v⊢;simp only[G,A,O,a];refine b (λh=>?_) (λh=>?_);have h:c<Z e:=by simpa using h
 have Q:c9 p (e.take (c+1))=eo (c9 p (e.take c)) e[c].aF:=by
  rw[c9,iy h,zd]<;>rfl
 have J:=HU (e.take c) H;have L:=MF (e.take c) p;rw[h0]at L;have s:=λy n i D=>v (c+1,y,n) ⟨h,i,D⟩ (by simp;omega);simp only[Q]at s;generalize c9 p (e.take c)=W at*;have B:∀w:aK,g (cT w) 0=.str w.aF:=λ_=>rfl;have K:aQ 1 ab (.ptr z 0 0 0) m=aa (.ptr N 0 0 0):=gA (F _ (qg j)) rfl;simp only[bz,aE h (kt _),lM,ya,B,O,jE,K,aZ (show c<4611686018427387904 by omega)];refine dw (λi=>?_) (λi=>?_)
 have i:e[c].aF≠[]:=by simpa using i
 let⟨S,T⟩:=HT (U:=U) (N:=N) (aC:=aC) (dy:=dy) (k:=k) e[c].aF J (by omega) (λc o=>by rw[l c o];exact o);by_cases q:e[c].aF∈W;let⟨r,u,R⟩:=sO q;refine qO _ (S r 0 r u R (.stop r (l r u)) m j) (s m aC ?_ ?_);rw[eo,if_pos (.inr q)];exact j;grind[eo];refine c4 (T q (by omega) m j) rfl λx t P=>s t (bN aC (Z W) (Z W)) ?_ ?_;rw[eo,if_neg (λh=>h.elim i q)];exact P.2;grind[eo,bN]
 have i:e[c].aF=[]:=by simpa using i
 refine s m aC ?_ ?_;rw[eo,if_pos (.inl i)];exact j;rw[eo,if_pos (.inl i)];exact l;grind
theorem MG(a:Lit):dO 9 (.agg (eh a))=aa (eh a):=iT rfl rfl
@[simp] theorem alJ(a:Lit):Z (eh a)=9:=rfl
theorem alK(a:Nat)(aC:Nat->Nat)(b:Nat->Int):dO 73 (.agg (jV a aC b))=aa (jV a aC b):=by
 grind[iT,Mx,jV,pn,AV.bU]
theorem alL(a:Nat)(c:AV)(b:List AV):mb (c::b) [(0,1,.b8 a)]=aa (.b8 a::b):=by
 have d:(AV.b8 a).pl.cells=[.b8 a]:=rfl;simp[mb,AV.bU,e3]
theorem fill_73(a:Nat):mb [.oW,(I 0),(I 0),(I 0),(I 0),(I 0),(I 0),(I 0),(I 0),(I 0),(I 0),(I 0),(I 0),(I 0),(I 0),(I 0),(I 0),(I 0),(I 0),(I 0),(I 0),(I 0),(I 0),(I 0),(I 0),(I 0),(I 0),(I 0),(I 0),(I 0),(I 0),(I 0),(I 0),(I 0),(I 0),(I 0),(I 0),(I 0),(I 0),(I 0),(I 0),(I 0),(I 0),(I 0),(I 0),(I 0),(I 0),(I 0),(I 0),(I 0),(I 0),(I 0),(I 0),(I 0),(I 0),(I 0),(I 0),(I 0),(I 0),(I 0),(I 0),(I 0),(I 0),(I 0),(I 0),(I 0),(I 0),(I 0),(I 0),(I 0),(I 0),(I 0),(I 0)] [(0,1,.b8 a)]=aa (jV a (λ_=>0) (λ_=>0)):=by
 rw[alL]<;>rfl
def Av(c:D)(b:Lit):List gX:=((jU c b).map λa=>.ty a.1 a.2)++(sw b).map λa=>.eq a.1 a.2
def qh(a:D)(r:aD)(c:Nat):List gX:=((B2 a r).map λb=>.ty b.1 b.2)++((r.ai.take c).map (Av a)).flatten
variable{V:D}
theorem alM{r:aD}(h:U<Z r.ai):qh V r (U+1)=qh V r U++Av V r.ai[U]:=by
 grind[qh,List.take_succ_eq_append_getElem,List.flatten_append,List.append_assoc]
theorem alN{r:aD}:ry∈qh V r U<->ry∈w8 (xa V r U) (xb r U):=by
 grind[qh,w8,Av,xa,xb,List.mem_flatten]
theorem Xl{r:aD}:lX (qh V r U)<->lX (w8 (xa V r U) (xb r U)):=
 by grind[lX.mono,alN]
theorem Xm(c:U<Z V.Q)(a:List aK):uH a V.Q[U].a6 (Z a)=(lY V (U:Int) a).map λb=>gX.ty b.1 b.2:=by
 grind[uH,lY,Int.toNat_natCast,List.getElem?_eq_getElem,List.take_of_length_le,List.length_zip]
structure MH(P:D)(r:aD):Prop extends Ef P r where
 HV:Z r.af<=4
 Xn:Z r.ai<=8
 vn:∀x∈r.ai,Z x.af<=4
 bb:∀q∈P.Q,∀k∈q.a6,0<k
 Xo:∀x∈r.ai,∀t∈x.af,t.aF=[]->0<t.const.ty
 Xp:∀x∈r.ai,x.ax=5->x.ah<0
 kn:∀x∈r.ai,x.ax≠5->0<=x.ah
theorem pVars_36{r:aD}(h:MH V r):∀n,n<=Z r.ai->Z (nh r n)<=4+4*n
 |0,_=>by
  have a:=MF r.af [];have b:=h.HV;grind[nh]
 |n+1,c=>by
  have d:=pVars_36 h n (by omega);have a:=MF r.ai[n].af (nh r n);have b:=h.vn r.ai[n] (bn _);grind[Xj]
def HW(c:D)(r:aD)(d:aL)(f:AV)(b:List Obj):Prop:=∃a e,f=.aB [I a,I e]/\(a=0<->vG c r)/\Holds b d
theorem HW.bad{r:aD}(h:Holds M k)(a:f≠0)(b:¬vG V r):HW V r k (.aB [I f,I ca]) M:=⟨f,ca,rfl,by grind,h⟩
variable{rI:List AV -> List Obj -> Prop}
theorem kT{b:(List AV->List Obj->Prop)->Prop}(n5:List AV->List Obj->Prop)(d:∀c:List AV->List Obj->Prop,(∀a h,n5 a h->c a h)->b c)(e:∀a h,n5 a h->rI a h):jn b rI:=d rI e
variable{P:Lit}{bR rD:aK}
theorem litCn_5(a:P.ax=5)(c:P.ah<0)(b:P.af=[bR,rD]):Av V P=[.eq bR rD]:=by
 grind[Av,jU,sw]
theorem alO(a:P.ax≠5)(b:U<Z V.Q)(c:P.ah=U):Av V P=uH P.af V.Q[U].a6 (Z P.af):=by
 simp_all[Av,jU,sw,Xm]
theorem alP{H:List Obj}(d:D)(r:aD)(h:MH d r)(gU:∀H,Holds H k->SC d z H)(gc:∀H,Holds H k->H[U]?=aa (.arr N 9 (r.ai.map eh)))(cb:Holds H k):
 HR C 275 [.ptr z 0 0 0,.agg (fe r (.q U N 0 (Z r.ai)))] H (HW d r k):=by
 have i1:=h.Xn;apply TG.hq;have az:j2 9 (.agg (fe r (.q U N 0 (Z r.ai))))=aa (.aH ab (fe r (.q U N 0 (Z r.ai))) 0):=rfl;refine aI az (aY rfl (aI (fill_73 _) ?_));have a9:nC 73 (.agg (jV (Z H) (λ_=>0) (λ_=>0))) (H++[.mp ad [] []])=aa (.ptr (Z H+1) 0 0 0,H++[cg (vN [])]++[.arr 0 73 [jV (Z H) (λ_=>0) (λ_=>0)]]):=by
  simp only[nC,alK,kf,gC,jY];rfl
 refine aY a9 (aY (dW:=.ptr (Z H+1+1) 0 0 0) (oR:=H++[cg (vN [])]++[.arr 0 73 [jV (Z H) (λ_=>0) (λ_=>0)]]++[.arr 0 1 [[.gH]]]) (by simp[lB]) ?_);have Y:=((cb.alloc (cg (vN []))).alloc (.arr 0 73 [jV (Z H) (λ_=>0) (λ_=>0)])).alloc (.arr 0 1 [[.gH]]);simp only[gC,jY]at Y;generalize H++[cg (vN [])]++[.arr 0 73 [jV (Z H) (λ_=>0) (λ_=>0)]]++[.arr 0 1 [[.gH]]]=cl at*;generalize g6:Z H=am at*
 generalize go:am+1=o at*;generalize g0:o+1=t at*;apply aI (lF (bF:=[.gH]) (Y.get (U:=t) (gF:=.arr 0 1 [[.gH]]) (by simp)) rfl (by omega) rfl rfl);have Y:=Y.set (.arr 0 1 [[AV.ptr o 0 0 0]]);have Y:Holds (cl.set t (.arr 0 1 [[AV.ptr o 0 0 0]])) (ij am o [] (λ_=>0) (λ_=>0) ((t,.arr 0 1 [[AV.ptr o 0 0 0]])::k)):=by
  apply Y.perm;exact(List.Perm.swap _ _ _).trans (List.Perm.cons _ (List.Perm.swap _ _ _))
 change Holds (cl.set t (.arr 0 1 [[AV.gH].set 0 (.ptr o 0 0 0)])) _ at Y;generalize cl.set t (.arr 0 1 [[AV.gH].set 0 (.ptr o 0 0 0)])=h4 at*;clear a9 g6 go g0 cb;have em:∀H,Holds H ((t,.arr 0 1 [[AV.ptr o 0 0 0]])::k)->H[t]?=aa (.arr 0 1 [[AV.ptr o 0 0 0]]):=λH h=>h.get (by simp);have a0:∀{H},Holds H ((t,.arr 0 1 [[AV.ptr o 0 0 0]])::k)->Holds H k:=λh=>h.tail
 have c2:∀H,Holds H ((t,.arr 0 1 [[AV.ptr o 0 0 0]])::k)->SC d z H:=λH h=>gU H h.tail;generalize ge:(t,Obj.arr 0 1 [[AV.ptr o 0 0 0]])::k=a5 at*;clear ge;have hw:∀S,(fe r S)[1]?=aa (I r.ah):=λ_=>rfl;have h1:∀S,(fe r S)[2]?=aa (eS ab cT r.af):=λ_=>rfl;have hx:∀S,(fe r S)[3+2]?=aa (.str r.aj.aF):=λ_=>rfl;have hH:∀S,(fe r S)[7]?=aa S:=λ_=>rfl;have hO:∀S,(fe r S)[8]?=aa (I r.bb):=λ_=>rfl
 have f4:∀c:Lit,g (eh c) 0=I c.ax:=λ_=>rfl;have f5:∀c:Lit,g (eh c) 2=I c.ah:=λ_=>rfl;have d6:∀c:Lit,g (eh c) 3=eS ab cT c.af:=λ_=>rfl;have co:∀c:Lit,g (eh c) 4=.str c.bind:=λ_=>rfl;have cs:∀c:Lit,g (eh c) 8=I c.bb:=λ_=>rfl;simp only[bh,O,aJ,e,hw,h1,hx,hH,hO,oa];apply aY (dW:=317) (oR:=[eS ab cT r.af,.ptr t 0 0 0]) rfl
 refine c4 (Xk r.af xF (by have:=h.HV;simp;omega) (by grind) em Y) rfl λJ f2 ak=>?_;obtain⟨rfl,aC,ek,M⟩:=ak;have d0:∀{H f},Holds H a5->∀P:f<Z r.ai,bP 9 (.q U N 0 (Z r.ai)) (I (f:Int)) H=aa (.ptr U N f 0)/\aQ 9 ad (.ptr U N f 0) H=aa (.agg (eh r.ai[f])):=by
  intro H f cb P;have w:=gc H (a0 cb);exact⟨fw w P,mj w (by simp[P]) (alJ _)⟩
 apply bG (K:=Nat×List Obj×(Nat->Nat)) (λj=>[I j.1]) (λj=>j.2.1) (λj=>Z r.ai -j.1) (λj=>j.1<=Z r.ai/\Holds j.2.1 (ij am o (nh r j.1) j.2.2 (λ_=>0) a5)/\∀f,f<Z (nh r j.1)->j.2.2 f=f) (0,f2,aC) ⟨by simp,ek,M⟩;clear ek M Y;rintro⟨f,W,aC⟩ ⟨P,l,M⟩ id V;simp only at P l M V⊢;simp only[G,A,O,a];refine b (λw=>?_) (λw=>?_);have w:f<Z r.ai:=by simpa using w
 let⟨bi,bm⟩:=d0 (qg l) w;have g7:=pVars_36 h f P;have g4:=h.vn r.ai[f] (bn w);have cc:=Xj (r:=r) w;simp only[bi,bm,O,MG,d6,aZ (show f<4611686018427387904 by omega)];apply aY (dW:=317) (oR:=[eS ab cT r.ai[f].af,.ptr t 0 0 0]) rfl;refine c4 (Xk r.ai[f].af (ME r f) (by omega) M em l) rfl λJ f3 ak=>?_;obtain⟨rfl,L,B,p⟩:=ak;rw[<-cc]at B p;exact V (f+1,f3,L) ⟨w,B,p⟩ (by simp;omega)
 have:f=Z r.ai:=by simp at w;omega
 subst this;clear V;have g7:=pVars_36 h _ P;have i5:=alH r;have gt:∀K,K∈nh r (Z r.ai)<->K∈fF r:=λK=>alI;have hg:∀F∈r.af,F.aF=[]\/F.aF∈nh r (Z r.ai):=by grind[Et]
 have he:∀c∈r.ai,∀F∈c.af,F.aF=[]\/F.aF∈nh r (Z r.ai):=by grind[Et]
 have a2:iQ (nh r (Z r.ai)) [] aC (λ_=>0):=iQ.start (ME r _) (by grind[Et]) M (λ_ _=>rfl);generalize nh r (Z r.ai)=R at*;have ds:∀{H},Holds H a5->aQ 1 ab (.ptr t 0 0 0) H=aa (.ptr o 0 0 0):=by grind[gA]
 have ex:gu .map (.b8 am) W=aa (I (Z R)):=by simp[gu,B9 l,cg,q4,W9]
 simp only[ds (qg l),uG l,tC l,O,fY,cl_0 l,ex,eU];refine b (λbD=>?_) (λbD=>?_);refine .bad (a0 (qg l)) (by omega) ?_;rintro⟨x,-⟩;grind;have f9:Z (fF r)<=12:=by simp only[decide_eq_false_iff_not]at bD;omega
 have fd:∀ci,ci<=Z r.ai->yJ d r->lX (qh d r ci):=by grind[Xl,WB]
 refine kT (λJ u=>∃X aC be,J=[.bool (!X)]/\Holds u (ij am o R aC be a5)/\(X=ad->iQ R (qh d r 0) aC be)/\(X=ab->¬lX (qh d r 0))) (λd4 a3=>?_) ?_;simp only[hz,O];have g8:qh d r 0=(B2 d r).map λK=>gX.ty K.1 K.2:=by simp[qh]
 refine aV (λx=>?_) (λx=>?_);have x:0<=r.ah:=by simpa using x
 let⟨s,T,az,a9⟩:=h.fit x;rw[az];have g9:qh d r 0=[]++uH r.af d.Q[s].a6 (Z r.af):=by
  rw[g8,B2,if_pos x,az,Xm T]<;>rfl
 refine c4 (Xh d r.af s T a2 (by omega) (by have:=h.HV;grind[Sm]) a9 (h.bb _ (bn T)) hg c2 l) rfl λJ u ak=>?_;obtain⟨v,L,au,rfl,B,p,E⟩:=ak;rw[<-g9]at p E;simp only[bI,O];grind;have x:¬0<=r.ah:=by simpa using x
 refine a3 _ _ ⟨ad,aC,_,rfl,l,λ_=>?_,λh=>(by cases h)⟩;grind[B2];rintro J G0 ⟨X,f7,h3,rfl,d9,p,E⟩;clear a2 M ex l;simp only[G];refine dw (λx=>?_) (λx=>?_);exact .bad (a0 (qg d9)) (by omega) λd2=>E x (fd 0 (by omega) d2.2.1)
 apply bG (K:=Nat×List Obj×(Nat->Nat)×(Nat->Int)) (λj=>[I 0,I 0,I j.1]) (λj=>j.2.1) (λj=>Z r.ai -j.1) (λj=>j.1<=Z r.ai/\Holds j.2.1 (ij am o R j.2.2.1 j.2.2.2 a5)/\iQ R (qh d r j.1) j.2.2.1 j.2.2.2) (0,G0,f7,h3) (by grind);clear p E d9;rintro⟨f,W,aC,be⟩ ⟨P,l,a2⟩ ii V;simp only at P l a2 V⊢;simp only[G,i,A,O,a];refine b (λm=>?_) (λm=>?_);have m:f<Z r.ai:=by simpa using m
 let⟨bi,bm⟩:=d0 (qg l) m;have ac:r.ai[f]∈r.ai:=bn m;have cc:=alM (V:=d) m;have d5:=λu L au w bD=>V (f+1,u,L,au) ⟨m,w,bD⟩ (by simp;omega);simp only[bi,bm,O,MG];generalize r.ai[f]=c at*;refine kT (λJ u=>∃X aC be,J=.bool (!X)::eh c/\Holds u (ij am o R aC be a5)/\(X=ad->iQ R (qh d r (f+1)) aC be)/\(X=ab->¬lX (qh d r (f+1)))) (λd4 a3=>?_) ?_;simp only[f4,f5,d6,co,cs,tD,cv,O,ds (qg l)]
 refine aV (λn=>?_) (λn=>?_);have n:c.ax=5:=by simpa using n
 let⟨F,a4,d1⟩:∃F a4,c.af=[F,a4]:=by
  have:=h.cmp c ac n
  match g4:c.af,this with
  |[F,a4],_=>grind
 have hj:bP 4 (eS ab cT c.af) (I 0) W=aa (.aH ab (cT F) 0):=by rw[d1];exact aE (x:=[F,a4]) (U:=0) (by simp) rfl
 have d3:bP 4 (eS ab cT c.af) (I 1) W=aa (.aH ab (cT a4) 0):=by rw[d1];exact aE (x:=[F,a4]) (U:=1) (by simp) rfl
 have i6:∀K∈c.af,K.aF∈R\/K.aF=[]/\0<K.const.ty:=λK hh=>by
  by_cases br:K.aF=[];exact .inr ⟨br,h.Xo c ac K hh br⟩;grind
 simp only[hj,d3,lM,O];refine c4 (alF F a4 a2 (by omega) (by grind) (by grind) l) rfl λJ u ak=>?_;obtain⟨v,L,au,rfl,B,p,E⟩:=ak;rw[<-litCn_5 n (h.Xp c ac n) d1,<-cc]at p E;simp only[bI,O];refine ib (λaA=>?_) (λaA=>?_);have:(c.ax !=5)=false:=by simp[n]
 rw[this];simp only[jD,e6,if_false];subst aA;exact a3 _ _ ⟨ad,L,au,rfl,B,p,E⟩;subst aA;exact a3 _ _ ⟨ab,L,au,rfl,B,p,E⟩;have n:c.ax≠5:=by simpa using n
 let⟨s,T,az,a9⟩:=h.fits c ac (h.kn c ac n);have:(c.ax !=5)=true:=by simpa using n
 rw[this];simp only[jD,if_true];rw[az];refine c4 (Xh d c.af s T a2 (by omega) (by have:=h.vn c ac;grind[Sm]) a9 (h.bb _ (bn T)) (he c ac) c2 l) rfl λJ u ak=>?_;obtain⟨v,L,au,rfl,B,p,E⟩:=ak;rw[<-alO n T az,<-cc]at p E;simp only[bI,O];rw[<-az];exact a3 _ _ ⟨v,L,au,rfl,B,p,E⟩;rintro J u ⟨X,L,au,rfl,B,p,E⟩;simp only[G,i,cs,aZ (show f<4611686018427387904 by omega),O];refine dw (λn=>?_) (λn=>?_)
 exact .bad (a0 (qg B)) (by omega) λd2=>E n (fd (f+1) m d2.2.1);exact d5 u L au B (p n);have:f=Z r.ai:=by simp at m;omega
 subst this;clear V;have ha:yJ d r:=Xl.1 a2.sat;have i7:vG d r<->tv d r=true:=⟨λh=>h.2.2,λh=>⟨f9,ha,h⟩⟩;have i2:∀s:Int,tv d r=ab->HW d r k (.aB [I 72,I s]) W:=λs i4=>.bad (a0 (qg l)) (by omega) (by grind);apply bG (K:=Nat×Bool) (λj=>[I 0,I 0,.bool j.2,I j.1]) (λ_=>W) (λj=>Z r.ai -j.1) (λj=>j.1<=Z r.ai/\na d r r.ai ab=na d r (r.ai.drop j.1) j.2) (0,ab) ⟨by simp,by simp⟩;rintro⟨f,bv⟩ ⟨P,aR⟩ io V
 simp only at P aR V⊢;simp only[G,i,A,O,a];refine b (λm=>?_) (λm=>?_);have m:f<Z r.ai:=by simpa using m
 let⟨bi,bm⟩:=d0 (qg l) m;have ac:r.ai[f]∈r.ai:=bn m;rw[WC m]at aR;have d5:=λf8 g3=>V (f+1,f8) ⟨m,g3⟩ (by simp;omega);rw[bz];simp only[bi,bm,O,MG,co,gW];generalize r.ai[f]=c at*;refine b (λn=>?_) (λn=>?_);rw[if_pos (by grind)]at aR;simp only[G,i,aZ (show f<4611686018427387904 by omega),O];exact d5 bv aR;have eq:c.bind≠[]:=by simpa using n
 rw[if_neg eq]at aR;let⟨hn,f0,kw⟩:=El (E:=.b8 am) (iE:=vN R) (M:=W) c.bind (by simp[mf,B9 l,cg]);have g2:((vN R).map Prod.fst).contains c.bind=y (c.bind∈fF r):=by
  rw[Mw,iA];simp only[Fk,decide_eq_true_eq];exact gt _
 rw[g2]at f0;simp only[ds (qg l),uG l,tC l,O,fY,cl_0 l,f0,fK,dj,eH];refine kT (λJ u=>J=.bool (bv|| !y (c.bind=r.aj.aF)||y (c.bind∈fF r)||hT d c.ah !=hT d r.ah)::eh c/\u=W) (λd4 a3=>?_) ?_;have ce:∀v:Bool,(bv|| !y (c.bind=r.aj.aF)||y (c.bind∈fF r)||hT d c.ah !=hT d r.ah)=v->d4 (.bool v::eh c) W:=λv br=>a3 _ _ ⟨by rw[br],rfl⟩
 refine dH (λaA=>dH (λd8=>?_) (λd8=>ce ad (by grind))) (λaA=>ce ad (by grind));simp only[O,jE];have g1:(!(c.bind==r.aj.aF))= !y (c.bind=r.aj.aF):=by rw[iA];simp
 rw[g1];refine ib (λc1=>?_) (λc1=>ce ad (by grind));have i0:c.bind=r.aj.aF:=by simpa using c1
 let⟨s,T,el⟩:=h.bind _ ac eq;let⟨v,M,es⟩:=h.aF (by grind);have ho:hT d c.ah=d.Q[s].of:=by rw[hT,T,eR,bq el]
 have hs:hT d r.ah=d.Q[v].of:=by rw[hT,M,eR,bq es]
 have dl:=c2 _ (qg l);let⟨ke,hu,d7⟩:=dl.tb;let⟨i8,it,d3,fn,hk⟩:=d7.at el;let⟨i9,iG,hl,fy,hm⟩:=d7.at es;have B:(bO ab d.Q[s])[3]?=aa (I d.Q[s].of):=rfl;have p:(bO ab d.Q[v])[3]?=aa (I d.Q[v].of):=rfl;have kl:(fe r (.q U N 0 (Z r.ai)))[1]?=aa (I (v:Int)):=by rw[<-M]<;>rfl
 have f6:g (eh c) 2=I (s:Int):=by rw[<-T]<;>rfl
 have key:=ce (d.Q[s].of !=d.Q[v].of) (by rw[aA,d8,c1,ho,hs]<;>rfl);have g5:eh c=[g (eh c) 0,g (eh c) 1,g (eh c) 2,g (eh c) 3,g (eh c) 4,g (eh c) 5,g (eh c) 6,g (eh c) 7,g (eh c) 8]:=rfl;rw[g5]at key;simp only[co]at key;simp only[dl.nc,dl.ao,O,e,fY,hu,M,f6,d3,hl,pg fn,pg fy,c0 fn hk,c0 fy hm,B,p,cv]at key⊢;exact key;rintro J u ⟨rfl,rfl⟩;simp only[G,i,cs];refine b (λaA=>?_) (λaA=>?_);simp_all[tv]
 rw[if_neg (by grind)]at aR;simp only[aZ (show f<4611686018427387904 by omega),O];grind;have:f=Z r.ai:=by simp at m;omega
 subst this;rw[qq,na]at aR;have i3:tv d r=(r.aj.aF==[]||bv):=by rw[tv,aR]
 simp only[O,jE,bI,bz,G];refine BE (λx=>?_) (λx=>?_);refine dw (λm=>?_) (λm=>?_);simp_all;exact⟨0,0,rfl,by grind,a0 (qg l)⟩;simp only[c5,e6,if_false];exact⟨0,0,rfl,by grind,a0 (qg l)⟩
variable{hK:Nat × Obj}
section
variable{H:List Obj}{S m1 m2 m3:Nat}{lv fv pv rv dv:AV}{n1 n2 n3:hB}{PD PL PF PP F:aL}
theorem HX(a:aL):bf S m1 m2 m3 lv fv pv rv dv n1 n2 n3 PD PL PF PP (a++F)=bf S m1 m2 m3 lv fv pv rv dv n1 n2 n3 PD PL PF PP []++(a++F):=by simp[bf]
theorem bf.out{a:aL}(h:Holds H (bf S m1 m2 m3 lv fv pv rv dv n1 n2 n3 PD PL PF PP (a++F))):Holds H (a++bf S m1 m2 m3 lv fv pv rv dv n1 n2 n3 PD PL PF PP F):=by
 rw[HX]at h;have b:=h.swap;grind[bf]
theorem bf.HY{a:aL}(h:Holds H (a++bf S m1 m2 m3 lv fv pv rv dv n1 n2 n3 PD PL PF PP F)):Holds H (bf S m1 m2 m3 lv fv pv rv dv n1 n2 n3 PD PL PF PP (a++F)):=by
 have b:bf S m1 m2 m3 lv fv pv rv dv n1 n2 n3 PD PL PF PP F=bf S m1 m2 m3 lv fv pv rv dv n1 n2 n3 PD PL PF PP []++F:=HX [];rw[b]at h;rw[HX];exact h.swap
theorem bf.Xq(h:Holds H (bf S m1 m2 m3 lv fv pv rv dv n1 n2 n3 PD PL PF PP (hK::F))):Holds H (hK::bf S m1 m2 m3 lv fv pv rv dv n1 n2 n3 PD PL PF PP F):=bf.out (a:=[hK]) h
theorem bf.alQ(h:Holds H (hK::bf S m1 m2 m3 lv fv pv rv dv n1 n2 n3 PD PL PF PP F)):Holds H (bf S m1 m2 m3 lv fv pv rv dv n1 n2 n3 PD PL PF PP (hK::F)):=bf.HY (a:=[hK]) h
end
structure HZ(p:D)(lv fv pv:AV)(n1 n2 n3:hB)(PL PF PP:aL):Prop where
 gl:bB lv (bp ab) 4 p.aw PL
 gf:bB fv (cm ab) 7 (p.aO.map (eP p)) PF
 gp:bB pv (bO ab) 7 (p.Q.map (ew p)) PP
 k2:oD Fn.au p.aO n2
 alR:oD cO.au p.Q n3
variable{K b0:Type}
theorem Xr(a:K->b0)(c:b0->Bool)(b:List K):b2 c (b.map a)=b2 (λd=>c (a d)) b:=by
 unfold b2;rw[List.findIdx?_map]<;>rfl
variable{E dG oM:AV}{bo hL:aL}{oT oP:AV}{jt mI:aL}
theorem HZ.SC{c d:hB}(h:HZ V E dG oM iE c d k bo hL)
 (a:Holds M (bf U N z dp E dG oM oT oP iE c d jt k bo hL mI)):SC (eg V []) U M:=
 ⟨E,dG,oM,oT,N,z,dp,oP,c,d,bf.sc a,h.gl.gr (bf.pl a),h.gf.gr (bf.pf a),h.gp.gr (bf.pp a),bf.alj a,bf.alk a,
  λb=>by rw[h.k2 b];exact(Xr (eP V) (λe=>e.au==b) V.aO).symm,
  λb=>by rw[h.alR b];exact(Xr (ew V) (λe=>e.au==b) V.Q).symm⟩
theorem alS(h:iN bR=ad)(a:bR.aF=[]):0<bR.const.ty:=by
 grind[iN,nJ]
theorem alT(h:bY bL=ad):bL≠[]:=by
 rintro rfl;have:bY []=false:=by decide
 grind
theorem alU(h:oh P=ad):(P.ax=3\/P.ax=4)<->P.aj≠[]:=by
 unfold oh at h;simp only[ba]at h;grind[alT]
theorem alV{r:aD}(h:nK r=ad):∀a∈r.ai,oh a=true:=by
 unfold nK at h;simp only[ba]at h;exact(uE h.2).2
theorem alW(m:∀j∈V.Q,Z j.a6<=4/\∀i∈j.a6,i=1\/i=2){r:aD}(f:HM r)(k:gQ V r=ad)(h:r.ai.all (hS V)=ad):MH V (fi V r):=by
 have l:=WM m f k h;rw[eQ]at h;have g:∀c∈(fi V r).ai,∃a∈r.ai,c=iu V a:=by
  intro c b;simp only[fi,cy]at b;obtain⟨a,d,rfl⟩:=b;exact⟨a,d,rfl⟩
 refine{toEf:=l,HV:=f.af,Xn:=?_,vn:=λc b=>?_,bb:=λj u i e=>?_,Xo:=λc b p n o=>?_,Xp:=λc b e=>?_,kn:=λc b e=>?_};have:=f.ai;grind[fi];obtain⟨a,d,rfl⟩:=g c b;exact(f.lit a d).af;grind;obtain⟨a,d,rfl⟩:=g c b;exact alS ((f.lit a d).Aq p n) o;obtain⟨a,d,rfl⟩:=g c b;have e:a.ax=5:=e;show nR V a<0;grind[nR];obtain⟨a,d,rfl⟩:=g c b;have e:a.ax≠5:=e;let⟨q,t,s,_⟩:=HN (h a d) e;show 0<=nR V a;grind[nR]
theorem alX(a:List K)(e d:K)(c:List K)(b:Nat)(h:Z a=b):(a++e::c).set b d=a++d::c:=by
 simp_all
def rr(r:aD)(a b:Int)(c:List Lit):aD:=⟨r.au,a,r.af,⟨r.aj.ax,r.aj.au,r.aj.aF,b⟩,c,r.bb⟩
theorem alY(r:aD)(id g a:Nat):dO 9 (.agg (fe r (.q id g 0 a)))=aa (fe r (.q id g 0 a)):=iT rfl rfl
theorem Xs(b d:List (Int×Int))(c a:Int):oC (b++d) c a=b++oC d c a:=by
 grind[oC]
section
variable{H:List Obj}{S m1 m2 m3:Nat}{lv fv pv rv dv:AV}{n1 n2 n3:hB}{PD PL PF PP F:aL}
theorem bf.alZ{a:Nat×Obj}(h:Holds H (bf S m1 m2 m3 lv fv pv rv dv n1 n2 n3 PD PL PF PP (hK::a::F))):Holds H (a::bf S m1 m2 m3 lv fv pv rv dv n1 n2 n3 PD PL PF PP (hK::F)):=by
 have b:=(bf.out (a:=[hK,a]) h).perm (List.Perm.swap a hK _);have e:Holds H ([a]++(hK::bf S m1 m2 m3 lv fv pv rv dv n1 n2 n3 PD PL PF PP F)):=b;have d:Holds H (bf S m1 m2 m3 lv fv pv rv dv n1 n2 n3 PD PL PF PP (a::hK::F)):=bf.HY (a:=[a,hK]) b;exact bf.Xq d
theorem bf.al0{a:Nat×Obj}(h:Holds H (a::bf S m1 m2 m3 lv fv pv rv dv n1 n2 n3 PD PL PF PP (hK::F))):Holds H (bf S m1 m2 m3 lv fv pv rv dv n1 n2 n3 PD PL PF PP (hK::a::F)):=by
 have c:=bf.out (a:=[a,hK]) (bf.alQ h);exact bf.HY (a:=[hK,a]) (c.perm (List.Perm.swap hK a _))
end
def al1(c:D)(r:aD)(m p s t:Nat)(o n x y:AV)(u v w:hB)(k j l h:aL)(f:List (Int×Int))(z:AV)(i:List Obj):Prop:=
 ∃a d g e b,z=.agg (fe a (.q d 0 0 (Z a.ai)))/\bB g b3 2 b e/\Holds i (bf m p s t o n x y g u v w e k j l ((d,.arr 0 9 (a.ai.map eh))::h))/\Z b<=Z f+10/\
  (b=[]<->f=[]/\lE (eg c []) r)/\(lE (eg c []) r->a=fi (eg c []) r)
variable{ey:List (Int × Int)}{T:Bool}
theorem e8.al2(a5:e8 C){s t:hB}(v:D)(r:aD)(fy:eA (eg v []))(f0:HZ v E dG oM iE s t bo hL jt)
 (ho:∀f6∈v.Q,Z f6.a6<=4/\∀f1∈f6.a6,f1=1\/f1=2)(fd:nK r=ad)(ce:bB oP b3 2 ey k)(i0:Z ey<=900000)
 (d5:Holds M (bf U N z dp E dG oM oT oP iE s t k bo hL jt mI)):HR C 211 [.ptr U 0 0 0,.agg (aS T r)] M (al1 v r U N z dp E dG oM oT iE s t bo hL jt mI ey):=by
 have W:=WJ fd;have iG:=W.ai;have hw:=WN (rs:=[]) ho;have ex:=HO v [];apply TC.hq;apply aY (dW:=.ptr (Z M) 0 0 0) (oR:=M++[.arr 0 9 [aS T r]]) (by simp[nC]);have ak:=d5.alloc (.arr 0 9 [aS T r]);generalize M++[.arr 0 9 [aS T r]]=B at*;generalize Z M=p at*;have H:=bf.sc ak.tail;have am:B[p]?=aa (.arr 0 9 [aS T r]):=ak.get (by simp);have aF:aQ 1 ab (.ptr U 0 0 7) B=aa oP:=gA H rfl
 have f2:aQ 1 ab (.ptr p 0 0 2) B=aa (eS T cT r.af):=gA am rfl;have f3:aQ 1 ab (.ptr p 0 0 7) B=aa (eS T (bg T) r.ai):=gA am rfl;simp only[hV H,eF H,eF am,O,e,aF,f2,f3,ce.ln];refine c (a5.W0 r.af (by have:=W.af;omega)) ?_;apply qO _ (by simpa using a5.ak8 r.ai (by omega) B);have F:=(ak.alloc (.arr 0 9 [])).alloc (.arr 0 9 (r.ai.map (bg T)))
 have d4:B++[Obj.arr 0 9 [],.arr 0 9 (r.ai.map (bg T))]=B++[Obj.arr 0 9 []]++[.arr 0 9 (r.ai.map (bg T))]:=by simp
 rw[gC,jY]at F;rw[d4];generalize B++[Obj.arr 0 9 []]++[.arr 0 9 (r.ai.map (bg T))]=gc at*;generalize g5:Z B+1=d at*;have F:Holds gc ((p,.arr 0 9 [aS T r])::(d,.arr 0 9 (r.ai.map (bg T)))::bf U N z dp E dG oM oT oP iE s t k bo hL jt mI):=by
  refine Holds.perm (k:=(d,.arr 0 9 (r.ai.map (bg T)))::(p,.arr 0 9 [aS T r])::bf U N z dp E dG oM oT oP iE s t k bo hL jt mI) ?_ (List.Perm.swap _ _ _);exact Holds.tail (F.perm (List.Perm.swap _ _ _))
 clear d4 g5 ak H am aF f2 f3 d5;have ev:∀(f4:List AV)(m:List Obj),Holds m ((p,.arr 0 9 [f4])::(d,.arr 0 9 (r.ai.map (bg T)))::bf U N z dp E dG oM oT oP iE s t k bo hL jt mI)->Holds m ((p,.arr 0 9 ([[]].set 0 f4))::(d,.arr 0 9 (r.ai.map (bg T)))::bf U N z dp E dG oM oT oP iE s t k bo hL jt mI):=λ_ _ h=>h;have V:0<Z ([[]]:List (List AV)):=by decide
 have F:=ev _ _ F;simp only[ng F,O,e];refine tB V F (by simp[aS]) rfl rfl λio bv=>?_;simp only[ng bv,O,e];refine tB V bv (by simp[aS]) rfl rfl λge P=>?_;have P:Holds ge ((p,.arr 0 9 ([[]].set 0 (fe r (.q d 0 0 (Z r.ai)))))::(d,.arr 0 9 (r.ai.map (bg T)))::bf U N z dp E dG oM oT oP iE s t k bo hL jt mI):=P;have f7:∀a3 ac,(fe a3 ac)[8]?=aa (I a3.bb):=λ_ _=>rfl;simp only[ng P,sC V P,O,e,f7]
 clear F bv;have d8:∀m,Holds m ((d,.arr 0 9 (r.ai.map (bg T)))::bf U N z dp E dG oM oT oP iE s t k bo hL jt mI)->SC (eg v []) U m:=λm n=>f0.SC n.tail;refine c4 (alv (eg v []) r fy (by have:=W.af;grind[Sm]) ex V d8 P) rfl λJ go w=>?_;obtain⟨bi,l,o,rfl,hg,g9,R⟩:=w;simp only[ng R,sC V R,O,e,f7,mg,true_and];have f5:(ih r l o).bb=r.bb:=rfl;rw[f5];simp only[mg,true_and]
 have R:Holds go (bf U N z dp E dG oM oT oP iE s t k bo hL jt ((p,.arr 0 9 [fe (ih r l o) (.q d 0 0 (Z r.ai))])::(d,.arr 0 9 (r.ai.map (bg T)))::mI)):=bf.HY (a:=[(p,.arr 0 9 [fe (ih r l o) (.q d 0 0 (Z r.ai))]),(d,.arr 0 9 (r.ai.map (bg T)))]) R;refine c4 (bf.report R bi r.bb ce (by omega)) rfl λJ c1 w=>?_;obtain⟨rfl,d2,dl,d9,bD⟩:=w;have d0:∀a3 ac,(fe a3 ac)[7]?=aa ac:=λ_ _=>rfl
 have cc:c1[p]?=aa (.arr 0 9 [fe (ih r l o) (.q d 0 0 (Z r.ai))]):=bD.get (by simp[bf]);simp only[eF cc,O,e,gA cc (d0 _ _),oa];clear cc R P;have ek:bB d2 b3 2 (ey++oC [] bi r.bb) dl:=by rw[<-Xs,sQ];exact d9
 have fn:gQ (eg v []) r=ad->l=ka (eg v []) r/\o=oB (eg v []) r:=λh=>by
  have S:=g9 h;exact⟨congrArg aD.ah S,congrArg (λY=>Y.aj.aR) S⟩
 generalize d6:eg v []=g at*;have d7:∀{oP:AV}{k:aL}{mI:aL}{m:List Obj},Holds m (bf U N z dp E dG oM oT oP iE s t k bo hL jt mI)->SC g U m:=λn=>by rw[<-d6];exact f0.SC n
 clear d8 f5 ev ce d9;refine bG (K:=Nat×List Obj×List Lit×AV×List (Int×Int)×aL) (λj=>[I j.1,.str [],I 0,.aq,I 0,.str [],.str [],I 0,.aq,I 0]) (λj=>j.2.1) (λj=>Z r.ai -j.1) (λj=>j.1<=Z r.ai/\Holds j.2.1 (bf U N z dp E dG oM oT j.2.2.2.1 iE s t j.2.2.2.2.2 bo hL jt ((p,.arr 0 9 [fe (ih r l o) (.q d 0 0 (Z r.ai))])::(d,.arr 0 9 (j.2.2.1.map eh++(r.ai.drop j.1).map (bg T)))::mI))/\
  bB j.2.2.2.1 b3 2 (ey++j.2.2.2.2.1) j.2.2.2.2.2/\Z j.2.2.2.2.1<=1+j.1/\Z j.2.2.1=j.1/\(j.2.2.2.2.1=[]<->gQ g r=ad/\(r.ai.take j.1).all (hS g)=ad)/\((r.ai.take j.1).all (hS g)=ad->j.2.2.1=(r.ai.take j.1).map (iu g))) (0,c1,[],d2,oC [] bi r.bb,dl) ⟨by simp,bD,ek,B7,rfl,by simp[B6,hg],by simp⟩ ?_
 clear bD ek;rintro⟨f,m,x,oP,Y,k⟩ ⟨hk,n,au,h1,az,ax,aA⟩ ip co;simp only at hk n au h1 az ax aA co⊢;simp only[G,i,A,O,a];have cb:m[p]?=aa (.arr 0 9 [fe (ih r l o) (.q d 0 0 (Z r.ai))]):=n.get (by simp[bf]);refine b (λh=>?_) (λh=>?_);have h:f<Z r.ai:=by simpa using h
 have eq:r.ai[f]∈r.ai:=bn h;have el:r.ai.drop f=r.ai[f]::r.ai.drop (f+1):=oI h;have em:∀a9:List AV,(x.map eh++(r.ai.drop f).map (bg T)).set f a9=x.map eh++a9::(r.ai.drop (f+1)).map (bg T):=by
  intro a9;rw[el];exact alX _ _ _ _ _ (by simp[az])
 have X:f<Z (x.map eh++(r.ai.drop f).map (bg T)):=by simp;omega
 have hH:(x.map eh++(r.ai.drop f).map (bg T)).set f (bg T r.ai[f])=x.map eh++(r.ai.drop f).map (bg T):=by rw[em,el]<;>rfl
 have K:=bf.alZ n;rw[<-hH]at K;have hs:∀gU h3,(eh (kc r.ai[f] gU h3))[8]?=aa (I r.ai[f].bb):=λ_ _=>rfl;have hu:(eh r.ai[f])[8]?=aa (I r.ai[f].bb):=rfl;have i7:(r.ai.take (f+1)).map (iu g)=(r.ai.take f).map (iu g)++[iu g r.ai[f]]:=by
  rw[iy h,hJ]<;>rfl
 have ha:=WG (ee:=hS g) h;have cl:=W.lit _ eq;have hl:=alU (alV fd _ eq);generalize i6:r.ai[f]=y at*;generalize i2:x.map eh++(r.ai.drop f).map (bg T)=g4 at*;have h4:bP 9 (.q d 0 0 (Z r.ai)) (I (f:Int)) m=aa (.ptr d 0 f 0):=fw (Ep K) h;have g1:(bg T y)[3]?=aa (eS T cT y.af):=rfl;simp only[eF cb,O,e,gA cb (d0 _ _),h4,qf K,ng K,sC X K,g1];refine c (a5.W0 y.af (by have:=cl.af;omega)) ?_
 refine tB X K (by simp[bg]) rfl rfl λf9 L=>?_;have L:Holds f9 ((d,.arr 0 9 (g4.set f (eh y)))::bf U N z dp E dG oM oT oP iE s t k bo hL jt ((p,.arr 0 9 [fe (ih r l o) (.q d 0 0 (Z r.ai))])::mI)):=L;simp only[qf L,ng L,sC X L,O,e,hu];refine c4 (alw g y fy (by have:=cl.af;grind[Sm]) ex cl.cmp hl X (λm n=>d7 n) L) rfl λJ a4 w=>?_;obtain⟨bm,g0,id,rfl,hh,i5,u⟩:=w
 simp only[qf u,ng u,sC X u,O,e,hs,mg,true_and];rw[em]at u;have u:=bf.al0 u;refine c4 (bf.report u bm y.bb au (by grind)) rfl λJ cs w=>?_;obtain⟨rfl,d3,ds,ci,g6⟩:=w;rw[Xs]at ci;rw[aZ,O];have i8:=B7 (ey:=Y) (f:=bm) (ca:=y.bb);refine co (f+1,cs,x++[kc y g0 id],d3,oC Y bm y.bb,ds) ⟨h,?_,ci,by simp only;omega,by simp[az],?_,?_⟩ (by simp;omega);grind;rw[B6,ax,ha,hh,and_assoc];grind
 have:f=Z r.ai:=by simp at h;omega
 subst this;clear co;rw[dY]at ax aA;rw[qq,ns,sQ]at n;have g8:lE g r<->(gQ g r=ad/\r.ai.all (hS g)=ad)/\vG g (fi g r):=by unfold lE;rw[and_assoc]
 refine kT (λJ f8=>∃d1 c2 be,bB d1 b3 2 be c2/\Holds f8 (bf U N z dp E dG oM oT d1 iE s t c2 bo hL jt ((p,.arr 0 9 [fe (ih r l o) (.q d 0 0 (Z r.ai))])::(d,.arr 0 9 (x.map eh))::mI))/\Z be<=Z ey+10/\(be=[]<->ey=[]/\lE g r)) (λi9 i4=>?_) ?_;have H:=bf.sc n;have aF:aQ 1 ab (.ptr U 0 0 7) m=aa oP:=gA H rfl
 simp only[hV H,eF H,O,e,aF,au.ln,c6,mj cb (show([fe (ih r l o) (.q d 0 0 (Z r.ai))])[0]?=aa _ from rfl) (show Z (fe (ih r l o) (.q d 0 0 (Z r.ai)))=9 from rfl)];refine b (λbr=>?_) (λbr=>?_);have hO:Y=[]:=by
  rw[beq_iff_eq]at br;rw[gC]at br;exact tO (by omega)
 subst hO;let⟨a0,a2⟩:=ax.1 rfl;obtain⟨rfl,rfl⟩:=fn a0;have hm:=aA a2;have hx:fe (ih r (ka g r) (oB g r)) (.q d 0 0 (Z r.ai))=fe (fi g r) (.q d 0 0 (Z (fi g r).ai)):=by
  have:Z (fi g r).ai=Z r.ai:=by simp[fi]
  rw[this]<;>rfl
 have hn:x.map eh=(fi g r).ai.map eh:=by rw[hm]<;>rfl
 rw[hx];refine c4 (alP (U:=d) (N:=0) g (fi g r) (alW hw W a0 a2) (λm n=>d7 n) (λm n=>?_) n) rfl λJ a4 w=>?_;rw[<-hn];exact n.get (by simp[bf]);obtain⟨S,l,rfl,i1,u⟩:=w;simp only[fK,dj,eH,O];refine c4 (bf.report u S l au (by grind)) rfl λJ cs w=>?_;obtain⟨rfl,d3,ds,ci,g6⟩:=w;grind[B7,B6];grind;rintro J a4 ⟨g3,gt,g2,hj,u,he,i3⟩
 have g7:a4[p]?=aa (.arr 0 9 [fe (ih r l o) (.q d 0 0 (Z r.ai))]):=u.get (by simp[bf]);simp only[mj g7 (show([fe (ih r l o) (.q d 0 0 (Z r.ai))])[0]?=aa _ from rfl) (show Z (fe (ih r l o) (.q d 0 0 (Z r.ai)))=9 from rfl),O,alY];refine⟨rr r l o x,d,g3,gt,g2,?_,hj,(bf.Xq u).tail,he,by grind,λes=>?_⟩;have:Z (rr r l o x).ai=Z r.ai:=az;rw[this]<;>rfl
 rw[d6]at es⊢;let⟨⟨a0,a2⟩,_⟩:=g8.1 es;obtain⟨rfl,rfl⟩:=fn a0;rw[aA a2]<;>rfl
def vL(a:aD×Nat):List AV:=fe a.1 (.q a.2 0 0 (Z a.1.ai))
def H0(a:aD×Nat):Nat×Obj:=(a.2,.arr 0 9 (a.1.ai.map eh))
@[simp] theorem al3(a:aD×Nat):Z (vL a)=9:=rfl
section
variable{H:List Obj}{S m1 m2 m3:Nat}{lv fv pv rv dv:AV}{n1 n2 n3:hB}{PD PL PF PP PR PB:aL}
theorem bf.yt(h:Holds H (bf S m1 m2 m3 lv fv pv rv dv n1 n2 n3 PD PL PF PP (hK::(PR++PB)))){b:List (aD×Nat)}(s:bB rv vL 9 b PR)(a:aD×Nat)(y:Z b<1000000)
 (f:∀n l j,bB n vL 9 (b++[a]) l->Holds j (bf S m1 m2 m3 lv fv pv n dv n1 n2 n3 PD PL PF PP (l++(hK::PB)))->iD j):
 cq (cJ 9 128 rv (.sl ab [vL a]) H) λt c=>bd (iL (.ptr S 0 0 0) c) λu=>bd (dK 0 u c) λv=>bd (dK 3 v c) λw=>bd (du 1 w t c) λr=>iD r:=by
 let T:=PD++((m1,cg n1)::(m2,cg n2)::(m3,cg n3)::(PL++(PF++PP)));have eq:∀rv i,bf S m1 m2 m3 lv fv pv rv dv n1 n2 n3 PD PL PF PP i=(S,fW lv fv pv rv m1 m2 m3 dv)::(T++i):=by grind[bf]
 rw[eq]at h;simp only[eq]at f;clear eq;have p:Holds H (((S,fW lv fv pv rv m1 m2 m3 dv)::(T++[hK]))++(PR++PB)):=by simpa using h
 let⟨id,g,k,o,m⟩:=s.app (bytes:=128) p.swap a (al3 a) (by omega);apply aY o;have d:=m.get (U:=S) (gF:=fW lv fv pv rv m1 m2 m3 dv) (by simp);simp only[hV d,eF d,O,e,fY];refine aI (lF d rfl (by omega) rfl rfl) (f _ [(id,.arr g 9 ((b++[a]).map vL))] _ bB.of ?_);have x:Holds k (((S,fW lv fv pv rv m1 m2 m3 dv)::T)++(id,.arr g 9 ((b++[a]).map vL))::(hK::PB)):=by
  apply Holds.front;simpa using m
 change Holds (k.set S (fW lv fv pv (.q id g 0 (Z (b++[a]))) m1 m2 m3 dv)) _;grind[Holds.set]
end
theorem al4{a:aD×Nat}(h:M[a.2]?=aa (.arr 0 9 (a.1.ai.map eh))):b7 M .res (vL a) (aS ab a.1):=
 .ck (.str _ _) (.ck (.int _ _ _) (.ck eu (.ck (.int _ _ _) (.ck (.str _ _) (.ck (.str _ _) (.ck (.int _ _ _) (.ck (ic (a7:=bg ab) h (by simp)) (.ck (.int _ _ _) (.nil _)))))))))
theorem al5{b:List (aD×Nat)}(h:Gr M E vL 9 b)(e:∀a∈b,M[a.2]?=aa (.arr 0 9 (a.1.ai.map eh))):aM M .res E (eS ab (aS ab) (b.map Prod.fst)):=by
 rcases h with⟨c,h⟩|⟨id,g,h,d⟩;rw[c,h];exact .aq _ _;rw[h];refine .pK id g 0 _ 9 _ _ d (by simp) ?_;rw[lq,gT (by simp)];exact Mn λa f=>al4 (e a f)
theorem al6:mb [.aq,.aq,.aq,.aq] []=aa [.aq,.aq,.aq,.aq]:=rfl
def al7(c:D)(d:AV):Prop:=∃a b,d=.aB [.agg a,eS ab b3 b]/\Z a=4/\a.all AV.bU=ad/\(b=[]<->xd c)/\(b=[]->a=cP ab ab (sA c))
theorem MI(a b:Int):tW [I a,I b]=aa (I (min a b)):=by
 have:(if b<a then b else a)=min a b:=by split<;>omega
 show aa (AV.int .i64 (if b<a then b else a))=_;rw[this]
theorem al8{id g len:Nat}(h:M[id]?=aa (.arr g N b1))(a:Z b1=len)(b:U<=len):fA (.sl N) (.q id g 0 len) ae (aa (I (U:Int))) M=aa (.q id g 0 U):=by
 simp_all[eT,fA]
variable{F:Bool}
theorem e8.al9(bi:e8 C)(d:D)(aA:eA d):∃N,PR C 150 [.agg (cP T F d)] N/\al7 d N:=by
 apply RF.ex;simp only[eE,O,gy];apply c (bi.ain d aA);simp only[bI,O];have d4:∀be:List Obj,aM be .res (.agg [.aq,.aq,.aq,.aq]) (.agg [.sl ab [],.sl ab [],.sl ab [],.sl ab []]):=λbe=>.agg _ _ _ (.ck (.aq _ _) (.ck (.aq _ _) (.ck (.aq _ _) (.ck (.aq _ _) (.nil _)))));refine dw (λh=>?_) (λh=>?_)
 refine aI (dW:=[.aq,.aq,.aq,.aq]) rfl (aI (dW:=[I 1,I 0]) rfl (aI (dW:=.sl ab [[I 1,I 0]]) rfl (aI (dW:=[.aq,.aq,.aq,.aq]) rfl ?_)));refine⟨.aB [.agg [.sl ab [],.sl ab [],.sl ab [],.sl ab []],eS ab b3 [(1,0)]],.aB _ _ _ (.ck (d4 _) (.ck ?_ (.nil _))),_,_,rfl,rfl,rfl,?_,by simp⟩;exact Im.snap (nE (a7:=b3) (by simp) ab [((1:Int),(0:Int))]);constructor;grind;intro f0;have:=f0.1;grind
 ·have U:=B4 h
  have d1:Z d.ak<=40/\∀r∈d.ak,nK r=true:=by
   unfold rY at h;simp only[ba]at h;have:=uE h.2;exact⟨by omega,this.2⟩
  refine c4 (bi.als (T:=T) (F:=F) (M:=[]) (k:=[]) d aA ⟨by simp,by simp⟩ (by have:=U.aw;omega) (by have:=U.aO;omega) (by have:=U.Q;omega) (λcs eq=>(U.fn cs eq).1)) rfl λN d7 cl=>?_;obtain⟨t,a0,a2,a3,L,B,M,k,a4,a5,a9,s,Y,R,ac,g4,j,rfl,bv,o,cb,ce,cc,ci,ha,f4,f5,c2,dl⟩:=cl;have g6:∀r∈d.ak,pZ r:=aA.iU;have gc:eA (eg d []):=WO aA (by simp[Sm]) (by simp)
  have f2:∀{n:List Obj}{k:AV}{co:List AV},n[t]?=aa (.arr 0 8 [co])->co[7]?=aa k->aQ 1 ab (.ptr t 0 0 7) n=aa k:=λu p=>gA u p;have g9:=d1.1;refine kT (λN n=>∃k j s w y PR,bB k b3 2 j s/\bB w vL 9 y PR/\Holds n (bf t a0 a2 a3 L B M w k a4 a5 a9 s Y R ac (PR++y.reverse.map H0))/\Z j<=2000/\(j=[]<->xd d)/\(j=[]->y.map Prod.fst=d.ak.map (fi (eg d [])))) (λhh d0=>?_) ?_;have m:=bf.sc bv
  simp only[hV m,eF m,O,e,f2 m (show(HS L B M .aq a0 a2 a3 k)[7]?=aa k from rfl),o.ln,c6,bh,aJ,pb,aX];refine b (λu=>?_) (λu=>?_);have v:j=[]:=by
   rw[beq_iff_eq]at u;exact tO (by omega)
  subst v;have E:qd d=true:=c2.1 rfl;have ge:HZ d L B M a4 a5 a9 Y R ac:=by
   refine⟨ce,?_,ci,f4,f5⟩;have br:=dl E;rcases cc with⟨az,S,bm⟩|⟨id,g,az,S⟩;refine .inl ⟨?_,S,bm⟩;simp_all;refine .inr ⟨id,g,?_,?_⟩;grind;simp_all
  refine bG (K:=Nat×List Obj×AV×List (Int×Int)×aL×AV×List (aD×Nat)×aL) (λf=>[I f.1,.aq,.aq,.aq,.aq]) (λf=>f.2.1) (λf=>Z d.ak -f.1) (λf=>f.1<=Z d.ak/\bB f.2.2.1 b3 2 f.2.2.2.1 f.2.2.2.2.1/\bB f.2.2.2.2.2.1 vL 9 f.2.2.2.2.2.2.1 f.2.2.2.2.2.2.2/\Holds f.2.1 (bf t a0 a2 a3 L B M f.2.2.2.2.2.1 f.2.2.1 a4 a5 a9 f.2.2.2.2.1 Y R ac (f.2.2.2.2.2.2.2++f.2.2.2.2.2.2.1.reverse.map H0))/\
   Z f.2.2.2.1<=10*f.1/\Z f.2.2.2.2.2.2.1=f.1/\(f.2.2.2.1=[]<->∀r∈d.ak.take f.1,lE (eg d []) r)/\((∀r∈d.ak.take f.1,lE (eg d []) r)->f.2.2.2.2.2.2.1.map Prod.fst=(d.ak.take f.1).map (fi (eg d [])))) (0,d7,k,[],s,.aq,[],[]) ⟨by simp,o,bB.nil _ _,by simpa using bv,by simp,rfl,by simp,by simp⟩ ?_
  clear o bv m;rintro⟨W,n,k,j,s,w,y,PR⟩ ⟨f1,o,H,l,cb,d2,J,K⟩ g3 d3;simp only at f1 o H l cb d2 J K d3⊢;simp only[G,i,A,O,a];refine b (λp=>?_) (λp=>?_);have p:W<Z d.ak:=by simpa using p
  have f8:d.ak[W]∈d.ak:=bn p;have m:=bf.sc l;have gt:aQ 1 ab (.ptr t 0 0 3) n=aa w:=gA m rfl;have em:∀r:aD,(AV.agg [.str r.au,I r.ah,eS T cT r.af,I r.aj.ax,.str r.aj.au,.str r.aj.aF,I r.aj.aR,eS T (bg T) r.ai,I r.bb])=.agg (aS T r):=λ_=>rfl;simp only[aE p (mP _ _),O,nF,yd,vh,wN,vi,vj,vk,vl,wO,vm,uj,em,hV m,eF m,e,gt]
  refine c4 (bi.al2 (T:=T) d d.ak[W] gc ge U.a6 (d1.2 _ f8) o (by omega) l) rfl λN d5 cl=>?_;obtain⟨X,P,el,d8,ek,rfl,es,c1,g7,g8,f7⟩:=cl;have bD:=bf.sc c1;have gU:aQ 1 ab (.ptr t 0 0 3) d5=aa w:=gA bD rfl;simp only[hV bD,eF bD,O,e,gU,mg,true_and];rw[vJ (U:=9) (row:=fe X (.q P 0 0 (Z X.ai))) rfl rfl,O];refine bf.yt (hK:=H0 (X,P)) c1 H (X,P) (by omega) λg1 d9 d6 fy g5=>?_;rw[aZ,O]
  refine d3 (W+1,d6,el,ek,d8,g1,y++[(X,P)],d9) ⟨p,es,fy,?_,by grind,by simp[d2],?_,?_⟩ (by simp;omega);grind;grind[List.take_succ_eq_append_getElem];intro z;rw[iy p]at z⊢;have br:=f7 (z _ (dt.2 (.inr (by simp))));rw[hJ,hJ,K λr f6=>z r (dt.2 (.inl f6)),Jj,Jj,<-br];have:W=Z d.ak:=by simp at p;omega
  subst this;rw[dY]at J K;refine d0 _ _ ⟨k,j,s,w,y,PR,o,H,l,by omega,?_,λV=>K (J.1 V)⟩;rw[J];exact⟨λx=>⟨h,E,x⟩,λx=>x.2.2⟩;have v:j≠[]:=by
   rintro rfl;simp at u
  have E:¬qd d=true:=λh=>v (c2.2 h);refine d0 _ _ ⟨k,j,s,.aq,[],[],o,bB.nil _ _,by grind,by omega,?_,λV=>absurd V v⟩;exact⟨λV=>absurd V v,λx=>absurd x.2.1 E⟩
  ·rintro N n ⟨k,j,s,w,y,PR,o,H,l,cb,J,K⟩
   have m:=bf.sc l;have g0:aQ 1 ab (.ptr t 0 0 7) n=aa k:=gA m rfl;simp only[hV m,eF m,O,e,g0,o.ln,eU];refine b (λu=>?_) (λu=>?_);have v:j≠[]:=by
    rintro rfl;simp at u
   rcases o with⟨az,-,-⟩|⟨id,g,rfl,rfl⟩;grind;have ds:n[id]?=aa (.arr g 2 (j.map b3)):=l.get (by simp[bf]);have f3:min ((Z j:Nat):Int) 20=((min (Z j) 20:Nat):Int):=by omega
   rw[al6,O,MI,O,f3,al8 ds (by simp) (by omega),O];refine aI (dW:=[.aq,.aq,.aq,.aq]) rfl ?_;simp only[O,mg,true_and];refine⟨.aB [.agg [.sl ab [],.sl ab [],.sl ab [],.sl ab []],eS ab b3 (j.take (min (Z j) 20))],.aB _ _ _ (.ck (d4 _) (.ck ?_ (.nil _))),_,_,rfl,rfl,rfl,?_,?_⟩;refine .pK id g 0 _ 2 _ _ ds (by simp;omega) ?_;rw[lq,<-OV];exact Eg λz _=>bT.snap (by simp);simp_all;simp_all
   ·have v:j=[]:=by simpa using u
    have x:=J.1 v;have E:=x.2.1;have go:aQ 4 ad (.ptr t 0 0 0) n=aa (.agg [L,B,M,w]):=by simp[aQ,wo,m,fW,HS,qv]
    rw[go,O,iT (U:=4) rfl (by simp[ce.cell,cc.cell,ci.cell,H.cell]),O];simp only[G,i];have fd:bB B (cm ab) 7 (d.aO.map (eP d)) R:=by
     have br:=dl E;rcases cc with⟨az,S,bm⟩|⟨id,g,az,S⟩;refine .inl ⟨?_,S,bm⟩;simp_all;refine .inr ⟨id,g,?_,?_⟩;grind;simp_all
    have f9:Holds n (PR++(bf t a0 a2 a3 L B M w k a4 a5 a9 s Y R ac []++y.reverse.map H0)):=by
     rw[HX]at l;exact l.swap
    refine⟨.aB [.agg (cP ab ab (sA d)),eS ab b3 []],.aB _ _ _ (.ck (.agg _ _ _ (.ck ((ce.gr (bf.pl l)).res (by simp)) (.ck ((fd.gr (bf.pf l)).res (by simp)) (.ck ((ci.gr (bf.pp l)).res (by simp)) (.ck ?_ (.nil _)))))) (.ck (.aq _ _) (.nil _))),_,_,rfl,rfl,rfl,⟨λ_=>x,λ_=>rfl⟩,λ_=>rfl⟩;have:=al5 (H.gr f9) λz he=>l.get (U:=z.2) (gF:=.arr 0 9 (z.1.ai.map eh)) (by
     simp only[bf,b6,dt]
     right;right;right;right;right;right;right;right;right
     exact cy.2 ⟨z,by grind,rfl⟩)
    rw[K v]at this;exact this
theorem ama{r:aD}:r=fi V r<->(r.ah=ka V r/\r.aj={r.aj with aR:=oB V r})/\r.ai=r.ai.map (iu V):=by
 constructor;intro h;exact⟨⟨congrArg aD.ah h,congrArg aD.aj h⟩,congrArg aD.ai h⟩;rintro⟨⟨a,b⟩,c⟩;have h:fi V r=⟨r.au,ka V r,r.af,{r.aj with aR:=oB V r},r.ai.map (iu V),r.bb⟩:=rfl;rw[h,<-a,<-b,<-c]
theorem amb:vK P (iu V P)=ad<->P=iu V P:=by
 simp only[vK,ba,beq_iff_eq];constructor;rintro⟨a,b⟩;have h:iu V P=⟨P.ax,P.au,(iu V P).ah,P.af,P.bind,P.aj,(iu V P).iG,P.op,P.bb⟩:=rfl;rw[h,<-a,<-b];intro h;exact⟨congrArg Lit.ah h,congrArg Lit.iG h⟩
variable{x:List K}
theorem H2{b:K->K}:x=x.map b<->∀a∈x,a=b a:=by
 constructor;intro h a c;obtain⟨d,g,rfl⟩:=sO c;grind;intro h;refine qs (by simp) λd e f=>?_;grind
variable{cj:Nat -> Bool}
theorem Xt{b:K->K}{c:K->K->Bool}(f:∀a(e:a<Z x),cj a=c x[a] (b x[a])):(ay (Z x)).all cj=ad<->∀d∈x,c d (b d)=true:=by
 grind[List.getElem_of_mem]
theorem Xu{r:aD}:xg r (fi V r)=ad<->r=fi V r:=by
 rw[ama,H2];simp only[xg,ba,beq_iff_eq,decide_eq_true_eq];have c:(fi V r).ai=r.ai.map (iu V):=rfl;rw[c];constructor;rintro⟨a,-,b⟩;exact⟨a,λe d=>amb.1 ((Xt (c:=vK) (b:=iu V) (by grind)).1 b e d)⟩;rintro⟨a,g⟩;exact⟨a,by simp,by grind[vK,iu]⟩
theorem amc{a:List aD}:Ej a (a.map (fi V))=ad<->a=a.map (fi V):=by
 rw[H2,Ej,ba];constructor;rintro⟨-,b⟩;exactλd c=>Xu.1 ((Xt (c:=xg) (b:=fi V) (by grind)).1 b d c);grind[Xu]
theorem Xv:V=sA V<->(∀a∈V.aO,a=eP V a)/\(∀b∈V.Q,b=ew V b)/\V.ak=V.ak.map (fi (eg V [])):=by
 rw[<-H2,<-H2];constructor;intro h;exact⟨congrArg D.aO h,congrArg D.Q h,congrArg D.ak h⟩;rintro⟨c,d,e⟩;have h:sA V=⟨V.aw,V.aO.map (eP V),V.Q.map (ew V),V.ak.map (fi (eg V []))⟩:=rfl;rw[h,<-c,<-d,<-e]
theorem amd{a:Fn}:a=eP V a<->a.of=(eP V a).of/\a.gU=(eP V a).gU:=by
 constructor;grind;rintro⟨b,c⟩;have h:eP V a={a with of:=(eP V a).of,gU:=(eP V a).gU}:=rfl;rw[h,<-b,<-c]
variable{oS:cO}
theorem Xw:oS=ew V oS<->oS.of=(ew V oS).of:=by
 constructor;grind;intro a;have h:ew V oS={oS with of:=(ew V oS).of}:=rfl;rw[h,<-a]
open Classical in
theorem e8.Xx(H:e8 C)(d:D)(n:eA d):PR C 90 [.agg (cP T F d)] (.bool (lh d)):=by
 apply SD.pr;obtain⟨a0,ac,aR,J,rfl,V,N,U,X⟩:=H.al9 (T:=T) (F:=F) d n;simp only[eE,O,gy];apply c ac;simp only[fK,dj,eH,O];rw[iT V N,O];have x:lh d=y (xd d/\d=sA d):=by
  rw[lh,decide_eq_decide];unfold iY xd sA;constructor;rintro⟨q,T,t,o⟩;exact⟨⟨q,T,t⟩,o⟩;rintro⟨⟨q,T,t⟩,o⟩;exact⟨q,T,t,o⟩
 simp only[aX,eU,O];refine b (λh=>?_) (λh=>?_);grind[bK];have B:J=[]:=by simpa using h
 have L:=U.1 B;rw[X B];have x:lh d=y (d=sA d):=by
  rw[x,decide_eq_decide];exact⟨λh=>h.2,λh=>⟨L,h⟩⟩
 have K:cP ab ab (sA d)=[eS ab (bp ab) d.aw,eS ab (cm ab) (d.aO.map (eP d)),eS ab (bO ab) (d.Q.map (ew d)),eS ab (aS ab) (d.ak.map (fi (eg d [])))]:=rfl;have W:¬d=sA d->lh d=false:=by grind
 rw[Xv]at W;simp only[K,G,i,bh,O,aJ,wz,kv,pb,e,aX];apply bG (K:=Nat) (λl=>[ff,I l,eS ab (bp ab) d.aw,eS ab (cm ab) (d.aO.map (eP d)),eS ab (bO ab) (d.Q.map (ew d)),eS ab (aS ab) (d.ak.map (fi (eg d [])))]) (λ_=>[]) (λl=>Z d.aO -l) (λl=>l<=Z d.aO/\∀k(w:k<Z d.aO),k<l->d.aO[k]=eP d d.aO[k]) 0 ⟨by simp,λk _ h=>by omega⟩;rintro g ⟨E,v⟩ z p;have R:=n.aO;have az:=n.Q;simp only[G,i,A,O,a]
 refine b (λf=>?_) (λf=>?_);have f:g<Z d.aO:=by simpa using f
 have u:g<Z (d.aO.map (eP d)):=by simpa using f
 have S:d.aO[g]∈d.aO:=bn f;simp only[aE f (s5 _ _),aE u (s5 _ _),O,Dq,F6,GN,GO,Uy,GP,GQ,Uz,GR,xD,bh,aJ,QN,QO,e,cv];have ah:d.aO[g]=eP d d.aO[g]->bd (aT .s .add (I g) (I 1)) λai=>z [ff,ai,eS ab (bp ab) d.aw,eS ab (cm ab) (d.aO.map (eP d)),eS ab (bO ab) (d.Q.map (ew d)),eS ab (aS ab) (d.ak.map (fi (eg d [])))] []:=by
  intro P;rw[aZ (by unfold Sm at R;omega),O];refine p (g+1) ⟨f,λk w ax=>?_⟩ (by omega);by_cases o:k=g;subst o;exact P;exact v k w (by omega)
 have M:=(n.fn _ S).2.2;generalize d.aO[g]=j at*;rw[amd]at ah;have af:¬(j.of=(eP d j).of/\j.gU=(eP d j).gU)->lh d=false:=by grind
 rw[bz];refine dH (λm=>?_) (λm=>?_);have m:j.of=(eP d j).of:=by simpa using m
 apply c (akZ j.gU (eP d j).gU M);simp only[bI,O,G,i];refine dw (λam=>bK (af λh=>?_)) (by grind);grind;simp_all;have:g=Z d.aO:=by simp at f;omega
 subst this;clear p;have au:∀j∈d.aO,j=eP d j:=by grind[List.getElem_of_mem]
 apply bG (K:=Nat) (λl=>[ff,I l,eS ab (bp ab) d.aw,eS ab (cm ab) (d.aO.map (eP d)),eS ab (bO ab) (d.Q.map (ew d)),eS ab (aS ab) (d.ak.map (fi (eg d [])))]) (λ_=>[]) (λl=>Z d.Q -l) (λl=>l<=Z d.Q/\∀k(w:k<Z d.Q),k<l->d.Q[k]=ew d d.Q[k]) 0 ⟨by simp,λk _ h=>by omega⟩;clear v E f;rintro g ⟨E,v⟩ z p;simp only[G,i,A,O,a];refine b (λf=>?_) (λf=>?_);have f:g<Z d.Q:=by simpa using f
 have u:g<Z (d.Q.map (ew d)):=by simpa using f
 have aF:d.Q[g]∈d.Q:=bn f;simp only[aE f (ji _ _),aE u (ji _ _),O,wu,yb,te,xD,bh,aJ,Dv,e,cv];refine b (λm=>?_) (λm=>?_);grind[bK,Xw];have m:d.Q[g].of=(ew d d.Q[g]).of:=by simpa using m
 grind[aZ,Sm,O,Xw];have:g=Z d.Q:=by simp at f;omega
 subst this;clear p;have aA:∀j∈d.Q,j=ew d j:=by grind[List.getElem_of_mem]
 apply c (ak4 d.ak (d.ak.map (fi (eg d []))) n.ak λr Y=>(n.iU r Y).2.1);apply iW;rw[x,iA,decide_eq_true_eq,amc,Xv];grind
theorem Xy(b:D)(a:Int):PR C 103 [.agg (cP T F b),I a] (.bool (dZ b a)):=by
 apply RY.pr;simp only[eE,O,bh,aJ,kv,e,aX,hz,A,bz,G];exact aV (by simp_all[dZ]) (by grind[bK,dZ])
theorem Xz(a:Lit):PR C 96 [.agg (bg T a)] (.bool (jG a)):=by
 apply S6.pr;simp only[rU,O,bh,aJ,ud,e,c6,bz,G];exact dH (by simp_all[jG]) (by simp_all[jG])
variable{bC c8:Bool}
theorem XA(a:D)(r:aD)(b:Lit):PR C 95 [.agg (cP T F a),.agg (aS bC r),.agg (bg c8 b)] (.bool (nN a r b)):=by
 apply S5.pr;simp only[eE,o9,rU,O,bh,aJ,gy,Bo,ud,zE,e,cv,bz,G];refine aV (λd=>?_) (by simp_all[nN]);refine c (Xy a _) (aV (λh=>?_) (λh=>bK (by rw[nN,h]<;>rfl)));exact c (Xy a _) (iW (by rw[nN,h,d];simp))
def tE(id:Nat)(a:List Edge):AV:=.q id (Z a) 0 (Z a)
def ni(a:List Edge):List Obj:=[.arr 0 2 [],.arr 0 1 [],.arr (Z a) 2 (a.map ow),.arr (Z a) 1 (a.map so)]
theorem ame(a:List Edge)(b:Edge)(n:Z a<1099511627776):∃f,cJ 2 16 (tE 2 a) (.sl ab [b3 b.1]) (ni a)=aa (tE 2 (a++[b]),f)/\cJ 1 1 (tE 3 a) (.sl ab [cB b.2]) f=aa (tE 3 (a++[b]),ni (a++[b])):=by
 have c:=p2 (M:=ni a) (id:=2) (U:=2) (bytes:=16) (N:=Z a) (a7:=ow) (x:=a) b (by simp[ni]) rfl (by omega);have h:a1 (ni a) 2 2 ow (Z a) a=ni a:=rfl;rw[h]at c;have e:Z (a++[b])=Z a+1:=by simp
 have d:=p2 (M:=a1 (ni a) 2 2 ow (Z a+1) (a++[b])) (id:=3) (U:=1) (bytes:=1) (N:=Z a) (a7:=so) (x:=a) b (by simp[ni,a1]) rfl (by omega);have i:a1 (a1 (ni a) 2 2 ow (Z a+1) (a++[b])) 3 1 so (Z a) a=a1 (ni a) 2 2 ow (Z a+1) (a++[b]):=rfl;rw[i]at d;rw[e]at c d;refine⟨a1 (ni a) 2 2 ow (Z a+1) (a++[b]),?_,?_⟩;simp only[tE,e];exact c;simp only[tE,ni,e];exact d
theorem amf(a:List Edge):aM (ni a) .res (.aB [(tE 2 a).pl,(tE 3 a).pl]) (.aB [eS ab b3 (a.map (·.1)),eS ab cB (a.map (·.2))]):=by
 refine .aB _ _ _ (.ck ?_ (.ck ?_ (.nil _)));have:=ic (M:=ni a) (id:=2) (U:=2) (N:=Z a) (a7:=b3) (x:=a.map (·.1)) (by simp_all[ni,ow]) (by simp);rw[jX]at this;exact this;have:=ic (M:=ni a) (id:=3) (U:=1) (N:=Z a) (a7:=cB) (x:=a.map (·.2)) (by simp_all[ni,so]) (by simp);rw[jX]at this;exact this
theorem XB(d:D)(p:mq d):PR C 73 [.agg (cP T F d)] (.aB [eS ab b3 ((kO d).map (·.1)),eS ab cB ((kO d).map (·.2))]):=by
 apply SB.pr;simp only[eE,O,e4,fh,bh,aJ,gy,pb,e,aX,dR,e2,hG,kI];apply bG (K:=Nat) (λf=>[tE 2 ((d.ak.take f).foldl (p7 d) []),tE 3 ((d.ak.take f).foldl (p7 d) []),I f]) (λf=>ni ((d.ak.take f).foldl (p7 d) [])) (λf=>Z d.ak -f) (λf=>f<=Z d.ak) 0 (by simp);intro f P K B;simp only[i,G,A,O,a];refine b (λh=>?_) (λh=>?_);have h:f<Z d.ak:=by simpa using h
 have s:=B (f+1) h (by omega);simp only[mV h]at s;have N:=p.2.1 _ (bn h);have S:=p.1;have v:=D3 d 100 (d.ak.take f) (λr z=>p.2.1 r (sL z)) [];rw[h0,e2]at v;have R:min f (Z d.ak)*100<=100*100:=mB _ (by omega);generalize(d.ak.take f).foldl (p7 d) []=l at*;simp only[aE h (mP _ _),O,nF,yd,vh,wN,vi,vj,vk,vl,wO,vm,uj,aX]
 apply bG (K:=Nat) (λg=>tE 2 ((d.ak[f].ai.take g).foldl (j6 d d.ak[f]) l)::tE 3 ((d.ak[f].ai.take g).foldl (j6 d d.ak[f]) l)::I g::aS T d.ak[f]) (λg=>ni ((d.ak[f].ai.take g).foldl (j6 d d.ak[f]) l)) (λg=>Z d.ak[f].ai -g) (λg=>g<=Z d.ak[f].ai) 0 (by simp);intro g Q L E;simp only[i,G,vh,wN,vi,vj,vk,vl,wO,vm,uj,A,O,a];refine b (λk=>?_) (λk=>?_);have k:g<Z d.ak[f].ai:=by simpa using k
 have n:=E (g+1) k (by omega);simp only[mV k]at n;have w:=Hn d d.ak[f] (d.ak[f].ai.take g) l;rw[h0]at w;generalize(d.ak[f].ai.take g).foldl (j6 d d.ak[f]) l=m at*;have y:∀j:Lit,(AV.agg [AV.int .i64 j.ax,.str j.au,I j.ah,eS T cT j.af,.str j.bind,.str j.aj,I j.iG,I j.op,I j.bb])=.agg (bg T j):=λ_=>rfl;simp only[aE k (jC _ _),O,o8,yc,wG,wH,yp,wI,wJ,wK,yq,wL,wM,y,bz,wU,yv,mg,true_and]
 have x:(AV.agg [AV.str d.ak[f].au,I d.ak[f].ah,eS T cT d.ak[f].af,I d.ak[f].aj.ax,.str d.ak[f].aj.au,.str d.ak[f].aj.aF,I d.ak[f].aj.aR,eS T (bg T) d.ak[f].ai,I d.ak[f].bb])=.agg (aS T d.ak[f]):=rfl;rw[x];refine c (XA d d.ak[f] d.ak[f].ai[g]) (b (λo=>?_) (λo=>?_));have q:j6 d d.ak[f] m d.ak[f].ai[g]=m++[((d.ak[f].ah,d.ak[f].ai[g].ah),jG d.ak[f].ai[g])]:=by rw[j6,if_pos o]
 rw[q]at n;let⟨J,t,u⟩:=ame m ((d.ak[f].ah,d.ak[f].ai[g].ah),jG d.ak[f].ai[g]) (by omega);refine aY t (c (Xz d.ak[f].ai[g]) ?_);refine aI (dW:=.sl ab [cB (jG d.ak[f].ai[g])]) rfl (aY u ?_);rw[aZ,O];exact n;have q:j6 d d.ak[f] m d.ak[f].ai[g]=m:=by rw[j6,if_neg (by rw[o];decide)]
 rw[q]at n;rw[aZ,O];exact n;have:g=Z d.ak[f].ai:=by simp at k;omega
 subst this;rw[aZ,O,dY];exact s;have:f=Z d.ak:=by simp at h;omega
 subst this;rw[dY];exact amf _
def xi(C:fu):Prop:=∀(c d:Bool)(a:D),mq a->Z a.ak<=12->∃(b:List (List Nat))(of:Nat->Nat),PR C 72 [.agg (cP c d a)] (.aB [eS ab cN ((ay (Z a.Q)).map of),eS ab cG b])/\tn (Z a.Q) (cQ a) b of/\Z b<=Z a.Q
theorem amg:cY (cQ V) U N=Hq V U N:=rfl
variable{fo:List (List Nat)}
theorem amh(a:D)(r:aD)(f:Lit){of:Nat->Nat}(q:tn (Z a.Q) (cQ a) fo of):
 PR C 94 [.agg (bg c8 f),.aH ad (cP T F a) 0,.aH ad (aS bC r) 0,.aH ad [eS ab cN ((ay (Z a.Q)).map of)] 0] (.bool (lg a r f)):=by
 apply ad5.pr;simp only[rU,O,bh,aJ,gy,nF,o8,Bo,zE,e,bz,G,dj];refine c (XA a r f) (aV (λb=>c (Xz f) (aV (λh=>?_) (λh=>bK (by rw[lg,h];simp)))) (λb=>bK (by rw[lg,b]<;>rfl)));have g:=b;simp only[nN,ba]at g;let⟨i,k,l⟩:=BW g.1.1;let⟨j,m,n⟩:=BW g.1.2;have s:i<Z ((ay (Z a.Q)).map of):=by simpa using l
 have t:j<Z ((ay (Z a.Q)).map of):=by simpa using n
 have p:∀d:Nat,(cN d)[0]?=aa (I (d:Int)):=λ_=>rfl;have o:∀d:Nat,Z (cN d)=1:=λ_=>rfl;simp only[k,m,aE s (o _),aE t (o _),O,aJ,p,tD,xD,CD];apply iW;have u:=q.tp i j l n;rw[lg,b,h,k,m];simp only[c3,eR];grind[amg]
variable{iF:Bool}
theorem ami(c:D)(r:aD)(d:List Lit)(m:Sm d){of:Nat->Nat}(l:tn (Z c.Q) (cQ c) fo of):
 PR C 93 [eS iF (bg c8) d,.fn 94 [] [.aH ad (cP T F c) 0,.aH ad (aS bC r) 0,.aH ad [eS ab cN ((ay (Z c.Q)).map of)] 0]] (I (b2 (lg c r) d)):=by
 apply KT.pr rfl;simp only[cK,hZ];simp only[aX,O];refine eB (U:=Z d) (c:=λe=>[I 0,I e]) (λe=>∀g(p:g<Z d),g<e->lg c r d[g]=ab) (by simp) rfl (λe f n k q=>?_) (λn k=>?_);simp only[i,G,A,O,a,f,decide_true,aE f (jC _ _),o8];refine a8 (aY (dW:=94) (oR:=[.agg (bg c8 d[e]),.aH ad (cP T F c) 0,.aH ad (aS bC r) 0,.aH ad [eS ab cN ((ay (Z c.Q)).map of)] 0]) rfl ?_)
 refine⟨.dm,_,_,by decide,?_,amh (T:=T) (F:=F) (bC:=bC) (c8:=c8) c r d[e] l,(λj=>by cases j),?_⟩;simp[bT.snap];refine b (λh=>?_) (λh=>?_);grind[jS,ue];rw[m.inc f,O];grind;simp only[i,G,A,O,a,cn,decide_false];refine bw (jS ?_);grind[sq,lg]
variable{bF:List AV}
theorem stO_9{id:Nat}{a:List AV}(h:M[id]?=aa (.arr 0 U [bF]))(c:Z bF=U)(b:Z a=U)(e:a.all AV.bU=ad):du U (.ptr id 0 0 0) (.agg a) M=aa (M.set id (.arr 0 U [a])):=by
 have d:e3 bF 0 a=a:=by simp[e3,c,b]
 have f:(AV.agg a).pl.cells=a:=rfl;simp[du,b,c,h,d];simpa using e
theorem XC(au:xi C)(d:D)(L:mq d)(aF:Z d.ak<=12):PR C 45 [.agg (cP T F d)] (eS ab b3 (qY d)):=by
 apply ad2.pr;let⟨a5,of,ah,az,_⟩:=au T F d L aF;have m:nC 4 (.agg (cP T F d)) []=aa (.ptr 0 0 0 0,[.arr 0 4 [cP T F d]]):=rfl;refine aY m (aY rfl ?_);simp only[hG,dR];have a0:∀j:List Obj,j[0]?=aa (.arr 0 4 [cP T F d])->aQ 4 ad (.ptr 0 0 0 0) j=aa (.agg (cP T F d)):=λj h=>mj h rfl rfl;rw[a0 _ rfl,O];apply c ah;simp only[fK,dj,eH,O,lB,e4,hG,dR,kI,e2]
 apply aI (lF (bF:=[.aq]) (M:=[.arr 0 4 [cP T F d],.arr 0 2 [],.arr 0 1 [[.aq]]]) (id:=2) rfl rfl (by omega) rfl rfl);simp only[fh,e4,OH,y9,hG,dR,kI,e2];have M:Holds [.arr 0 4 [cP T F d],.arr 0 2 [],.arr 0 1 [[eS ab cN ((ay (Z d.Q)).map of)]],.arr 0 2 []] ([(3,.arr 0 2 (([]:List (Int×Int)).map b3))]++[(0,.arr 0 4 [cP T F d]),(2,.arr 0 1 [[eS ab cN ((ay (Z d.Q)).map of)]])]):=by
  refine⟨by simp,λce aR=>?_⟩;simp only[hG,dR,b6,jN,or_false]at aR;grind
 have X:(cP T F d)[3]?=aa (eS F (aS T) d.ak):=rfl;rw[eF (M:=[.arr 0 4 [cP T F d],.arr 0 2 [],.arr 0 1 [[eS ab cN ((ay (Z d.Q)).map of)]],.arr 0 2 []]) (id:=0) (U:=4) (b1:=[cP T F d]) rfl,O,e,gA (M:=[.arr 0 4 [cP T F d],.arr 0 2 [],.arr 0 1 [[eS ab cN ((ay (Z d.Q)).map of)]],.arr 0 2 []]) (id:=0) rfl X,O,aX,O]
 have J:bB (.q 3 0 0 0) b3 2 ([]:List (Int×Int)) [(3,.arr 0 2 (([]:List (Int×Int)).map b3))]:=bB.of (x:=([]:List (Int×Int)));generalize br:[(0,Obj.arr 0 4 [cP T F d]),(2,Obj.arr 0 1 [[eS ab cN ((ay (Z d.Q)).map of)]])]=z at*
 apply bG (K:=Nat×List Obj×AV×aL) (λf=>[f.2.2.1,I f.1]) (λf=>f.2.1) (λf=>Z d.ak -f.1) (λf=>f.1<=Z d.ak/\bB f.2.2.1 b3 2 ((d.ak.take f.1).foldl (p9 d) []) f.2.2.2/\Holds f.2.1 (f.2.2.2++z)) (0,_,.q 3 0 0 0,_) ⟨by simp,J,M⟩;clear M J;rintro⟨l,j,a2,B⟩ ⟨aA,k,u⟩ a4 N;simp only at aA k u N⊢;simp only[i,G,A,O,a];refine b (λh=>?_) (λh=>?_);have h:l<Z d.ak:=by simpa using h
 have w:=λR a3 U=>N (l+1,R,a3,U);simp only[mV h]at w;have bv:=L.2.1 _ (bn h);have ax:=LH d (d.ak.take l) [];rw[h0,e2]at ax;generalize(d.ak.take l).foldl (p9 d) []=x at*;simp only[bz,aE h (mP _ _),nF,O];generalize d.ak[l]=r at*;have E:=u.alloc (.arr 0 9 [[.str [],I 0,.aq,I 0,.str [],.str [],I 0,.aq,I 0]])
 apply aI (stO_9 (E.get (U:=Z j) (gF:=.arr 0 9 [[.str [],I 0,.aq,I 0,.str [],.str [],I 0,.aq,I 0]]) (by simp)) rfl rfl rfl);have t:=E.set (.arr 0 9 [aS T r]);generalize(j++[Obj.arr 0 9 [[AV.str [],I 0,.aq,I 0,.str [],.str [],I 0,.aq,I 0]]]).set (Z j) (.arr 0 9 [aS T r])=n at*;generalize Z j=P at*;have v:n[P]?=aa (.arr 0 9 [aS T r]):=t.get (by simp)
 have af:n[0]?=aa (.arr 0 4 [cP T F d]):=t.get (by grind);have aj:n[2]?=aa (.arr 0 1 [[eS ab cN ((ay (Z d.Q)).map of)]]):=t.get (by grind);have Y:(aS T r)[7]?=aa (eS T (bg T) r.ai):=rfl;simp only[eF v,O,e,gA v Y]
 apply eV _ (ami (T:=T) (F:=F) (bC:=T) (c8:=T) (iF:=T) d r r.ai (by grind[Sm]) az) (.ck eu (.ck (.fn _ _ _ _ _ _ (.nil _) (.ck (.o2 _ _ _ _ _ _ _ _ af rfl (bT.snap (by simp))) (.ck (.o2 _ _ _ _ _ _ _ _ v rfl (bT.snap (by simp))) (.ck (.o2 _ _ _ _ _ _ _ _ aj rfl (bT.snap (by simp))) (.nil _))))) (.nil _))) (.int _ _);have am:y ((Z x:Int)<20)=true:=by simp;omega
 simp only[hz,k.ln,A,am,O,aZ (show l<4611686018427387904 by omega)];have H:Holds n (B++z):=t.tail;refine aV (λo=>?_) (λo=>?_);have o:0<=b2 (lg d r) r.ai:=by simpa using o
 rcases sq (lg d r) r.ai with⟨p,K,m,s⟩|⟨m,-⟩;have ac:(bg T r.ai[p])[8]?=aa (I r.ai[p].bb):=rfl;simp only[G,c5,if_true,m,aE K (jC _ _),O,bh,aJ,ac,e,wU,yv];let⟨id,g,S,V,W⟩:=k.app (bytes:=16) H (90,r.ai[p].bb) rfl (by omega);apply aY V;refine w S _ [(id,Obj.arr g 2 (Ra b3 (x++[((90:Int),r.ai[p].bb)])))] ⟨h,?_,W⟩ (by omega);rw[p9,s];exact bB.of;omega;have o:¬0<=b2 (lg d r) r.ai:=by simpa using o
 rcases sq (lg d r) r.ai with⟨p,K,m,s⟩|⟨m,s⟩;omega;simp only[G,c5,e6,if_false];refine w n a2 B ⟨h,?_,H⟩ (by omega);rw[p9,s];exact k;have:l=Z d.ak:=by simp at h;omega
 subst this;rw[dY]at k;rw[k.pl];exact(k.gr u).res (by simp)
def iZ(a:Nat->List Nat)(c:Nat):List (List AV):=(ay c).map λb=>cG (a b)
def gq(c:AV)(d:Nat->List Nat)(a:Nat)(b:aL):Prop:=(a=0/\c=.dL/\b=[])\/∃id g e,c=.q id g 0 a/\b=[(id,.arr g 1 (iZ d a++e))]
def fX(a:List Nat):Int:=(a.headD 0:Nat)
theorem Ca(b:Nat->List Nat)(a:Nat):Z (iZ b a)=a:=by simp[iZ]
theorem XD(a:Nat->List Nat)(h:N<U):(iZ a U)[N]?=aa (cG (a N)):=by simp[iZ,h]
theorem amj(a:Nat->List Nat)(c b:Nat)(d:List Nat):(iZ a c).set b (cG d)=iZ (bN a b d) c:=by
 refine y6 λe=>?_;grind[bN,iZ]
theorem amk(c:Nat->K)(a b:Nat):swp c a b=bN (bN c a (c b)) b (c a)\/a=b:=by
 by_cases d:a=b;exact .inr d;refine .inl (funext λe=>?_);unfold swp bN;grind
theorem aml(a:Nat->K)(b c:Nat):swp a b c=bN (bN a b (a c)) c (a b):=by
 rcases amk a b c with h|rfl;exact h;grind[swp,bN]
section
variable{v:AV}{f:Nat->List Nat}{n:Nat}{P F:aL}{H:List Obj}
theorem gq.ln(h:gq v f n P)(a:List Obj):gu .sl v a=aa (I n):=by
 rcases h with⟨rfl,rfl,-⟩|⟨id,g,b,rfl,-⟩<;>rfl
theorem gq.pl(h:gq v f n P):v.pl=v:=by
 rcases h with⟨rfl,rfl,-⟩|⟨id,g,a,rfl,-⟩<;>rfl
theorem gq.cell(h:gq v f n P):v.bU=true:=by
 rcases h with⟨rfl,rfl,-⟩|⟨id,g,a,rfl,-⟩<;>rfl
theorem gq.q(h:gq v f n P)(b:0<n):∃id g a,v=.q id g 0 n/\P=[(id,.arr g 1 (iZ f n++a))]:=by
 rcases h with⟨rfl,-,-⟩|h;omega;exact h
end
variable{ed:Nat -> List Nat}
theorem Cb{id g:Nat}(h:M[id]?=aa (.arr g 1 (iZ ed U++b1)))(a:N<U):bP 1 (.q id g 0 U) (I (N:Int)) M=aa (.ptr id g N 0):=fw h a
theorem Eu{id g:Nat}(h:M[id]?=aa (.arr g 1 (iZ ed U++b1)))(b:N<U):aQ 1 ab (.ptr id g N 0) M=aa (eS ab cN (ed N)):=by
 rw[c0 h (bF:=cG (ed N)) (by grind[List.getElem?_append_left,Ca,XD])]<;>rfl
theorem XE{id g:Nat}(a:List Nat)(h:M[id]?=aa (.arr g 1 (iZ ed U++b1)))(c:N<U):du 1 (.ptr id g N 0) (eS ab cN a) M=aa (M.set id (.arr g 1 (iZ (bN ed N a) U++b1))):=by
 rw[Eo h (bF:=cG (ed N)) (by grind[List.getElem?_append_left,Ca,XD]) (by simp) rfl rfl];have:(cG (ed N)).set 0 (eS ab cN a)=cG a:=rfl;grind[List.set_append_left,Ca,amj]
theorem MJ(h:gq E ed U k):C 75 [E] M (I (U:Int)) M:=by
 refine Sh.hr ?_ (by simp[h.pl]);simp only[h.ln,O];simp
theorem MK(h:gq E ed U k)(l:Holds M (k++bo))(d:N<U)(e:z<U)(i:ed N≠[])(j:ed z≠[]):
 C 362 [E,I (N:Int),I (z:Int)] M (.bool (y (fX (ed N)<fX (ed z)))) M:=by
 refine af9.hr ?_ (by simp[h.pl]);obtain⟨id,g,m,rfl,rfl⟩:=h.q (by omega);have b:=l.get (U:=id) (gF:=.arr g 1 (iZ ed U++m)) (by simp);have c:∀{a:List Nat},a≠[]->bP 1 (eS ab cN a) (I 0) M=aa (.aH ab (cN (a.headD 0)) 0):=by
  intro a o;rcases a with _|⟨n,a⟩;grind;exact aE (by simp) rfl
 have f:∀U:Nat,(cN U)[0]?=aa (I (U:Int)):=λ_=>rfl;simp only[Cb b d,Cb b e,Eu b d,Eu b e,O,c i,c j,aJ,f,A];exact⟨rfl,trivial⟩
theorem ML(h:gq E ed U k)(f:Holds M (k++bo))(d:N<U)(c:z<U):
 HR C 365 [E,I (N:Int),I (z:Int)] M (λr j=>r=.aB []/\∃e,gq E (swp ed N z) U e/\Holds j (e++bo)):=by
 refine S0.hq ?_ (by simp[h.pl]);obtain⟨id,g,b,rfl,rfl⟩:=h.q (by omega);have a:=f.get (U:=id) (gF:=.arr g 1 (iZ ed U++b)) (by simp);simp only[Cb a d,Cb a c,Eu a d,Eu a c,O];apply aI (XE (ed z) a d);have l:Holds (M.set id (.arr g 1 (iZ (bN ed N (ed z)) U++b))) ((id,.arr g 1 (iZ (bN ed N (ed z)) U++b))::bo):=Holds.set f _;have i:=l.get (U:=id) (gF:=.arr g 1 (iZ (bN ed N (ed z)) U++b)) (by simp)
 simp only[Cb i c,O];refine aI (XE (ed N) i c) ⟨trivial,_,.inr ⟨id,g,b,rfl,rfl⟩,?_⟩;grind[aml,Holds.set]
theorem amm(h:gq E ed U k)(m:Holds M (k++bo))(a:List Nat)(t:U<1000000):
 ∃i d e,cJ 1 24 E (.sl ab [[eS ab cN a]]) M=aa (i,d)/\gq i (bN ed U a) (U+1) e/\Holds d (e++bo):=by
 have f:iZ ed U++[cG a]=iZ (bN ed U a) (U+1):=by
  rw[iZ,iZ,uR,hJ];have l:(ay U).map (λb=>cG (bN ed U a b))=(ay U).map λb=>cG (ed b):=by
   refine sP λb s=>?_;unfold bN;grind
  rw[l];simp[bN]
 rcases h with⟨rfl,rfl,rfl⟩|⟨id,g,o,rfl,rfl⟩;have c:=pe (M:=M) (U:=1) (bytes:=24) (a7:=λp:List AV=>p) (x:=[cG a]) (E:=.dL) (dG:=.sl ab [cG a]) rfl rfl (by simp);refine⟨_,_,[(Z M,.arr 0 1 [cG a])],c,.inr ⟨Z M,0,[],rfl,?_⟩,?_⟩;rw[<-f]<;>rfl
 grind[Holds.alloc];have n:=m.get (U:=id) (gF:=.arr g 1 (iZ ed U++o)) (by simp);have c:cJ 1 24 (.q id g 0 U) (.sl ab [[eS ab cN a]]) M=aa (.q id (g+1) 0 (U+1),M.set id (.arr (g+1) 1 (iZ (bN ed U a) (U+1)))):=by
  have j:h6 M 1 (.sl ab [[eS ab cN a]])=aa [cG a]:=rfl;simp only[cJ,j,AV.isNil,e6,if_false,n,true_and,gC,Ca,jY];rw[if_pos (by omega),E6 (by rw[Ca];exact c7 _),gT (by rw[Ca];exact c7 _),f]
 refine⟨_,_,[(id,.arr (g+1) 1 (iZ (bN ed U a) (U+1)))],c,.inr (by simp),?_⟩;grind[Holds.set]
def dP(a:Nat)(d:AV)(c b:aL):aL:=(a,.arr 0 1 [[d]])::(c++b)
theorem dP.tl(h:Holds M (dP U E k bo)):Holds M (k++((U,.arr 0 1 [[E]])::bo)):=Holds.front h
theorem dP.bk(h:Holds M (k++((U,.arr 0 1 [[E]])::bo))):Holds M (dP U E k bo):=Holds.back h
theorem dP.get(h:Holds M (dP U E k bo)):M[U]?=aa (.arr 0 1 [[E]]):=h.get (by simp[dP])
theorem dP.ld(h:Holds M (dP U E k bo)):aQ 1 ab (.ptr U 0 0 0) M=aa E:=gA (dP.get h) rfl
def hD(a:Nat->List Nat)(b:Nat):List (List Nat):=(ay b).map a
variable{bu:List Nat}
theorem xj:bu∈hD ed U<->∃a,a<U/\ed a=bu:=by simp[hD]
theorem XF(a:Nat->List Nat)(b:Nat):hD a (b+1)=hD a b++[a b]:=by simp[hD,uR]
theorem amn{b:Nat->List Nat}(h:∀a,a<U->ed a=b a):hD ed U=hD b U:=sP (by grind)
theorem MM(d:N<U)(e:z<U):((ay U).map (swp (λg=>g) N z)).Perm (ay U):=by
 refine(OZ ?_ E7).2 λa=>?_
 ·show List.Pairwise _ _
  rw[aa9];refine avM ?_ (E7);intro i j k;simp only[swp];split<;>split<;>(try split)<;>(try split)<;>omega
 simp only[cy,iz];constructor;grind[swp];intro f;by_cases b:a=N;subst b;refine⟨z,e,?_⟩;unfold swp;split;rename_i h;exact h;rw[if_pos rfl];by_cases c:a=z;subst c;exact⟨N,d,by unfold swp;rw[if_pos rfl]⟩;exact⟨a,f,by grind[swp]⟩
theorem MN(c:N<U)(d:z<U):(hD (swp ed N z) U).Perm (hD ed U):=by
 have b:swp ed N z=λa=>ed (swp (λa=>a) N z a):=by
  funext a;unfold swp;split
  rfl;split<;>rfl
 have:=(MM c d).map ed;rw[vW]at this;rw[hD,b];exact this
theorem MO(b:Nat->List Nat)(c d:Nat):(λa=>fX (swp b c d a))=swp (λa=>fX (b a)) c d:=by
 grind[swp]
theorem amo(e:List Nat)(h:gq E ed N k)(m:N<1000000)(d:Holds M (dP U E k bo)):
 HR C 364 [.ptr U 0 0 0,.iface 31 (eS ab cN e)] M (λr i=>r=.aB []/\∃b a,gq b (bN ed N e) (N+1) a/\Holds i (dP U b a bo)):=by
 apply RU.hq;have l:=dP.get d;simp only[hV l,O,dP.ld d,Bh,if_true];let⟨b,n,a,j,c,f⟩:=amm h (dP.tl d) e m;refine aI rfl (aY j ?_);have g:=f.get (U:=U) (gF:=.arr 0 1 [[E]]) (by simp);simp only[hV g,O];refine aI (lF g rfl (by omega) c.pl c.cell) ⟨trivial,b,a,c,?_⟩;exact Holds.set (Holds.back f) _
theorem amp{id g len:Nat}(h:M[id]?=aa (.arr g 1 b1))(a:U<=len):fA (.sl 1) (.q id g 0 len) ae (aa (I (U:Int))) M=aa (.q id g 0 U):=by
 simp_all[eT,fA]
theorem amq(h:gq E ed (N+1) k)(m:N<1000000)(a:Holds M (dP U E k bo)):
 HR C 363 [.ptr U 0 0 0] M (λr i=>r=.iface 31 (eS ab cN (ed N))/\∃f d,gq f ed N d/\Holds i (dP U f d bo)):=by
 apply Sz.hq;have e:=dP.get a;obtain⟨id,g,b,rfl,rfl⟩:=h.q (by omega);have c:M[id]?=aa (.arr g 1 (iZ ed (N+1)++b)):=a.get (by simp[dP]);have l:aT .s .sub (I ((N+1:Nat):Int)) (I 1)=aa (I (N:Int)):=by
  rw[nG (by omega) (by omega)];simp
 simp only[hV e,O,dP.ld a,oa,l,Cb c (aaV N),Eu c (aaV N),amp c (AP N)];refine aI (lF e rfl (by omega) rfl rfl) ⟨rfl,.q id g 0 N,[(id,.arr g 1 (iZ ed N++(cG (ed N)::b)))],.inr (by grind),?_⟩;have j:iZ ed (N+1)++b=iZ ed N++(cG (ed N)::b):=by
  rw[iZ,uR,hJ,ht]<;>rfl
 rw[<-j];exact Holds.set a _
variable{fq:List Obj}{iC:AV -> List Obj -> Prop}
theorem xk{args:List AV}{r:AV}(a:args.map AV.pl=args)(h:C U args M r fq)(b:iC r fq):ch C U args M iC:=qO r (a.symm▸h) b
theorem amr(a: -1<=f)(b:f<1000000000):aT .s .quo (I f) (I 2)=aa (I (f.tdiv 2)):=by
 have h: -9223372036854775808<=f.tdiv 2/\f.tdiv 2<9223372036854775808:=by
  rcases Fc f 0 with h|h;have:f= -1:=by omega
  subst this
  decide
  rw[ar0 h];omega
 simp[aT,kp,wrap64 h.1 h.2]
theorem ams(h:0<U):((U:Int) -1).tdiv 2=(((U -1)/2:Nat):Int):=by
 grind
theorem Cc{fn:Nat}{args:List AV}(a:Holds M (dP U E k bo))(b:E.pl=E):rS [(132,fn,aa (1,ab))] (.iface 132 (.ptr U 0 0 0)) args M=aa (fn,E::args):=by
 simp[rS,look,dP.ld a,b]
theorem XG(a:Holds M (dP U E k bo))(b:E.pl=E):rS [(17,358,ae),(132,75,aa (1,ab))] (.iface 132 (.ptr U 0 0 0)) [] M=aa (75,[E]):=by
 simp[rS,look,dP.ld a,b]
theorem amt(h:gq E ed N k)(P:N<1000000)(f:z<N)(i:uz (λb=>fX (ed b)) N z)(Q:∀b,b<N->ed b≠[])(c:Holds M (dP U E k bo)):
 HR C 126 [.iface 132 (.ptr U 0 0 0),I (z:Int)] M (λr u=>r=.aB []/\∃n o,gq E n N o/\Holds u (dP U E o bo)/\Hp (λb=>fX (n b)) N/\(hD n N).Perm (hD ed N)):=by
 apply S7.hq;apply bG (K:=Nat×(Nat->List Nat)×aL×List Obj) (λa=>[I a.1]) (λa=>a.2.2.2) (λa=>a.1) (λa=>a.1<N/\gq E a.2.1 N a.2.2.1/\Holds a.2.2.2 (dP U E a.2.2.1 bo)/\uz (λb=>fX (a.2.1 b)) N a.1/\(hD a.2.1 N).Perm (hD ed N)) (z,ed,k,M) ⟨f,h,c,i,.refl _⟩;clear f c i;rintro⟨z,e,p,J⟩ ⟨f,d,c,i,l⟩ K t;simp only at f d c i l t⊢;have q:∀b,b<N->e b≠[]:=λb B=>by
  let⟨R,L,j⟩:=xj.1 (l.mem_iff.1 (xj.2 ⟨b,B,rfl⟩));grind
 simp only[G];have H:aT .s .sub (I (z:Int)) (I 1)=aa (I ((z:Int) -1)):=by grind[nG]
 rw[H,O,amr (by omega) (by omega),O,bz];by_cases x:z=0;subst x;have:(((0:Nat):Int) -1).tdiv 2=0:=by decide
 rw[this];have j:aT .s .eql (I 0) (I ((0:Nat):Int))=aa tt:=rfl;rw[j,O];simp only[jD,Bool.true_eq_false,if_false,c5,if_true,G];exact⟨trivial,e,p,d,c,i.stop (.inl rfl),l⟩;have D:(z -1)/2<z:=by omega
 have m:(z -1)/2<N:=by omega
 rw[ams (by omega)];have j:aT .s .eql (I (((z -1)/2:Nat):Int)) (I (z:Int))=aa ff:=by
  have:((((z -1)/2:Nat):Int)==(z:Int))=false:=by rw[beq_eq_false_iff_ne];omega
  rw[tD,this]
 rw[j,O];simp only[jD,if_true];apply aY (Cc c d.pl);apply xk (by simp[d.pl]) (MK d (dP.tl c) f m (q _ f) (q _ m));simp only[bI,O,G];refine dw (λg=>?_) (λg=>?_);have g:fX (e ((z -1)/2))<=fX (e z):=by simpa using g
 exact⟨trivial,e,p,d,c,i.stop (.inr g),l⟩;have g:fX (e z)<fX (e ((z -1)/2)):=by simpa using g
 apply aY (Cc c d.pl);refine c4 (ML d (dP.tl c) m f) (by simp[d.pl]) λr v F=>?_;obtain⟨rfl,w,A,y⟩:=F;refine t ((z -1)/2,swp e ((z -1)/2) z,w,v) ⟨m,A,dP.bk y,?_,by grind[MN]⟩ D;simp only[MO];exact i.step f (by omega) g
theorem XH(a:List Nat)(h:gq E ed N k)(J:N<900000)(z:Hp (λb=>fX (ed b)) N)(K:∀b,b<N->ed b≠[])(L:a≠[])(q:Holds M (dP U E k bo)):
 HR C 74 [.iface 132 (.ptr U 0 0 0),.iface 31 (eS ab cN a)] M (λr j=>r=.aB []/\∃i c f,gq i c (N+1) f/\Holds j (dP U i f bo)/\Hp (λb=>fX (c b)) (N+1)/\(hD c (N+1)).Perm (a::hD ed N)):=by
 apply RX.hq;have n:rS [(132,364,ae)] (.iface 132 (.ptr U 0 0 0)) [(AV.iface 31 (eS ab cN a)).pl] M=aa (364,[.ptr U 0 0 0,.iface 31 (eS ab cN a)]):=rfl;refine aY n (c4 (amo a h (by omega) q) rfl λr l e=>?_);let⟨rfl,v1,H,d,g⟩:=e;refine aY (XG g d.pl) (xk (by simp[d.pl]) (MJ (M:=l) d) ?_);have D:aT .s .sub (I ((N+1:Nat):Int)) (I 1)=aa (I (N:Int)):=by
  rw[nG (by omega) (by omega)];simp
 rw[D,O];have u:(hD (bN ed N a) (N+1)).Perm (a::hD ed N):=by
  rw[XF,amn (ed:=bN ed N a) (b:=ed) (by grind[bN])];have:bN ed N a N=a:=by simp[bN]
  rw[this];exact Jg
 have v:uz (λb=>fX (bN ed N a b)) (N+1) N:=by
  refine uz.push (λF p x=>?_);have:=z F p x;unfold bN;rw[if_neg (by omega),if_neg (by omega)];exact this
 have y:∀b,b<N+1->bN ed N a b≠[]:=by grind[bN]
 refine c4 (amt d (by omega) (by omega) v y g) rfl λr G e=>?_;obtain⟨rfl,o,m,w,t,A,B⟩:=e;exact⟨trivial,v1,o,m,w,t,A,B.trans u⟩
theorem amu(h:gq E ed N k)(a0:N<1000000)(a3:z<=N)(n:uA (λc=>fX (ed c)) z 0)(a2:∀c,c<N->ed c≠[])(j:Holds M (dP U E k bo)):
 HR C 127 [.iface 132 (.ptr U 0 0 0),I 0,I (z:Int)] M (λr R=>∃m p,gq E m N p/\Holds R (dP U E p bo)/\Hp (λc=>fX (m c)) z/\(∀c,z<=c->m c=ed c)/\(hD m z).Perm (hD ed z)):=by
 apply R0.hq;refine kT (λw t=>(∃a ax:Int,w=[I a,I ax])/\∃m p,gq E m N p/\Holds t (dP U E p bo)/\Hp (λc=>fX (m c)) z/\(∀c,z<=c->m c=ed c)/\(hD m z).Perm (hD ed z)) (λa5 L=>?_) ?_
 refine bG (K:=Nat×(Nat->List Nat)×aL×List Obj) (λf=>[I f.1]) (λf=>f.2.2.2) (λf=>z -f.1) (λf=>f.1<=N/\gq E f.2.1 N f.2.2.1/\Holds f.2.2.2 (dP U E f.2.2.1 bo)/\uA (λc=>fX (f.2.1 c)) z f.1/\(∀c,z<=c->f.2.1 c=ed c)/\(hD f.2.1 z).Perm (hD ed z)) (0,ed,k,M) ⟨by simp,h,j,n,λ_ _=>rfl,.refl _⟩ ?_;clear j n;rintro⟨a,e,J,H⟩ ⟨ai,l,j,n,F,D⟩ aA Q;simp only at ai l j n F D Q⊢;have B:∀c,c<z->e c≠[]:=λc P=>by
  let⟨a4,aR,aF⟩:=xj.1 (D.mem_iff.1 (xj.2 ⟨c,P,rfl⟩));grind
 simp only[G];have V:aT .s .mul (I 2) (I (a:Int))=aa (I ((2*a:Nat):Int)):=by
  rw[QW (by omega) (by omega)];simp
 have W:aT .s .add (I ((2*a:Nat):Int)) (I 1)=aa (I ((2*a+1:Nat):Int)):=aZ;have X:aT .s .add (I ((2*a+1:Nat):Int)) (I 1)=aa (I ((2*a+2:Nat):Int)):=aZ;rw[V,O,W,O,bz,hz,O];have a6:∀d,0<d->(d -1)/2=a->d=2*a+1\/d=2*a+2:=by omega
 refine dH (λo=>?_) (λo=>?_);have o:2*a+1<z:=by simp only[decide_eq_false_iff_not]at o;omega
 have aj:a<z:=by omega
 have Y:aT .s .lss (I ((2*a+1:Nat):Int)) (I 0)=aa ff:=by
  rw[A];have:y (((2*a+1:Nat):Int)<0)=false:=by simp;omega
  rw[this]
 rw[Y,O];simp only[G,c5,e6,if_false];refine kT (λw t=>t=H/\∃i:Nat,w=[I (i:Int),I ((2*a+2:Nat):Int)]/\0<i/\i<z/\(i -1)/2=a/\∀d,0<d->d<z->(d -1)/2=a->fX (e i)<=fX (e d)) (λaz ak=>?_) ?_;rw[X,O,bz,A,O];have one:(∀d,0<d->d<z->(d -1)/2=a->fX (e (2*a+1))<=fX (e d))->az [I ((2*a+1:Nat):Int),I ((2*a+2:Nat):Int)] H:=by grind
 refine aV (λg=>?_) (λg=>?_);have g:2*a+2<z:=by simp only[decide_eq_true_eq]at g;omega
 apply aY (Cc j l.pl);apply xk (by simp[l.pl]) (MK l (dP.tl j) (by omega) (by omega) (B _ g) (B _ o));simp only[G];refine b (λq=>?_) (λq=>?_);have q:fX (e (2*a+2))<fX (e (2*a+1)):=by simpa using q
 refine ak _ _ ⟨rfl,2*a+2,rfl,by omega,g,by omega,λd u x v=>?_⟩;grind;have q:fX (e (2*a+1))<=fX (e (2*a+2)):=by simpa using q
 refine one λd u x v=>?_;grind;have g:¬2*a+2<z:=by simp only[decide_eq_false_iff_not]at g;omega
 simp only[G,c5,e6,if_false];refine one λd u x v=>?_;grind;rintro w t ⟨rfl,i,rfl,ac,K,af,am⟩;simp only[G];apply aY (Cc j l.pl);apply xk (by simp[l.pl]) (MK l (dP.tl j) (show i<N by omega) (show a<N by omega) (B _ K) (B _ aj));simp only[bI,O];refine dw (λg=>?_) (λg=>?_);have g:fX (e a)<=fX (e i):=by simpa using g
 refine L _ _ ⟨⟨_,_,rfl⟩,e,J,l,j,n.stop (λd u x v=>?_),F,D⟩;grind;have g:fX (e i)<fX (e a):=by simpa using g
 apply aY (Cc j l.pl);refine c4 (ML l (dP.tl j) (show a<N by omega) (show i<N by omega)) (by simp[l.pl]) λr S au=>?_;obtain⟨rfl,T,ah,Z⟩:=au;refine Q (i,swp e a i,T,S) ⟨by omega,ah,dP.bk Z,?_,λc P=>?_,by grind[MN]⟩ (by omega);simp only[MO];exact n.step ac K af g am;grind[swp];have o:z<=2*a+1:=by simp only[decide_eq_true_eq]at o;omega
 simp only[G,c5,if_true];refine L _ _ ⟨⟨_,_,rfl⟩,e,J,l,j,n.stop (λd u x v=>?_),F,D⟩;omega;simp_all
theorem amv(h:gq E ed (N+1) k)(P:N<900000)(i:Hp (λa=>fX (ed a)) (N+1))(Q:∀a,a<N+1->ed a≠[])(d:Holds M (dP U E k bo)):
 HR C 76 [.iface 132 (.ptr U 0 0 0)] M (λr l=>r=.iface 31 (eS ab cN (ed 0))/\(∀a,a<N+1->fX (ed 0)<=fX (ed a))/\∃j c e,gq j c N e/\Holds l (dP U j e bo)/\Hp (λa=>fX (c a)) N/\(hD ed (N+1)).Perm (ed 0::hD c N)):=by
 apply Tu.hq;refine aY (XG d h.pl) (xk (by simp[h.pl]) (MJ (M:=M) h) ?_);have G:aT .s .sub (I ((N+1:Nat):Int)) (I 1)=aa (I (N:Int)):=by
  rw[nG (by omega) (by omega)];simp
 rw[G,O];apply aY (Cc d h.pl);refine c4 (ML h (dP.tl d) (by grind) (by omega)) (by simp[h.pl]) λr H b=>?_;obtain⟨rfl,K,x,q⟩:=b;have v:uA (λa=>fX (swp ed 0 N a)) N 0:=by
  rw[MO];exact uA.pop i
 have D:∀a,a<N+1->swp ed 0 N a≠[]:=by grind[swp]
 refine c4 (amu (z:=N) x (by omega) (by omega) v D (dP.bk q)) rfl λr m b=>?_;let⟨g,L,y,t,F,B,R⟩:=b;have o:rS [(132,363,ae)] (.iface 132 (.ptr U 0 0 0)) [] m=aa (363,[.ptr U 0 0 0]):=rfl;refine aY o (c4 (amq y (by omega) t) rfl λr J b=>?_);obtain⟨rfl,v3,n,z,u⟩:=b;have w:g N=ed 0:=by
  rw[B N (c7 N)];unfold swp;by_cases f:N=0;subst f;rfl;rw[if_neg f,if_pos rfl]
 refine⟨by rw[w]<;>rfl,λa A=>i.root a A,v3,g,n,z,u,F,?_⟩;have p:=MN (ed:=ed) (show 0<N+1 by omega) (show N<N+1 by omega);rw[XF]at p;grind
end AM
namespace Law
variable{U:Nat}{mC:List (Nat × Nat)}{N:Nat}{bu:List Nat}
section
def b5(b:List (Nat×Nat))(done:List Nat)(c:Nat):Nat:=Z (b.filter λa=>a.1==c&& !done.contains a.2)
def eb(a:List (Nat×Nat))(b:Nat):List Nat:=(a.filter λc=>c.2==b).map Prod.fst
theorem XI(b:Nat×Nat)(c:List (Nat×Nat))(done:List Nat)(a:Nat):b5 (b::c) done a=(if b.1=a/\b.2∉done then 1 else 0)+b5 c done a:=by
 grind[b5]
theorem MP{done:List Nat}{b:Nat}(d:U∉done):∀{a:List (Nat×Nat)},a.Nodup->b5 a done b=b5 a (done++[U]) b+(if(b,U)∈a then 1 else 0)
 |[],_=>by simp[b5]
 |k::a,c=>by
  rw[k0]at c;have e:=MP (b:=b) d c.2;rw[XI,XI,e];grind
theorem amw{done:List Nat}:b5 mC done U=0<->∀a,(U,a)∈mC->a∈done:=by
 unfold b5;rw[Je,Jk];grind
theorem amx:N∈eb mC U<->(N,U)∈mC:=by
 simp only[eb,cy,l5,beq_iff_eq];constructor;rintro⟨⟨b,c⟩,⟨a,rfl⟩,rfl⟩;exact a;intro h;exact⟨(N,U),⟨h,rfl⟩,rfl⟩
theorem XJ{b:Nat}:∀{a:List (Nat×Nat)},a.Nodup->(eb a b).Nodup
 |[],_=>by simp[eb]
 |k::a,c=>by
  rw[k0]at c;have d:=XJ (b:=b) c.2;grind[eb]
structure H3(d:cA)(of:Nat->Nat)(K:List (Nat×Nat)):Prop where
 nd:K.Nodup
 mem:∀x y,(x,y)∈K<->x≠y/\∃a c,d a c=ad/\of a=x/\of c=y
variable{n:Nat}{D d:cA}{L:List (List Nat)}{of:Nat->Nat}{K:List (Nat×Nat)}
theorem MQ(e:H3 d of K){done:List Nat}:B0 d L of (λj=>y (j∈done)) U<->U<Z L/\U∉done/\b5 K done U=0:=by
 rw[amw];unfold B0;constructor;rintro⟨a,g,c⟩;refine⟨a,by grind,λn i=>?_⟩;obtain⟨m,f,b,h,rfl,rfl⟩:=(e.mem _ _).1 i;grind;rintro⟨a,g,c⟩;refine⟨a,by grind,λf b h k l=>?_⟩;have:=c (of b) ((e.mem _ _).2 (by grind));grind
structure vM(d:cA)(L:List (List Nat))(of:Nat->Nat)(K:List (Nat×Nat))(done R:List Nat):Prop where
 MR:R.Nodup
 Aw:∀i,i∈R<->i<Z L/\i∉done/\b5 K done i=0
 XK:∀i,i∈done->b5 K done i=0
 run:∀rest,w6 d L of (λj=>y (j∈done)) rest->w6 d L of (λ_=>ab) (done.map (λi=>L[i]?.getD [])++rest)
theorem vM.start{R:List Nat}(b:R.Nodup)(c:∀a,a∈R<->a<Z L/\b5 K [] a=0):vM d L of K [] R:=by
 refine⟨b,by grind,by grind,λe h=>?_⟩;grind
theorem vM.last{done:List Nat}(b:H3 d of K)(h:vM d L of K done []):w6 d L of (λ_=>ab) (done.map λa=>L[a]?.getD []):=by
 have:=h.run [] (.done _ λa c=>by
  have:=(h.Aw a).2 ((MQ b).1 c);cases this)
 grind
theorem vM.step{done R:List Nat}(k:H3 d of K)(h:vM d L of K done R)(o:U∈R)(t:∀a∈R,q2 L U<=q2 L a)(n:bu.Nodup)
 (s:∀a,a∈bu<->(a∈R/\a≠U)\/(a<Z L/\(a,U)∈K/\b5 K (done++[U]) a=0)):vM d L of K (done++[U]) bu:=by
 let⟨q,p,u⟩:=(h.Aw U).1 o;have m:∀c,b5 K done c=b5 K (done++[U]) c+(if(c,U)∈K then 1 else 0):=λc=>MP p k.nd;refine⟨n,λa=>?_,λa b=>?_,λf v=>?_⟩;rw[s,h.Aw];have:=m a;simp only[dt,l6,not_or];constructor;rintro(⟨⟨g,i,j⟩,e⟩|⟨g,i,j⟩);grind;rw[if_pos i]at this;refine⟨g,⟨λr=>?_,λe=>?_⟩,j⟩;have:=h.XK a r;omega;grind;grind;rcases dt.1 b with b|b;have:=m a;have:=h.XK a b;omega;grind
 have l:L[U]?=aa L[U]:=bq q;have e:(done++[U]).map (λU=>L[U]?.getD [])++f=done.map (λU=>L[U]?.getD [])++(L[U]::f):=by simp[l]
 rw[e];refine h.run _ (.step _ U L[U] f (by grind[MQ]) l (λa b=>t a ((h.Aw a).2 ((MQ k).1 b))) ?_);grind
end
end Law
namespace AM
open Go.Law
def b9(b:Nat)(a:Nat->List AV):List (List AV):=(ay b).map a
theorem yL(a:Nat)(b:Nat->List AV):Z (b9 a b)=a:=by simp[b9]
variable{U N:Nat}
theorem xl(a:Nat->List AV)(h:N<U):(b9 U a)[N]?=aa (a N):=by simp[b9,h]
theorem MS(a:Nat->List AV)(c b:Nat)(d:List AV):(b9 c a).set b d=b9 c (bN a b d):=by
 refine y6 λe=>?_;grind[bN,b9]
theorem Cd{b c:Nat->List AV}(h:∀a,a<U->b a=c a):b9 U b=b9 U c:=sP (by grind)
section
variable{H:List Obj}{id m i:Nat}{F:Nat->List AV}{X:aL}
theorem xm(a:H[id]?=aa (.arr 0 1 (b9 m F)))(b:i<m):bP 1 (.q id 0 0 m) (I (i:Int)) H=aa (.ptr id 0 i 0):=fw a b
theorem Ax(b:H[id]?=aa (.arr 0 1 (b9 m F)))(c:i<m){a:AV}(d:F i=[a]):aQ 1 ab (.ptr id 0 i 0) H=aa a:=by
 rw[c0 b (xl F c),d]<;>rfl
theorem H4(b:H[id]?=aa (.arr 0 1 (b9 m F)))(d:i<m){w:AV}(f:F i=[w]){a:AV}(e:a.pl=a)(c:a.bU=ad):du 1 (.ptr id 0 i 0) a H=aa (H.set id (.arr 0 1 (b9 m (bN F i [a])))):=by
 rw[Eo b (xl F d) (by grind) e c,MS,f]<;>rfl
end
abbrev Ev:KD:=⟨ad,2,[0,0]⟩
def uI(a:Nat×Nat):AV:=.agg [I (a.1:Int),I (a.2:Int)]
def qi(a:List (Nat×Nat)):Obj:=.mp ad (a.map uI) (a.map λ_=>tt)
theorem MT(a b:Nat×Nat):Ev.eq (uI a) (uI b)=aa (a==b):=by
 let⟨c,d⟩:=a;let⟨e,f⟩:=b;have:((c,d)==(e,f))=(((c:Int)==e)&&(((d:Int)==f)&&ad)):=by
  rw[iA];simp;omega
 rw[this]<;>rfl
theorem MU(c:Nat×Nat):∀(b:List (Nat×Nat))(a:Nat),Ev.find (uI c) (b.map uI) a=aa ((b.findIdx? (c==·)).map (· +a))
 |[],a=>rfl
 |x::b,a=>by
  rw[ej,KD.find,MT,Fe];cases h:c==x with
  |true=>simp
  |false=>
   simp only[e6,if_false];rw[MU c b (a+1)];rcases b.findIdx? (c==·)with _|j;rfl;simp;omega
variable{mC:List (Nat × Nat)}{M:List Obj}
theorem amy{id:Nat}(a:Nat×Nat)(h:M[id]?=aa (qi mC)):iM Ev ff ab (.b8 id) (uI a) M=aa (.bool (y (a∈mC))):=by
 have b:mf M (.b8 id)=aa (mC.map uI,mC.map λ_=>tt):=by simp[mf,h,qi]
 simp only[iM,b,MT,oJ,if_true,MU];rcases c:mC.findIdx? (a==·)with _|i;grind;grind[List.findIdx?_eq_some_iff_getElem]
theorem amz{id:Nat}(a:Nat×Nat)(h:M[id]?=aa (qi mC))(c:a∉mC):jP Ev (.b8 id) (uI a) tt M=aa (M.set id (qi (mC++[a]))):=by
 have b:(uI a).pl=uI a:=rfl;simp only[jP,h,qi,b,MT,oJ,if_true,MU];grind[AV.pl]
def flat(a:Nat->aL)(b:Nat):aL:=((ay b).map a).flatten
theorem Ew(b:Nat->aL):∀{m a:Nat},a<m->∃c d:aL,∀Q:aL,flat (bN b a Q) m=c++(Q++d)
 |0,_,h=>by omega
 |m+1,a,h=>by
  have g:∀b:Nat->aL,flat b (m+1)=flat b m++b m:=by grind[flat,List.range_succ]
  by_cases e:a=m;subst e;refine⟨flat b a,[],λQ=>?_⟩;rw[g];have j:flat (bN b a Q) a=flat b a:=by
   unfold flat
   congr 1
   refine sP λi f=>?_;have:i<a:=by simpa using f
   unfold bN;grind
  grind[bN];let⟨c,d,k⟩:=Ew b (m:=m) (a:=a) (by omega);refine⟨c,d++b m,λQ=>?_⟩;grind[bN]
variable{K:Type}
theorem H5(a:Nat->K)(b:Nat):bN a b (a b)=a:=by
 grind[bN]
variable{k bo:aL}{gF:Obj}
theorem Holds.sD(h:Holds M (k++(U,gF)::bo))(a:Obj):Holds (M.set U a) (k++(U,a)::bo):=Holds.front (Holds.set (Holds.back h) a)
def iw(b:Nat)(e:Nat->Nat)(f:Nat->AV)(c:List (Nat×Nat))(d:Nat->aL):aL:=(1,.arr 0 1 (b9 b λa=>[I (e a:Int)]))::(2,.arr 0 1 (b9 b λa=>[f a]))::(3,qi c)::flat d b
variable{mJ:Nat × Nat}
theorem amA(a:Nat):b5 (mC++[mJ]) [] a=(if a=mJ.1 then b5 mC [] a+1 else b5 mC [] a):=by
 grind[b5]
theorem amB(a:Nat):eb (mC++[mJ]) a=(if a=mJ.2 then eb mC a++[mJ.1]else eb mC a):=by
 grind[eb]
variable{iD:List Obj -> Prop}
theorem amC{d:Nat->AV}{e:Nat->aL}(b a:Nat)(r:b<U)(k:a<U)(E:Holds M (iw U (b5 mC []) d mC e))(V:∀c,bB (d c) cN 1 (eb mC c) (e c))(T:(b,a)∉mC)(ax:Z mC<100000)
 (F:∀t G v,Holds t (iw U (b5 (mC++[(b,a)]) []) G (mC++[(b,a)]) v)->(∀c,bB (G c) cN 1 (eb (mC++[(b,a)]) c) (v c))->iD t):
 bd (jP Ev (.b8 3) (.agg [I (b:Int),I (a:Int)]) tt M) λl=>bd (bP 1 (.q 1 0 0 U) (I (b:Int)) l) λX=>bd (aQ 1 ab X l) λY=>bd (aT .s .add Y (I 1)) λac=>bd (bP 1 (.q 1 0 0 U) (I (b:Int)) l) λaf=>bd (du 1 af ac l) λp=>
  bd (bP 1 (.q 2 0 0 U) (I (a:Int)) p) λah=>bd (aQ 1 ab ah p) λai=>bd (fS 1 [(I 0)] 1 [(0,I (b:Int))]) λaj=>cq (cJ 1 8 ai aj p) λak A=>bd (bP 1 (.q 2 0 0 U) (I (a:Int)) A) λam=>bd (du 1 am ak A) λR=>iD R:=by
 have az:b5 mC [] b<=Z mC:=nX _ _;have aA:Z (eb mC a)<=Z mC:=by
  unfold eb;rw[jX];exact nX _ _
 apply aI (amz (b,a) (E.get (U:=3) (gF:=qi mC) (by simp[iw])) T);have y:Holds (M.set 3 (qi (mC++[(b,a)]))) (iw U (b5 mC []) d (mC++[(b,a)]) e):=Holds.sD (k:=[(1,.arr 0 1 (b9 U λc=>[I (b5 mC [] c:Int)])),(2,.arr 0 1 (b9 U λc=>[d c]))]) E _;generalize M.set 3 (qi (mC++[(b,a)]))=m at*;have o:m[1]?=aa (.arr 0 1 (b9 U λc=>[I (b5 mC [] c:Int)])):=y.get (by simp[iw])
 simp only[xm o r,O,Ax o r (a:=I (b5 mC [] b:Int)) rfl,aZ (show b5 mC [] b<4611686018427387904 by omega)];apply aI (H4 o r (w:=I (b5 mC [] b:Int)) rfl rfl rfl);have K:b9 U (bN (λc=>[I (b5 mC [] c:Int)]) b [I ((b5 mC [] b+1:Nat):Int)])=b9 U λc=>[I (b5 (mC++[(b,a)]) [] c:Int)]:=by
  refine Cd λc _=>?_;rw[amA];unfold bN;split;rename_i h;subst h;rfl;rfl
 rw[K];have z:Holds (m.set 1 (.arr 0 1 (b9 U λc=>[I (b5 (mC++[(b,a)]) [] c:Int)]))) (iw U (b5 (mC++[(b,a)]) []) d (mC++[(b,a)]) e):=Holds.set y _;generalize m.set 1 (.arr 0 1 (b9 U λc=>[I (b5 (mC++[(b,a)]) [] c:Int)]))=u at*;have w:u[2]?=aa (.arr 0 1 (b9 U λc=>[d c])):=z.get (by simp[iw]);let⟨f,j,D⟩:=Ew e k;have S:flat e U=f++(e a++j):=by rw[<-D,H5]
 simp only[xm w k,O,Ax w k (a:=d a) rfl];refine aI (dW:=.sl ab [cN b]) rfl ?_;let i:aL:=[(1,.arr 0 1 (b9 U λc=>[I (b5 (mC++[(b,a)]) [] c:Int)])),(2,.arr 0 1 (b9 U λc=>[d c])),(3,qi (mC++[(b,a)]))];have P:Holds u ((i++f)++(e a++j)):=by
  have:iw U (b5 (mC++[(b,a)]) []) d (mC++[(b,a)]) e=(i++f)++(e a++j):=by
   rw[iw,S];simp[i]
  rw[<-this];exact z
 let⟨id,g,n,L,Q⟩:=(V a).app (bytes:=8) P.swap b rfl (by omega);apply aY L;have B:Holds n ([(1,.arr 0 1 (b9 U λc=>[I (b5 (mC++[(b,a)]) [] c:Int)]))]++(2,.arr 0 1 (b9 U λc=>[d c]))::((3,qi (mC++[(b,a)]))::flat (bN e a [(id,.arr g 1 ((eb mC a++[b]).map cN))]) U)):=by
  have C:Holds n ((i++f)++([(id,.arr g 1 ((eb mC a++[b]).map cN))]++j)):=Holds.swap (k:=[(id,.arr g 1 ((eb mC a++[b]).map cN))]) (bo:=i++f) Q;have J:(i++f)++([(id,.arr g 1 ((eb mC a++[b]).map cN))]++j)=i++flat (bN e a [(id,.arr g 1 ((eb mC a++[b]).map cN))]) U:=by
   rw[D,ht]
  rw[J]at C;exact C
 have x:n[2]?=aa (.arr 0 1 (b9 U λc=>[d c])):=B.get (by simp);simp only[xm x k,O];apply aI (H4 x k (w:=d a) rfl rfl rfl);have N:b9 U (bN (λc=>[d c]) a [.q id g 0 (Z (eb mC a++[b]))])=b9 U λc=>[bN d a (.q id g 0 (Z (eb mC a++[b]))) c]:=by
  refine Cd λc _=>?_;unfold bN;grind
 rw[N];refine F _ (bN d a (.q id g 0 (Z (eb mC a++[b])))) (bN e a [(id,.arr g 1 ((eb mC a++[b]).map cN))]) (Holds.sD B _) λc=>?_;rw[amB];grind[bN,bB.of]
variable{V:D}
theorem H6:p8 V U N=ad<->((U:Int),(N:Int))∈(kO V).map (·.1):=by
 simp only[p8,qX,l4,Jd,ba,beq_iff_eq];constructor;rintro⟨⟨b,c⟩,a,rfl,rfl⟩;exact a;intro h;exact⟨_,h,rfl,rfl⟩
theorem MV(a:mq V):Z (kO V)<=10000:=by
 have b:=D3 V 100 V.ak a.2.1 [];have c:=mB 100 a.1;grind[kO]
theorem MW(a:Nat):flat (λ_=>[]) a=[]:=by simp[flat]
variable{bu:List Nat}
theorem H7(h:bu.Nodup)(c:∀a∈bu,a<U):Z bu<=U:=by
 have b:bu.Perm ((ay U).filter λa=>y (a∈bu)):=(OZ h (E7.filter _)).2 (by grind);rw[b.length_eq];grind
variable{fo:List (List Nat)}
theorem XL:fX (fo[U]?.getD [])=(q2 fo U:Int):=by
 grind[fX,q2,g]
variable{T F:Bool}
theorem amD(z:D)(g6:mq z){of:Nat->Nat}(ls:PR C 72 [.agg (cP T F z)] (.aB [eS ab cN ((ay (Z z.Q)).map of),eS ab cG fo]))(a6:tn (Z z.Q) (cQ z) fo of)(be:Z fo<=Z z.Q):PR C 26 [.agg (cP T F z)] (eS ab cG (eN (Z z.Q) (cQ z))):=by
 have t4:=g6.2.2;apply RV.pr;refine aI (eE _ _ _) (aY rfl ?_);rw[gy,O];apply c ls;simp only[fK,dj,eH,O,aX];apply aY (se (by omega) (by omega));apply aY (se (by omega) (by omega));simp only[dR,e2,hG,kI,e4,gy,O];apply c (XB z g6);simp only[dj,eH,O,aX];have ah:∀(U:Nat)(f3:List AV),dh U f3=b9 U λ_=>f3:=λU f3=>by simp[b9,O0]
 rw[ah,ah];have g1:=BV (V:=z);have hx:=MV g6;have hw:∀m p,p8 z m p=ad<->((m:Int),(p:Int))∈(kO z).map (·.1):=λm p=>H6;have m3:∀f(h:f<Z ((kO z).map (·.1))),∃m p:Nat,((kO z).map (·.1))[f]=((m:Int),(p:Int))/\m<Z z.Q/\p<Z z.Q:=by
  intro f h;have be:=bn h;let⟨v,g0,o⟩:=cy.1 be;have:=g1 v g0;refine⟨v.1.1.toNat,v.1.2.toNat,?_,by omega,by omega⟩;rw[<-o];let⟨⟨l,E⟩,f3⟩:=v;simp only at this⊢;rw[eG];omega
 have hx:Z ((kO z).map (·.1))<=10000:=by simpa using hx
 have gU:∀m p,p8 z m p=ad->m<Z z.Q/\p<Z z.Q:=by
  intro m p h;let⟨v,g0,o⟩:=cy.1 ((hw m p).1 h);have:=g1 v g0;have t:v.1.1=m:=by rw[o]
  have u:v.1.2=p:=by rw[o]
  omega
 have m2:∀out,w6 (p8 z) fo of (λ_=>ab) out->eN (Z z.Q) (cQ z)=out:=λout ah=>ake a6 gU (λm p=>Hb gU m p) ah;clear g1;generalize(kO z).map (·.1)=aR at*;generalize t5:Z z.Q=ak at*;generalize p8 z=f7 at*;generalize cQ z=s0 at*;have cs:Holds [.arr 0 1 [],.arr 0 1 (b9 (Z fo) λ_=>[I 0]),.arr 0 1 (b9 (Z fo) λ_=>[.aq]),qi []] (iw (Z fo) (b5 [] []) (λ_=>.aq) [] λ_=>[]):=by
  refine⟨by simp[iw,MW],λl ai=>?_⟩;simp only[iw,MW,b6,jN,or_false]at ai;rcases ai with rfl|rfl|rfl<;>rfl
 have g5:∀m,m<ak->∀B,bP 1 (eS ab cN ((ay ak).map of)) (I (m:Int)) B=aa (.aH ab (cN (of m)) 0):=λm m0 B=>by
  have m1:m<Z ((ay ak).map of):=by simpa using m0
  have v:bP 1 (eS ab cN ((ay ak).map of)) (I (m:Int)) B=aa (.aH ab (cN ((ay ak).map of)[m]) 0):=aE m1 rfl;rw[v,xD,CD]
 have hk:∀ak:Nat,(cN ak)[0]?=aa (I (ak:Int)):=λ_=>rfl;generalize d0:Z fo=U at*
 apply bG (K:=Nat×List Obj×List (Nat×Nat)×(Nat->AV)×(Nat->aL)) (λj=>[I j.1]) (λj=>j.2.1) (λj=>Z aR -j.1) (λj=>j.1<=Z aR/\Holds j.2.1 (iw U (b5 j.2.2.1 []) j.2.2.2.1 j.2.2.1 j.2.2.2.2)/\(∀d,bB (j.2.2.2.1 d) cN 1 (eb j.2.2.1 d) (j.2.2.2.2 d))/\j.2.2.1.Nodup/\Z j.2.2.1<=j.1/\∀l E,(l,E)∈j.2.2.1<->l≠E/\∃m p:Nat,((m:Int),(p:Int))∈aR.take j.1/\of m=l/\of p=E) (0,_,[],(λ_=>.aq),λ_=>[]) ⟨by simp,cs,λd=>bB.nil _ _,xF,by simp,by simp⟩
 clear cs;rintro⟨f,af,e,N,L⟩ ⟨g2,a2,d1,a3,l0,el⟩ s1 ac;simp only at g2 a2 d1 a3 l0 el ac⊢;simp only[G,A,O,a];refine b (λh=>?_) (λh=>?_);have h:f<Z aR:=by simpa using h
 let⟨m,p,ho,hs,hu⟩:=m3 f h;have R:=a6.pw m hs;have io:=a6.pw p hu;rw[d0]at R io;have ro:∀v:Int×Int,aQ 2 ad (.aH ab (b3 v) 0) af=aa (.agg (b3 v)):=λ_=>rfl;have kl:∀v:Int×Int,dO 2 (.agg (b3 v))=aa [I v.1,I v.2]:=λ_=>rfl;have kw:∀l E:Int,dO 2 (.agg [I l,I E])=aa [I l,I E]:=λ_ _=>rfl;have f0:=iy h;rw[ho]at f0;rw[bz]
 simp only[aE h (ub _),O,ro,kl,ho,G,i,g5 m hs,g5 p hu,aJ,hk,wU,kw,cv,aZ (show f<4611686018427387904 by omega)];have nl:(((of m:Nat):Int) !=(of p:Int))=y (of m≠of p):=by
  rw[iA,bne_iff_ne,decide_eq_true_eq];omega
 rw[nl];have h4:∀(f6:List (Nat×Nat)),(∀l E,(l,E)∈f6<->(l,E)∈e\/(of m≠of p/\l=of m/\E=of p))->∀l E,(l,E)∈f6<->l≠E/\∃m p:Nat,((m:Int),(p:Int))∈aR.take (f+1)/\of m=l/\of p=E:=by
  intro f6 lm l E;rw[lm,el,f0];simp only[dt,l6,eG];constructor;rintro(⟨o,d7,d8,t,u,w⟩|⟨o,rfl,rfl⟩);exact⟨o,d7,d8,.inl t,u,w⟩;exact⟨o,m,p,.inr ⟨rfl,rfl⟩,rfl,rfl⟩;rintro⟨o,d7,d8,t|⟨t,u⟩,w,X⟩;exact .inl ⟨o,d7,d8,t,w,X⟩;have f8:d7=m:=by omega
  have kx:d8=p:=by omega
  subst f8;subst kx;exact .inr ⟨by rw[w,X];exact o,w.symm,X.symm⟩
 refine yF (M:=af) (y (of m≠of p)&& !y ((of m,of p)∈e)) [I (m:Int),I (p:Int),I (of m:Int),I (of p:Int)] (λi1 fn=>?_) ?_;refine aV (λo=>?_) (λo=>Ea fn (by rw[o]<;>rfl));have M:=amy (of m,of p) (a2.get (U:=3) (gF:=qi e) (by simp[iw]));have n8:uI (of m,of p)=.agg [I (of m:Int),I (of p:Int)]:=rfl;rw[n8]at M;simp only[M,O,bI];exact Ea fn (by rw[o,c3]);simp only[G,i];refine b (λo=>?_) (λo=>?_)
 simp only[ba,decide_eq_true_eq,hv,decide_eq_false_iff_not]at o;refine amC (of m) (of p) R io a2 d1 o.2 (by omega) λi2 st i9 rx sp=>?_;refine ac (f+1,i2,e++[(of m,of p)],st,i9) ⟨h,rx,sp,?_,by simp;omega,h4 _ λl E=>?_⟩ (by simp;omega);rw[tQ];refine⟨a3,by simp,λl ai E au=>?_⟩;simp only[l6]at au;subst au;rintro rfl;exact o.2 ai;simp only[dt,l6,eG]
 exact⟨λaj=>aj.imp id λl=>⟨o.1,l⟩,λaj=>aj.imp id λl=>l.2⟩;refine ac (f+1,af,e,N,L) ⟨h,a2,d1,a3,by simp;omega,h4 _ λl E=>?_⟩ (by simp;omega);constructor;exact .inl;rintro(t|⟨t,rfl,rfl⟩);exact t;simp only[Ji,decide_eq_false_iff_not,OU,decide_eq_true_eq]at o;exact o.resolve_left λaj=>aj t
 ·have:f=Z aR:=by simp at h;omega
  subst this;clear ac;rw[dY]at el;have go:H3 f7 of e:=⟨a3,λl E=>by rw[el];simp only[hw]⟩;have a4:∀f(h:f<U),fo[f]?.getD []=fo[f]'(by rw[d0];exact h):=λf h=>by rw[bq (by rw[d0];exact h)]<;>rfl
  have c2:∀f,f<U->fo[f]?.getD []≠[]:=λf h=>by rw[a4 f h];exact a6.ne _ (bn _)
  have lc:nC 1 .dL af=aa (.ptr (Z af) 0 0 0,af++[.arr 0 1 [[.dL]]]):=rfl;apply aY lc;have ek:Holds (af++[.arr 0 1 [[.dL]]]) (dP (Z af) .dL [] (iw U (b5 e []) N e L)):=a2.alloc (.arr 0 1 [[.dL]]);generalize af++[Obj.arr 0 1 [[AV.dL]]]=i3 at*;generalize Z af=P at*;have hH:∀f,(ay (f+1)).filter (λd=>b5 e [] d==0)=(ay f).filter (λd=>b5 e [] d==0)++(if b5 e [] f=0 then[f]else[]):=λf=>by
   rw[uR,y7];by_cases h:b5 e [] f=0<;>simp[h]
  apply bG (K:=Nat×List Obj×AV×(Nat->List Nat)×Nat×aL) (λj=>[I j.1]) (λj=>j.2.1) (λj=>U -j.1) (λj=>j.1<=U/\gq j.2.2.1 j.2.2.2.1 j.2.2.2.2.1 j.2.2.2.2.2/\Holds j.2.1 (dP P j.2.2.1 j.2.2.2.2.2 (iw U (b5 e []) N e L))/\Hp (λn=>fX (j.2.2.2.1 n)) j.2.2.2.2.1/\(hD j.2.2.2.1 j.2.2.2.2.1).Perm (((ay j.1).filter λd=>b5 e [] d==0).map λf=>fo[f]?.getD [])/\j.2.2.2.2.1<=j.1) (0,i3,.dL,(λ_=>[]),0,[]) ⟨by simp,.inl ⟨rfl,rfl,rfl⟩,ek,λf t0 o=>absurd o (by simp),.refl _,by simp⟩
  clear ek a2;rintro⟨f,B,K,J,V,W⟩ ⟨g2,S,H,R,M,ip⟩ i6 ac;simp only at g2 S H R M ip ac⊢;simp only[G,A,O,a];have a5:∀n,n<V->J n≠[]:=λn az=>by
   let⟨d,x,v⟩:=cy.1 (M.mem_iff.1 (xj.2 ⟨n,az,rfl⟩));rw[<-v];have:d<f:=by simpa using(l5.1 x).1
   exact c2 d (by omega)
  refine b (λo=>?_) (λo=>?_);have o:f<U:=by simpa using o
  have lt:f<Z fo:=by omega
  have a0:B[1]?=aa (.arr 0 1 (b9 U λd=>[I (b5 e [] d:Int)])):=H.get (by simp[dP,iw]);have pp:bP 1 (eS ab cG fo) (I (f:Int)) B=aa (.aH ab (cG fo[f]) 0):=aE lt (w7 _);have d2:∀d4 f2 cl bm d6,gq f2 cl bm d6->Holds d4 (dP P f2 d6 (iw U (b5 e []) N e L))->Hp (λn=>fX (cl n)) bm->(hD cl bm).Perm (((ay (f+1)).filter λd=>b5 e [] d==0).map λf=>fo[f]?.getD [])->bm<=f+1->i6 [I ((f+1:Nat):Int)] d4:=
   λd4 f2 cl bm d6 cb ci cc ce ke=>ac (f+1,d4,f2,cl,bm,d6) ⟨o,cb,ci,cc,ce,ke⟩ (by simp only;omega)
  rw[hH]at d2;rw[bz];simp only[pp,O,aJ,tq,xm a0 o,Ax a0 o (a:=I (b5 e [] f:Int)) rfl,tD,aZ (show f<4611686018427387904 by omega)];refine b (λt=>?_) (λt=>?_);have t:b5 e [] f=0:=by
   rw[beq_iff_eq]at t;omega
  rw[if_pos t,hJ]at d2;refine c4 (XH fo[f] S (by omega) R a5 (by rw[<-a4 f o];exact c2 f o) H) rfl λr f4 ah=>?_;let⟨rfl,v2,co,i7,cb,ci,cc,ce⟩:=ah;refine d2 f4 v2 co (V+1) i7 cb ci cc ?_ (by omega);refine ce.trans ((List.Perm.cons _ M).trans ?_);have:[f].map (λf=>fo[f]?.getD [])=[fo[f]]:=by simp[a4 f o]
  rw[this];exact Jg (l₁:=[fo[f]]);have t:b5 e [] f≠0:=by
   rw[beq_eq_false_iff_ne]at t;omega
  rw[if_neg t,sQ]at d2;exact d2 B K J V W S H R M (by omega)
  ·have:f=U:=by simp at o;omega
   subst this;clear ac;have ol:∀d,((b5 e [] d==0)=ad)=(b5 e [] d=0):=λd=>by simp
   have Y:vM f7 fo of e [] ((ay f).filter λd=>b5 e [] d==0):=vM.start (E7.filter _) λd=>by simp[d0]
   have cs:Holds (B++[.arr 0 1 []]) (dP P K W ([(Z B,.arr 0 1 (([]:List (List Nat)).map cG))]++iw f (b5 e []) N e L)):=Holds.front (k:=(P,.arr 0 1 [[K]])::W) (H.alloc (.arr 0 1 []));refine aY (dW:=.q (Z B) 0 0 0) (oR:=B++[.arr 0 1 []]) rfl ?_;generalize B++[Obj.arr 0 1 []]=i4 at*;generalize Z B=d3 at*
   have aA:bB (.q d3 0 0 0) cG 1 ([]:List (List Nat)) [(d3,.arr 0 1 (([]:List (List Nat)).map cG))]:=bB.of (x:=([]:List (List Nat)));generalize((ay f).filter λd=>b5 e [] d==0)=jp at*;clear H a5 ol hH
   refine bG (K:=List Obj×AV×(Nat->List Nat)×Nat×aL×AV×aL×List Nat×List Nat) (λj=>[j.2.2.2.2.2.1]) (λj=>j.1) (λj=>f -(Z j.2.2.2.2.2.2.2.1)) (λj=>gq j.2.1 j.2.2.1 j.2.2.2.1 j.2.2.2.2.1/\Holds j.1 (dP P j.2.1 j.2.2.2.2.1 (j.2.2.2.2.2.2.1++iw f (b5 e j.2.2.2.2.2.2.2.1) N e L))/\Hp (λn=>fX (j.2.2.1 n)) j.2.2.2.1/\(hD j.2.2.1 j.2.2.2.1).Perm (j.2.2.2.2.2.2.2.2.map λf=>fo[f]?.getD [])/\
    bB j.2.2.2.2.2.1 cG 1 (j.2.2.2.2.2.2.2.1.map λf=>fo[f]?.getD []) j.2.2.2.2.2.2.1/\vM f7 fo of e j.2.2.2.2.2.2.2.1 j.2.2.2.2.2.2.2.2/\j.2.2.2.2.2.2.2.1.Nodup/\∀d∈j.2.2.2.2.2.2.2.1,d<f) (i4,K,J,V,W,.q d3 0 0 0,[(d3,.arr 0 1 (([]:List (List Nat)).map cG))],[],jp) ⟨S,cs,R,M,aA,Y,xF,by simp⟩ ?_
   clear cs aA Y R M S ip;rintro⟨B,K,J,V,W,us,hg,done,Rd⟩ ⟨S,H,R,M,aA,Y,es,eq⟩ s2 ac;simp only at S H R M aA Y es eq ac⊢;have em:∀d∈Rd,d<f:=λd x=>by have:=((Y.Aw d).1 x).1;omega
   have t7:V<=f:=by
    have o:=M.length_eq;have t:=H7 Y.MR em;simp[hD]at o;omega
   have t2:=H7 es eq;have ek:=dP.get H;simp only[hV ek,O,dP.ld H];apply xk (by simp[S.pl]) (MJ (M:=B) S);rw[eU,O];refine b (λo=>?_) (λo=>?_)
   ·obtain⟨br,rfl⟩:∃br,V=br+1:=⟨V -1,by simp at o;omega⟩
    have a5:∀n,n<br+1->J n≠[]:=λn az=>by
     let⟨d,x,v⟩:=cy.1 (M.mem_iff.1 (xj.2 ⟨n,az,rfl⟩));rw[<-v];exact c2 d (em d x)
    refine c4 (amv S (by omega) R a5 H) rfl λr f4 ah=>?_;obtain⟨rfl,m8,v1,f9,bv,hO,hl,ii,h3⟩:=ah;let⟨k,ex,d9⟩:=cy.1 (M.mem_iff.1 (xj.2 ⟨0,by omega,rfl⟩));have a9:=em k ex;have g3:=((Y.Aw k).1 ex).2.1;simp only[Bh,if_true,O];refine aI (dW:=.sl ab [cG (J 0)]) rfl ?_;have fy:Holds f4 (hg++(((P,.arr 0 1 [[v1]])::bv)++iw f (b5 e done) N e L)):=Holds.swap (k:=(P,.arr 0 1 [[v1]])::bv) hl
    let⟨id,g,d5,hh,c1⟩:=aA.app (bytes:=24) fy (J 0) rfl (by rw[jX];omega);apply aY hh;have c1:Holds d5 (dP P v1 bv ([(id,.arr g 1 ((done.map (λf=>fo[f]?.getD [])++[J 0]).map cG))]++iw f (b5 e done) N e L)):=Holds.front (k:=(P,.arr 0 1 [[v1]])::bv) c1
    have n6:bB (.q id g 0 (Z (done.map (λf=>fo[f]?.getD [])++[J 0]))) cG 1 ((done++[k]).map λf=>fo[f]?.getD []) [(id,.arr g 1 ((done.map (λf=>fo[f]?.getD [])++[J 0]).map cG))]:=by
     rw[hJ,Jj,d9];exact bB.of
    generalize md:[(id,Obj.arr g 1 ((done.map (λf=>fo[f]?.getD [])++[J 0]).map cG))]=aF at*;clear fy hh md;have m4:J 0=fo[k]'(by omega):=by rw[<-d9];exact a4 k a9
    have m7:(J 0).headD 0∈J 0:=by
     have:=a5 0 (by omega);rcases aj:J 0 with _|⟨m,l⟩;exact absurd aj this;simp
    have h1:=(a6.mem k (by omega) ((J 0).headD 0)).1 (by rw[<-m4];exact m7);have i0:bP 1 (eS ab cN (J 0)) (I 0) d5=aa (.aH ab (cN ((J 0).headD 0)) 0):=by
     have:=a5 0 (by omega);rcases aj:J 0 with _|⟨m,l⟩;exact absurd aj this;exact aE (x:=m::l) (U:=0) (by simp) rfl
    have gc:d5[2]?=aa (.arr 0 1 (b9 f λd=>[N d])):=c1.get (by simp[dP,iw]);simp only[i0,O,aJ,hk,g5 _ h1.1,h1.2,xm gc a9,Ax gc a9 (a:=N k) rfl,(d1 k).ln];have mt:=XJ (b:=k) a3;have ds:∀l,l∈eb e k<->(l,k)∈e:=λl=>amx;have gt:∀l∈eb e k,l<f:=λl ai=>by
     let⟨_,m,p,t,u,_⟩:=(go.mem l k).1 ((ds l).1 ai);have:=a6.pw m (gU m p t).1;omega
    have it:∀l,b5 e done l=b5 e (done++[k]) l+(if(l,k)∈e then 1 else 0):=λl=>MP g3 a3;have hn:(hD f9 br).Perm ((Rd.erase k).map λf=>fo[f]?.getD []):=by
     have t:(J 0::hD f9 br).Perm (Rd.map λf=>fo[f]?.getD []):=h3.symm.trans M;have u:=(List.perm_cons_erase ex).map (λf=>fo[f]?.getD []);rw[ej,d9]at u;exact(t.trans u).cons_inv
    have t1:Z (eb e k)<=10000:=by
     have:Z (eb e k)<=Z e:=by unfold eb;rw[jX];exact nX _ _
     omega
    have mk:∀l,b5 e done l<=10000:=λl=>by
     have:b5 e done l<=Z e:=nX _ _;omega
    refine bG (K:=Nat×List Obj×AV×(Nat->List Nat)×Nat×aL×List Nat) (λj=>[I j.1]) (λj=>j.2.1) (λj=>Z (eb e k) -j.1) (λj=>j.1<=Z (eb e k)/\gq j.2.2.1 j.2.2.2.1 j.2.2.2.2.1 j.2.2.2.2.2.1/\Holds j.2.1 (dP P j.2.2.1 j.2.2.2.2.2.1 (aF++iw f (λd=>if d∈(eb e k).take j.1 then b5 e (done++[k]) d else b5 e done d) N e L))/\Hp (λn=>fX (j.2.2.2.1 n)) j.2.2.2.2.1/\
     (hD j.2.2.2.1 j.2.2.2.2.1).Perm (j.2.2.2.2.2.2.map λf=>fo[f]?.getD [])/\j.2.2.2.2.2.2.Nodup/\∀d,d∈j.2.2.2.2.2.2<->(d∈Rd/\d≠k)\/(d∈(eb e k).take j.1/\b5 e (done++[k]) d=0)) (0,d5,v1,f9,br,bv,Rd.erase k) ⟨by simp,hO,by simpa using c1,ii,hn,Y.MR.erase _,λd=>by rw[Y.MR.mem_erase_iff];simp;exact and_comm⟩ ?_
    clear c1 gc i0 hO ii h3 hn H hl;rintro⟨n,B,K,co,V,W,bD⟩ ⟨az,S,H,R,bb,dl,ax⟩ ty f1;simp only at az S H R bb dl ax f1⊢;simp only[G,A,O,a];have hm:∀d∈bD,d<f:=λd x=>by
     rcases(ax d).1 x with⟨t,-⟩|⟨t,-⟩;exact em d t;exact gt d (sL t)
    have t8:V<=f:=by
     have o:=bb.length_eq;have t:=H7 dl hm;simp[hD]at o;omega
    have m5:∀n,n<V->co n≠[]:=λn az=>by
     let⟨d,x,v⟩:=cy.1 (bb.mem_iff.1 (xj.2 ⟨n,az,rfl⟩));rw[<-v];exact c2 d (hm d x)
    refine b (λt=>?_) (λt=>?_)
    ·have t:n<Z (eb e k):=by simpa using t
     have iG:(eb e k)[n]∈eb e k:=bn t;have f0:=iy t;have g8:(eb e k)[n]∉(eb e k).take n:=λbe=>by
      let⟨d,x,v⟩:=sO be;rw[Fj]at v;have t3:d<n:=by rw[h0]at x;omega
      have:=(ar8 (h₀:=by omega) (h₁:=t) mt).1 v;omega
     have ok:Gr B (N k) cN 1 (eb e k):=by
      let⟨ha,he,lw⟩:=Ew L a9;have m6:flat L f=ha++(L k++he):=by rw[<-lw,H5]
      have v:dP P K W (aF++iw f (λd=>if d∈(eb e k).take n then b5 e (done++[k]) d else b5 e done d) N e L)=
       ((P,.arr 0 1 [[K]])::(W++(aF++([(1,.arr 0 1 (b9 f λd=>[I ((if d∈(eb e k).take n then b5 e (done++[k]) d else b5 e done d:Nat):Int)])),(2,.arr 0 1 (b9 f λd=>[N d])),(3,qi e)]++ha))))++(L k++he):=by
       simp[dP,iw,m6]
      have u:=H;rw[v]at u;exact(d1 k).gr u.swap
     let⟨pu,li,qr,rc,rd⟩:=ok.at t;have am:=gt _ iG;have pi:=(ds _).1 iG;have a0:B[1]?=aa (.arr 0 1 (b9 f λd=>[I ((if d∈(eb e k).take n then b5 e (done++[k]) d else b5 e done d:Nat):Int)])):=H.get (by simp[dP,iw]);have g7:=it (eb e k)[n];rw[if_pos pi]at g7;have t6:=mk (eb e k)[n];have ms:(eb e k)[n]∉bD:=λbe=>by
      rcases(ax _).1 be with⟨u,-⟩|⟨u,-⟩;have:=((Y.Aw _).1 u).2.2;omega;exact g8 u
     have bi:∀d,d∈(eb e k).take (n+1)<->d∈(eb e k).take n\/d=(eb e k)[n]:=λd=>by rw[f0,dt,l6]
     generalize t9:(eb e k)[n]=l at*;have rt:aQ 1 ab (.ptr pu li n 0) B=aa (I (l:Int)):=by rw[c0 rc rd]<;>rfl
     have os:aT .s .sub (I ((b5 e (done++[k]) l+1:Nat):Int)) (I 1)=aa (I (b5 e (done++[k]) l:Int)):=by
      rw[nG (by omega) (by omega)];simp
     rw[bz];simp only[qr,O,rt,xm a0 am,Ax a0 am (a:=I ((b5 e (done++[k]) l+1:Nat):Int)) (by rw[if_neg g8,g7]),os];apply aI (H4 a0 am (w:=I ((b5 e (done++[k]) l+1:Nat):Int)) (by rw[if_neg g8,g7]) rfl rfl)
     have f8:b9 f (bN (λd=>[I ((if d∈(eb e k).take n then b5 e (done++[k]) d else b5 e done d:Nat):Int)]) l [I (b5 e (done++[k]) l:Int)])=b9 f λd=>[I ((if d∈(eb e k).take (n+1)then b5 e (done++[k]) d else b5 e done d:Nat):Int)]:=by
      refine Cd λd _=>?_;unfold bN;by_cases g4:d=l;subst g4;rw[if_pos rfl,if_pos ((bi _).2 (.inr rfl))];rw[if_neg g4];by_cases fd:d∈(eb e k).take n;simp only[if_pos fd,if_pos ((bi d).2 (.inl fd))];have:¬d∈(eb e k).take (n+1):=λh=>((bi d).1 h).elim fd g4;simp only[if_neg fd,if_neg this]
     rw[f8];have ge:Holds (B.set 1 (.arr 0 1 (b9 f λd=>[I ((if d∈(eb e k).take (n+1)then b5 e (done++[k]) d else b5 e done d:Nat):Int)]))) (dP P K W (aF++iw f (λd=>if d∈(eb e k).take (n+1)then b5 e (done++[k]) d else b5 e done d) N e L)):=by
      have u:Holds B (((P,.arr 0 1 [[K]])::(W++aF))++(1,.arr 0 1 (b9 f λd=>[I ((if d∈(eb e k).take n then b5 e (done++[k]) d else b5 e done d:Nat):Int)]))::((2,.arr 0 1 (b9 f λd=>[N d]))::(3,qi e)::flat L f)):=by simpa[dP,iw]using H
      have w:=Holds.sD u (.arr 0 1 (b9 f λd=>[I ((if d∈(eb e k).take (n+1)then b5 e (done++[k]) d else b5 e done d:Nat):Int)]));simpa[dP,iw]using w
     generalize B.set 1 (.arr 0 1 (b9 f λd=>[I ((if d∈(eb e k).take (n+1)then b5 e (done++[k]) d else b5 e done d:Nat):Int)]))=f5 at*;have hj:f5[1]?=aa (.arr 0 1 (b9 f λd=>[I ((if d∈(eb e k).take (n+1)then b5 e (done++[k]) d else b5 e done d:Nat):Int)])):=ge.get (by simp[dP,iw])
     simp only[xm hj am,O,Ax hj am (a:=I (b5 e (done++[k]) l:Int)) (by rw[if_pos ((bi l).2 (.inr rfl))]),tD,aZ (show n<4611686018427387904 by omega)];refine b (λu=>?_) (λu=>?_);have u:b5 e (done++[k]) l=0:=by
      rw[beq_iff_eq]at u;omega
     have pm:l<Z fo:=by omega
     have ps:bP 1 (eS ab cG fo) (I (l:Int)) f5=aa (.aH ab (cG fo[l]) 0):=aE pm (w7 _);simp only[ps,O,aJ,tq];refine c4 (XH fo[l] S (by omega) R m5 (by rw[<-a4 l am];exact c2 l am) ge) rfl λr i5 ah=>?_;let⟨rfl,sz,le,i8,cb,ci,cc,ce⟩:=ah;refine f1 (n+1,i5,sz,le,V+1,i8,l::bD) ⟨t,cb,ci,cc,?_,?_,λd=>?_⟩ (by simp only;omega);refine ce.trans ?_;rw[ej,a4 l am];exact List.Perm.cons _ bb
     rw[k0];exact⟨ms,dl⟩;rw[b6,ax,bi];constructor;rintro(rfl|w|⟨w,X⟩);exact .inr ⟨.inr rfl,u⟩;exact .inl w;exact .inr ⟨.inl w,X⟩;rintro(w|⟨w|w,X⟩);exact .inr (.inl w);exact .inr (.inr ⟨w,X⟩);exact .inl w;have u:b5 e (done++[k]) l≠0:=by
      rw[beq_eq_false_iff_ne]at u;omega
     refine f1 (n+1,f5,K,co,V,W,bD) ⟨t,S,ge,R,bb,dl,λd=>?_⟩ (by simp only;omega);rw[ax,bi];constructor;rintro(w|⟨w,X⟩);exact .inl w;exact .inr ⟨.inl w,X⟩;rintro(w|⟨w|rfl,X⟩);exact .inl w;exact .inr ⟨w,X⟩;exact absurd X u
    have:n=Z (eb e k):=by simp at t;omega
    subst this;clear f1;rw[dY]at H ax;have n7:(λd=>if d∈eb e k then b5 e (done++[k]) d else b5 e done d)=b5 e (done++[k]):=by
     funext d
     split;rfl;rename_i x;rw[it d,if_neg (λh=>x ((ds d).2 h))]<;>rfl
    rw[n7]at H;refine ac (B,K,co,V,W,_,aF,done++[k],bD) ⟨S,H,R,bb,n6,?_,?_,?_⟩ ?_;refine Y.step go ex (λd x=>?_) dl λd=>?_;let⟨i1,fn,v⟩:=xj.1 (M.mem_iff.2 (cy.2 ⟨d,x,rfl⟩));have:=m8 i1 fn;rw[v,<-d9,XL,XL]at this;omega;rw[ax d,ds];constructor;rintro(u|⟨u,w⟩);exact .inl u;exact .inr ⟨by rw[d0];exact gt d ((ds d).2 u),u,w⟩;rintro(u|⟨-,u,w⟩);exact .inl u;exact .inr ⟨u,w⟩;rw[tQ]
    refine⟨es,by simp,λl ai E au=>?_⟩;simp only[l6]at au;subst au;rintro rfl;exact g3 ai;intro d x;rcases dt.1 x with x|x;exact eq d x;simp only[l6]at x;subst x;exact a9;have m9:Z (done++[k])<=f:=H7 (by
     rw[tQ];refine⟨es,by simp,λl ai E au=>?_⟩;simp only[l6]at au;subst au;rintro rfl;exact g3 ai) (λd x=>by
     rcases dt.1 x with x|x;exact eq d x;simp only[l6]at x;subst x;exact a9)
    simp only[gC,jY]at m9⊢;omega
   ·have op:V=0:=by simp at o;omega
    subst op;have mp:Rd=[]:=by
     have o:=M.length_eq;simp[hD]at o;exact tO o.symm
    subst mp;rw[m2 _ (Y.last go),G,aA.pl];have fy:Holds B (hg++(((P,.arr 0 1 [[K]])::W)++iw f (b5 e done) N e L)):=Holds.swap (k:=(P,.arr 0 1 [[K]])::W) H;exact(aA.gr fy).res (by simp)
theorem XM(c:xi C)(a:D)(b:mq a)(f:Z a.ak<=12):PR C 26 [.agg (cP T F a)] (eS ab cG (eN (Z a.Q) (cQ a))):=by
 let⟨g,of,h,d,e⟩:=c T F a b f;exact amD a b h d e
end AM
namespace Law
variable{K:Type}{U N z:Nat}{cj rB:Nat -> Bool}{bu:List Nat}
section
def bW(b:Nat->K)(c:Nat)(d:K):Nat->K:=λa=>if a=c then d else b a
@[simp] theorem yM(c:Nat->K)(a:Nat)(b:K):bW c a b a=b:=by simp[bW]
theorem qj(a:Nat->K)(b:K)(h:N≠U):bW a U b N=a N:=by simp[bW,h]
inductive hW(G:Nat->List Nat):Nat->Nat->Prop
 |refl (x:Nat):hW G x x
 |step (x y z:Nat) (h:y∈G x) (t:hW G y z):hW G x z
namespace hW
variable{G:Nat->List Nat}
theorem hy(h:N∈G U):hW G U N:=.step U N N h (.refl N)
theorem trans(h:hW G U N)(a:hW G N z):hW G U z:=by
 induction h with
 |refl=>exact a
 |step b c e h _ d=>exact .step b c z h (d a)
theorem closed{a:Nat->Prop}(f:∀U N,a U->N∈G U->a N)(h:hW G U N)(b:a U):a N:=by
 induction h with
 |refl=>exact b
 |step c d e h _ g=>grind
end hW
structure TS where
 count:Nat
 aR:Nat->Nat
 cb:Nat->Nat
 eZ:Nat->Bool
 bD:List Nat
 of:Nat->Nat
 out:List (List Nat)
def TS.enter(a:TS)(b:Nat):TS:=
 {a with count:=a.count+1,aR:=bW a.aR b (a.count+1),cb:=bW a.cb b (a.count+1),eZ:=bW a.eZ b ad,bD:=a.bD++[b]}
def TS.pop(f:List Nat->List Nat)(a:TS)(e:Nat):TS:=
 let d:=a.bD.idxOf e
 let c:=a.bD.drop d
 {a with bD:=a.bD.take d,eZ:=λb=>if b∈c then ab else a.eZ b,of:=λb=>if b∈c then Z a.out else a.of b,out:=a.out++[f c]}
mutual
def ja(e:List Nat->List Nat)(c:Nat->List Nat):Nat->Nat->TS->TS
 |0,_,a=>a
 |f+1,b,a=>
  let a:=sE e c f b (c b) (a.enter b)
  if a.cb b=a.aR b then a.pop e b else a
def sE (e:List Nat->List Nat) (c:Nat->List Nat):Nat->Nat->List Nat->TS->TS
 |_,_,[],a=>a
 |f,b,d::bs,a=>
  sE e c f b bs
   (if a.aR d=0 then
    let a:=ja e c f d a
    {a with cb:=bW a.cb b (min (a.cb b) (a.cb d))}
   else if a.eZ d=ad then{a with cb:=bW a.cb b (min (a.cb b) (a.aR d))}else a)
end
def TS.hx(a:TS)(b:Nat):Prop:=a.aR b≠0/\a.eZ b=ab
structure Inv(G:Nat->List Nat)(n:Nat)(s:TS)(gr:List Nat):Prop where
 lt:∀x,s.aR x≠0->x<n
 kU:∀x,s.aR x<=s.count
 inj:∀x y,s.aR x≠0->s.aR x=s.aR y->x=y
 eZ:∀x,s.eZ x=ad<->x∈s.bD
 kV:∀x∈s.bD,s.aR x≠0
 gm:s.bD.Pairwise λx y=>s.aR x<s.aR y
 vO:∀x∈gr,x∈s.bD
 yN:∀x y,s.hx x->y∈G x->s.hx y
 black:∀x,s.aR x≠0->x∉gr->∀y∈G x,s.aR y≠0
 down:∀x∈s.bD,∀y∈s.bD,s.aR x<=s.aR y->hW G x y
 up:∀x∈s.bD,∃g∈gr,s.aR g<=s.aR x/\hW G x g
 pw:∀x,s.hx x->∃l,s.out[s.of x]?=aa l/\x∈l
 xn:∀i l,s.out[i]?=aa l->∀x∈l,s.hx x/\s.of x=i
 scc:∀x y,s.hx x->s.hx y->(s.of x=s.of y<->hW G x y/\hW G y x)
structure gN(s s':TS):Prop where
 aR:∀x,s.aR x≠0->s'.aR x=s.aR x
 cb:∀x,s.aR x≠0->s'.cb x=s.cb x
 new:∀x,s.aR x=0->s'.aR x≠0->s.count<s'.aR x
 count:s.count<=s'.count
 bD:∃qk,s'.bD=s.bD++qk/\∀x∈qk,s.count<s'.aR x
 hx:∀x,s.hx x->s'.hx x
def TS.nS(b:TS)(a:Nat):Nat:=Z ((ay a).filter λc=>b.aR c=0)
theorem MX(h:∀x,cj x=ad->rB x=ad):∀a:List Nat,Z (a.filter cj)<=Z (a.filter rB)
 |[]=>c7 _
 |x::a=>by
  have b:=MX h a;grind
theorem filter_lt(h:∀x,cj x=ad->rB x=ad):∀{a:List Nat}{b:Nat},b∈a->rB b=ad->cj b=ab->Z (a.filter cj)<Z (a.filter rB)
 |x::a,b,c,e,d=>by
  simp only[Fa];rcases b6.1 c with rfl|c;have:=MX h a;grind;have f:=filter_lt h c e d;grind
variable{ga ly:TS}
theorem XN(h:∀a,ga.aR a≠0->ly.aR a≠0):ly.nS U<=ga.nS U:=
 MX (by grind) _
theorem gN.kV(a:gN ga ly)(h:ga.aR U≠0):ly.aR U≠0:=by rw[a.aR U h];exact h
variable{gm:List Nat->List Nat}{G:Nat->List Nat}{n:Nat}
structure H8(G:Nat->List Nat)(n:Nat)(s s':TS)(gr:List Nat)(a:Nat):Prop where
 inv:Inv G n s' gr
 ext:gN s s'
 kV:s'.aR a≠0
 tF:s'.cb a<=s'.aR a
 res:(s'.hx a/\s'.bD=s.bD/\s'.cb a=s'.aR a)\/(s'.cb a<s'.aR a/\(∃z∈s.bD,s'.aR z=s'.cb a/\hW G a z)/\a∈s'.bD/\∀x∈s'.bD,s.count<s'.aR x->∀y∈G x,y∈s'.bD->s'.cb a<=s'.aR y)
structure ql(G:Nat->List Nat)(n:Nat)(s0 s:TS)(gr:List Nat)(a:Nat)(pre:List Nat):Prop where
 a0:s0.aR a=0
 inv:Inv G n s (gr++[a])
 idx:∀x,s0.aR x≠0->s.aR x=s0.aR x
 cb:∀x,s0.aR x≠0->s.cb x=s0.cb x
 new:∀x,s0.aR x=0->s.aR x≠0->s0.count<s.aR x
 kU:s0.count+1<=s.count
 ia:s.aR a=s0.count+1
 hx:∀x,s0.hx x->s.hx x
 bD:∃qk,s.bD=s0.bD++a::qk/\∀x∈qk,s0.count+1<s.aR x
 tF:s.cb a<=s.aR a
 Ay:∃z∈s.bD,s.aR z=s.cb a/\hW G a z
 qk:∀x∈s.bD,s.aR a<s.aR x->∀y∈G x,y∈s.bD->s.cb a<=s.aR y
 pre:∀b∈pre,s.aR b≠0/\(b∈s.bD->s.cb a<=s.aR b)
theorem XO(c:Inv G n ga bu)(u:ga.aR U=0)(D:U<n)(x:∀g∈bu,hW G g U):ql G n ga (ga.enter U) bu U []:=by
 have E:U∉ga.bD:=λh=>c.kV U h u;have w:∀a,ga.aR a≠0->a≠U:=by grind
 have v:∀a,ga.aR a≠0->(ga.enter U).aR a=ga.aR a:=λa b=>qj _ _ (w a b);have l:(ga.enter U).aR U=ga.count+1:=yM _ _ _;have m:(ga.enter U).bD=ga.bD++[U]:=rfl;have i:∀a∈ga.bD,(ga.enter U).aR a=ga.aR a:=λa b=>v a (c.kV a b);have o:∀a,(ga.enter U).hx a<->ga.hx a:=by
  intro a;by_cases f:a=U;subst f;constructor;rintro⟨_,h⟩;have:(ga.enter a).eZ a=true:=yM _ _ _;grind;rintro⟨h,_⟩;omega;show bW ga.aR U _ a≠0/\bW ga.eZ U ad a=ab<->_;rw[qj _ _ f,qj _ _ f];exact Iff.rfl
 have F:∀a∈ga.bD,hW G a U:=by
  intro a b;let⟨g,s,_,A⟩:=c.up a b;exact A.trans (x g s)
 refine{a0:=u,inv:=?_,idx:=v,cb:=λa b=>qj _ _ (w a b),new:=?_,kU:=c7 _,ia:=l,hx:=by grind,bD:=⟨[],rfl,by simp⟩,tF:=?_,Ay:=?_,qk:=?_,pre:=by simp};refine{lt:=?_,kU:=?_,inj:=?_,eZ:=?_,kV:=?_,gm:=?_,vO:=?_,yN:=?_,black:=?_,down:=?_,up:=?_,pw:=?_,xn:=?_,scc:=?_};intro a b;by_cases f:a=U;omega;exact c.lt a (by have:(ga.enter U).aR a=ga.aR a:=qj _ _ f;omega);intro a;by_cases f:a=U
 subst f;rw[l];exact c7 _;have:(ga.enter U).aR a=ga.aR a:=qj _ _ f;rw[this];exact Nat.le_succ_of_le (c.kU a);intro a d b j;by_cases f:a=U;by_cases p:d=U;rw[f,p];have k:(ga.enter U).aR d=ga.aR d:=qj _ _ p;rw[f,l,k]at j;have:=c.kU d;omega;have q:(ga.enter U).aR a=ga.aR a:=qj _ _ f;by_cases p:d=U;rw[p,l,q]at j;have:=c.kU a;omega;have k:(ga.enter U).aR d=ga.aR d:=qj _ _ p;rw[q,k]at j;rw[q]at b
 exact c.inj a d b j;intro a;rw[m];by_cases f:a=U;subst f;have:(ga.enter a).eZ a=true:=yM _ _ _;simp[this];have:(ga.enter U).eZ a=ga.eZ a:=qj _ _ f;rw[this,c.eZ a];simp[f];intro a b;rw[m]at b;rcases dt.1 b with h|h;rw[i a h];exact c.kV a h;grind;rw[m,ar2];refine⟨c.gm.imp_of_mem (by grind),by simp,?_⟩;intro a b d e;simp at e;subst e;rw[i a b,l];have:=c.kU a;omega;intro a b;rw[m]
 rcases dt.1 b with h|h;exact dt.2 (.inl (c.vO a h));grind;intro a d b e;exact(o d).2 (c.yN a d ((o a).1 b) e);intro a b t d e;simp only[dt,l6,not_or]at t;have q:(ga.enter U).aR a=ga.aR a:=qj _ _ t.2;rw[q]at b;have:=c.black a b t.1 d e;grind;intro a b d e j;rw[m]at b e;replace b:=dt.1 b;replace e:=dt.1 e;rcases b with b|b<;>rcases e with e|e
 rw[i a b,i d e]at j;exact c.down a b d e j;grind;simp at b;subst b;rw[l,i d e]at j;have:=c.kU d;omega;simp at b e;subst b;subst e;exact .refl _;intro a b;rw[m]at b;rcases dt.1 b with b|b;let⟨g,s,k,r⟩:=c.up a b;refine⟨g,by grind,?_,r⟩;rw[i a b,i g (c.vO g s)];exact k;simp at b;subst b;exact⟨a,by simp,c7 _,.refl _⟩;intro a b;exact c.pw a ((o a).1 b);intro B C y a b;let⟨k,r⟩:=c.xn B C y a b
 exact⟨(o a).2 k,r⟩;intro a d b e;exact c.scc a d ((o a).1 b) ((o d).1 e);intro a b H;by_cases f:a=U;grind;have:(ga.enter U).aR a=ga.aR a:=qj _ _ f;omega;have:(ga.enter U).cb U=ga.count+1:=yM _ _ _;omega;refine⟨U,by grind,?_,.refl _⟩;have:(ga.enter U).cb U=ga.count+1:=yM _ _ _;omega;intro a b z;rw[m]at b;rcases dt.1 b with b|b;rw[i a b,l]at z;have:=c.kU a;omega;grind
theorem Inv.XP(a:Inv G n ga bu)(b:Nat->Nat):Inv G n {ga with cb:=b} bu:=
 {lt:=a.lt,kU:=a.kU,inj:=a.inj,eZ:=a.eZ,kV:=a.kV,gm:=a.gm,vO:=a.vO,yN:=a.yN,black:=a.black,down:=a.down,up:=a.up,pw:=a.pw,xn:=a.xn,scc:=a.scc}
theorem ql.ne{pre:List Nat}(b:ql G n ga ly bu U pre)(c:ga.aR N≠0):N≠U:=λa=>c (a▸b.a0)
theorem XQ{pre:List Nat}(a:ql G n ga ly bu U pre)(i:N∈G U)(s:ly.aR N≠0)(m:ly.eZ N=ad):
 ql G n ga {ly with cb:=bW ly.cb U (min (ly.cb U) (ly.aR N))} bu U (pre++[N]):=by
 have j:N∈ly.bD:=(a.inv.eZ N).1 m;have e:bW ly.cb U (min (ly.cb U) (ly.aR N)) U=min (ly.cb U) (ly.aR N):=yM _ _ _;refine{a0:=a.a0,inv:=a.inv.XP _,idx:=a.idx,cb:=λd c=>?_,new:=a.new,kU:=a.kU,ia:=a.ia,hx:=a.hx,bD:=a.bD,tF:=?_,Ay:=?_,qk:=?_,pre:=?_};show bW ly.cb U _ d=_;rw[qj _ _ (a.ne c)];exact a.cb d c;show bW ly.cb U _ U<=_;rw[e];exact ix (aba _ _) a.tF;let⟨t,f,g,r⟩:=a.Ay
 by_cases h:ly.aR N<ly.cb U;refine⟨N,j,?_,.hy i⟩;grind;grind;intro d c l q o p;show bW ly.cb U _ U<=_;rw[e];exact ix (aba _ _) (a.qk d c l q o p);intro b k;show ly.aR b≠0/\(b∈ly.bD->bW ly.cb U _ U<=ly.aR b);rw[e];rcases dt.1 k with h|h;let⟨f,g⟩:=a.pre b h;grind;grind
theorem XR{pre:List Nat}(a:ql G n ga ly bu U pre)(e:ly.aR N≠0)(d:¬ly.eZ N=ad):ql G n ga ly bu U (pre++[N]):=
 {a with
  pre:=λb c=>by
   rcases dt.1 c with h|h;exact a.pre b h;simp at h;subst h;exact⟨e,λh=>absurd ((a.inv.eZ b).2 h) d⟩}
theorem XS{a:TS}{pre:List Nat}(c:ql G n ga ly bu U pre)(u:N∈G U)(t:ly.aR N=0)(e:H8 G n ly a (bu++[U]) N):
 ql G n ga {a with cb:=bW a.cb U (min (a.cb U) (a.cb N))} bu U (pre++[N]):=by
 have k:ly.aR U≠0:=by rw[c.ia];omega
 have o:bW a.cb U (min (a.cb U) (a.cb N)) U=min (ly.cb U) (a.cb N):=by rw[yM,e.ext.cb U k]
 have g:∀b,ly.aR b≠0->a.aR b=ly.aR b:=e.ext.aR;have I:ly.count<a.aR N:=e.ext.new N t e.kV;let⟨F,z,r⟩:=e.ext.bD;have A:∀b∈ly.bD,b∈a.bD:=by grind
 have v:∀b∈a.bD,b∈ly.bD\/ly.count<a.aR b:=by
  intro b d;rw[z]at d;rcases dt.1 d with h|h;exact .inl h;exact .inr (r b h)
 have J:ly.cb U<=ly.count:=by
  have:=c.tF;have:=c.inv.kU U;omega
 refine{a0:=c.a0,inv:=e.inv.XP _,idx:=?_,cb:=?_,new:=?_,kU:=ix c.kU e.ext.count,ia:=?_,hx:=λb h=>e.ext.hx b (c.hx b h),bD:=?_,tF:=?_,Ay:=?_,qk:=?_,pre:=?_};intro b d;have i:=c.idx b d;grind;intro b d;have i:=c.idx b d;show bW a.cb U _ b=_;rw[qj _ _ (c.ne d),e.ext.cb b (by omega)];exact c.cb b d;intro b d D;show ga.count<a.aR b;by_cases h:ly.aR b=0;have:=e.ext.new b h D;have:=c.kU;omega
 rw[g b h];exact c.new b d h;show a.aR U=_;rw[g U k,c.ia];let⟨qk,i,q⟩:=c.bD;refine⟨qk++F,?_,?_⟩;grind;intro b d;show ga.count+1<a.aR b;rcases dt.1 d with h|h;grind;have:=r b h;have:=c.kU;omega;show bW a.cb U _ U<=a.aR U;rw[o,g U k];exact ix (aba _ _) c.tF;let⟨f,i,q,H⟩:=c.Ay;have L:a.aR f=ly.aR f:=g f (c.inv.kV f i)
 have left:ly.cb U<=a.cb N->∃f∈a.bD,a.aR f=bW a.cb U (min (a.cb U) (a.cb N)) U/\hW G U f:=by grind
 rcases e.res with⟨_,_,h⟩|⟨_,⟨w,B,K,C⟩,_,_⟩;grind;by_cases h:ly.cb U<=a.cb N;exact left h;exact⟨w,A w B,by grind,(hW.hy u).trans C⟩;intro b d l m E p;show bW a.cb U _ U<=a.aR m;replace l:a.aR U<a.aR b:=l;replace d:b∈a.bD:=d;replace p:m∈a.bD:=p;rw[o];by_cases s:b∈ly.bD;rcases v m p with h|h;have y:ly.aR U<ly.aR b:=by rw[g U k,g b (c.inv.kV b s)]at l;exact l
 have:=c.qk b s y m E h;grind;omega;rcases e.res with⟨_,h,_⟩|⟨_,_,_,h⟩;grind;grind;intro j x;show a.aR j≠0/\(j∈a.bD->bW a.cb U _ U<=a.aR j);rw[o];rcases dt.1 x with h|h;let⟨i,q⟩:=c.pre j h;grind;grind
theorem amE(a:ql G n ga ly bu U (G U))(y:ly.cb U≠ly.aR U):H8 G n ga ly bu U:=by
 have z:ly.cb U<ly.aR U:=Nat.lt_of_le_of_ne a.tF y;let⟨C,o,B⟩:=a.bD;have d:=a.inv;have u:U∈ly.bD:=by rw[o];simp
 have x:ly.aR U≠0:=by rw[a.ia];omega
 refine{inv:=?_,ext:=?_,kV:=x,tF:=a.tF,res:=.inr ⟨z,?_,u,?_⟩};exact{d with
  vO:=λb c=>d.vO b (by grind)
  black:=λb c H i f=>by
   by_cases j:b=U;subst j;exact(a.pre i f).1;exact d.black b c (by grind) i f
  up:=λb c=>by
   let⟨g,e,D,s⟩:=d.up b c;rcases dt.1 e with e|e;grind;simp at e;subst e;let⟨k,l,r,p⟩:=a.Ay;let⟨m,v,E,t⟩:=d.up k l;have A:m≠g:=by grind
   have w:m∈bu:=by simpa[A]using v
   exact⟨m,w,by omega,s.trans (p.trans t)⟩}
 refine⟨a.idx,a.cb,a.new,by have:=a.kU;omega,⟨U::C,o,?_⟩,a.hx⟩;intro b c;rcases b6.1 c with rfl|c;rw[a.ia];omega;grind;let⟨k,l,r,p⟩:=a.Ay;refine⟨k,?_,r,p⟩;rw[o]at l;rcases dt.1 l with h|h;exact h;rcases b6.1 h with rfl|h;omega;have:=B k h;have:=a.ia;omega;intro b c F i f q;by_cases j:b=U;subst j;exact(a.pre i f).2 q;refine a.qk b c ?_ i f q;have:ly.aR b≠ly.aR U:=λh=>j (d.inj b U (by omega) h)
 have:=a.ia;omega
theorem amF:∀{a r:List Nat},U∉a->(a++U::r).idxOf U=Z a
 |[],r,_=>by simp
 |x::a,r,h=>by
  grind
theorem XT(aA:∀k a,a∈gm k<->a∈k)(q:Inv G n ga bu)(f:ql G n ga ly bu U (G U))(x:ly.cb U=ly.aR U):H8 G n ga (ly.pop gm U) bu U:=by
 let⟨d,r,az⟩:=f.bD;have e:=f.inv;have M:U∉ga.bD:=λh=>q.kV U h f.a0;have B:ly.bD.idxOf U=Z ga.bD:=by rw[r];exact amF M
 have O:ly.bD.drop (ly.bD.idxOf U)=U::d:=by rw[B,r,List.drop_left']<;>rfl
 have S:ly.bD.take (ly.bD.idxOf U)=ga.bD:=by rw[B,r,List.take_left']<;>rfl
 have P:ly.aR U≠0:=by rw[f.ia];omega
 have Q:∀a∈ga.bD,ly.aR a=ga.aR a:=λa b=>f.idx a (q.kV a b);have ax:∀a∈ga.bD,ly.aR a<=ga.count:=λa b=>by rw[Q a b];exact q.kU a
 have v:∀a∈U::d,ga.count<ly.aR a:=by
  intro a b;rcases b6.1 b with rfl|b;rw[f.ia];omega;grind
 have p:∀a∈U::d,a∈ly.bD:=by grind
 have au:∀a∈ga.bD,a∉U::d:=by grind
 have N:∀a∈bu,a∈ga.bD:=q.vO;have aF:∀a∈ly.bD,a∈ga.bD\/a∈U::d:=by grind
 have af:∀a∈U::d,∀c∈G a,c∈U::d\/ly.hx c:=by
  intro a b c i;have ah:=v a b;have W:ly.aR c≠0:=by
   by_cases j:a=U;subst j;exact(f.pre c i).1;refine e.black a (by omega) ?_ c i;grind
  rcases C:ly.eZ c with _|_;exact .inr ⟨W,C⟩;have D:=(e.eZ c).1 C;have aj:ly.cb U<=ly.aR c:=by
   by_cases j:a=U;subst j;exact(f.pre c i).2 D;refine f.qk a (p a b) ?_ c i D;have:ly.aR a≠ly.aR U:=λh=>j (e.inj a U (by omega) h);have:=f.ia;omega
  grind
 have J:∀a c,(a∈U::d\/ly.hx a)->c∈G a->(c∈U::d\/ly.hx c):=by
  intro a c b i;rcases b with b|b;grind;exact .inr (e.yN a c b i)
 have z:∀a∈U::d,hW G a U:=by
  intro a b;let⟨g,o,_,y⟩:=e.up a (p a b);rcases dt.1 o with o|o;have ai:=N g o;rcases hW.closed (a:=λa=>a∈U::d\/ly.hx a) J y (.inl b)with h|h;grind;have:=(e.eZ g).2 (by grind);rw[h.2]at this;cases this;grind
 have A:∀a∈U::d,hW G U a:=by
  intro a b;apply e.down U (p U (by simp)) a (p a b);have:=v a b;have:=f.ia;omega
 have F:(ly.pop gm U).aR=ly.aR:=rfl;have l:(ly.pop gm U).bD=ga.bD:=S;have H:∀a,(ly.pop gm U).eZ a=if a∈U::d then ab else ly.eZ a:=by grind[TS.pop]
 have t:∀a,(ly.pop gm U).of a=if a∈U::d then Z ly.out else ly.of a:=by grind[TS.pop]
 have I:(ly.pop gm U).out=ly.out++[gm (U::d)]:=by simp only[TS.pop,O]
 have s:∀a,(ly.pop gm U).hx a<->(ly.hx a\/a∈U::d):=by
  intro a;unfold TS.hx;rw[F,H];by_cases h:a∈U::d;simp only[h,if_true,or_true,and_true,iff_true];have:=v a h;omega;simp[h]
 have R:∀a,ly.hx a->a∉U::d:=λa b h=>by
  have:=(e.eZ a).2 (p a h);rw[b.2]at this;cases this
 refine{inv:=?_,ext:=?_,kV:=P,tF:=f.tF,res:=.inl ⟨(by grind),l,x⟩};refine{lt:=e.lt,kU:=e.kU,inj:=e.inj,eZ:=?_,kV:=?_,gm:=?_,vO:=?_,yN:=?_,black:=?_,down:=?_,up:=?_,pw:=?_,xn:=?_,scc:=?_};intro a;rw[H,l];by_cases h:a∈U::d;grind;simp only[h,if_false];rw[e.eZ a,r,dt];grind;intro a b;rw[l]at b;exact e.kV a (by grind);rw[l,F];have:=e.gm;grind;grind;grind;intro a b a2 c i;by_cases j:a=U
 subst j;exact(f.pre c i).1;exact e.black a b (by grind) c i;intro a b c i;rw[l]at b i;exact e.down a (by grind) c (by grind);intro a b;rw[l]at b;let⟨g,o,K,L⟩:=q.up a b;grind;intro a b;rw[s]at b;rw[t,I];by_cases h:a∈U::d;grind;let⟨k,x,a3⟩:=e.pw a (b.resolve_right h);grind;intro E k w a b;rw[I]at w;rw[s,t];by_cases h:E<Z ly.out;rw[oG h]at w;let⟨K,L⟩:=e.xn E k w a b;grind;grind;intro a c b i
 rw[s]at b i;rw[t,t];have ak:∀u,ly.hx u->ly.of u<Z ly.out:=λu X=>by
  let⟨k,x,_⟩:=e.pw u X;grind
 have am:∀a c,a∈U::d->ly.hx c->¬hW G c a:=λa c b i y=>R a (hW.closed (λY ac T V=>e.yN Y ac T V) y i) b;by_cases h:a∈U::d<;>by_cases m:c∈U::d
 simp only[h,m,if_true,true_iff];exact⟨(z a h).trans (A c m),(z c m).trans (A a h)⟩;grind;grind;simp only[h,m,if_false];exact e.scc a c (b.resolve_right h) (i.resolve_right m);refine⟨f.idx,f.cb,f.new,by have:=f.kU;exact Nat.le_of_succ_le this,by grind,λa b=>(s a).2 (.inl (f.hx a b))⟩
theorem H9(d:U<n)(c:ga.aR U=0):(ga.enter U).nS n<ga.nS n:=by
 refine filter_lt (b:=U) ?_ (iz.2 d) (by simp[c]) ?_;intro a e;simp only[decide_eq_true_eq]at e⊢;by_cases b:a=U;grind;have:(ga.enter U).aR a=ga.aR a:=qj _ _ b;omega;have:(ga.enter U).aR U=ga.count+1:=yM _ _ _;simp[this]
mutual
theorem Ia(p:∀s d,d∈gm s<->d∈s)(k:∀d,d<n->∀x∈G d,x<n):∀(f a:Nat)(b:TS)(c:List Nat),Inv G n b c->b.aR a=0->a<n->(∀g∈c,hW G g a)->b.nS n<=f->H8 G n b (ja gm G f a b) c a
 |0,a,b,c,y,t,e,i,m=>by
  have:=H9 (ga:=b) e t;omega
 |f+1,a,b,c,y,t,e,i,m=>by
  have C:=H9 (ga:=b) e t;have l:=Ib p k f a e c i b (G a) [] (b.enter a) (XO y t e i) (by simp) (by omega);grind[ja,XT,amE]
theorem Ib (p:∀s d,d∈gm s<->d∈s) (k:∀d,d<n->∀x∈G d,x<n):∀(f a:Nat)(_:a<n)(c:List Nat)(_:∀g∈c,hW G g a)(o:TS)(bs pre:List Nat)(b:TS),ql G n o b c a pre->G a=pre++bs->b.nS n<=f->ql G n o (sE gm G f a bs b) c a (G a)
 |f,a,e,c,i,o,[],pre,b,l,u,m=>by
  simp only[sE];rw[u,sQ];exact l
 |f,a,e,c,i,o,j::bs,pre,b,l,u,m=>by
  have r:j∈G a:=by rw[u];simp
  have w:G a=(pre++[j])++bs:=by rw[u];simp
  simp only[sE];split;rename_i q;have z:=Ia p k f j b (c++[a]) l.inv q (k a e j r) (by
   intro g A;rcases dt.1 A with h|h;exact(i g h).trans (.hy r);simp at h;subst h;exact .hy r) m
  apply Ib p k f a e c i o bs (pre++[j]) _ (XS l r q z) w;exact ix (XN (ga:=b) (λd B=>z.ext.kV B)) m;rename_i q;split;rename_i v;exact Ib p k f a e c i o bs (pre++[j]) _ (XQ l r q v) w m;rename_i v;exact Ib p k f a e c i o bs (pre++[j]) _ (XR l q v) w m
end
def TS.init:TS:={count:=0,aR:=λ_=>0,cb:=λ_=>0,eZ:=λ_=>ab,bD:=[],of:=λ_=>0,out:=[]}
theorem XU:Inv G n TS.init []:=by
 refine{lt:=?_,kU:=?_,inj:=?_,eZ:=?_,kV:=?_,gm:=?_,vO:=?_,yN:=?_,black:=?_,down:=?_,up:=?_,pw:=?_,xn:=?_,scc:=?_}<;>simp[TS.init,TS.hx]
def kG(gm:List Nat->List Nat)(G:Nat->List Nat)(c:Nat):List Nat->TS->TS
 |[],b=>b
 |a::d,b=>kG gm G c d (if b.aR a=0 then ja gm G c a b else b)
theorem XV(k:∀e c,c∈gm e<->c∈e)(i:∀c,c<n->∀p∈G c,p<n)(d:Nat)(j:n<=d):∀(e:List Nat)(b:TS),(∀a∈e,a<n)->Inv G n b []->
 Inv G n (kG gm G d e b) []/\(∀a∈e,(kG gm G d e b).aR a≠0)/\∀c,b.aR c≠0->(kG gm G d e b).aR c≠0
 |[],b,_,f=>⟨f,by simp,λ_ h=>h⟩
 |a::e,b,l,f=>by
  simp only[kG];have m:b.nS n<=d:=ix (ix (nX _ _) (by simp)) j;have step:Inv G n (if b.aR a=0 then ja gm G d a b else b) []/\(if b.aR a=0 then ja gm G d a b else b).aR a≠0/\∀c,b.aR c≠0->(if b.aR a=0 then ja gm G d a b else b).aR c≠0:=by
   split;rename_i h;have g:=Ia k i d a b [] f h (l a (by simp)) (by simp) m;exact⟨g.inv,g.kV,λc o=>g.ext.kV o⟩;grind
  let⟨q,r,s⟩:=XV k i d j e _ (by grind) step.1;grind
theorem amG(r:∀b a,a∈gm b<->a∈b)(l:∀a,a<n->∀d∈G a,d<n)(h:Nat)(m:n<=h)(e:TS)(q:e=kG gm G h (ay n) TS.init):
 e.bD=[]/\(∀a,a<n->∃b,e.out[e.of a]?=aa b/\a∈b)/\(∀i b,e.out[i]?=aa b->∀a∈b,a<n/\e.of a=i)/\∀a d,a<n->d<n->(e.of a=e.of d<->hW G a d/\hW G d a):=by
 subst q;let⟨f,u,_⟩:=XV (G:=G) (n:=n) r l h m (ay n) TS.init (by grind) XU;have s:(kG gm G h (ay n) TS.init).bD=[]:=by
  apply aaR.2;intro a c;let⟨g,o,_⟩:=f.up a c;simp at o
 have j:∀a,a<n->(kG gm G h (ay n) TS.init).hx a:=by
  intro a c;refine⟨(by grind),?_⟩;rcases p:(kG gm G h (ay n) TS.init).eZ a with _|_;rfl;have:=(f.eZ a).1 p;grind
 exact⟨s,λa c=>f.pw a (j a c),λi b k a c=>⟨f.lt a (f.xn i b k a c).1.1,(f.xn i b k a c).2⟩,λa d c t=>f.scc a d (j a c) (j d t)⟩
end
end Law
namespace AM
open Go.Law
def gR(c:Nat)(a:Nat->Nat):List (List AV):=(ay c).map λb=>cN (a b)
variable{U N:Nat}
theorem XW(a:Nat->Nat)(h:N<U):(gR U a)[N]?=aa (cN (a N)):=by simp[gR,h]
theorem amH(a:Nat->Nat)(c b d:Nat):(gR c a).set b (cN d)=gR c (Go.Law.bW a b d):=by
 refine y6 λe=>?_;grind[Go.Law.bW,gR]
variable{M:List Obj}{kj:Nat -> Nat}
theorem Ce{id g:Nat}(h:M[id]?=aa (.arr g 1 (gR U kj)))(a:N<U):aQ 1 ab (.ptr id g N 0) M=aa (I (kj N:Int)):=by
 rw[c0 h (XW kj a)]<;>rfl
theorem Ex{id g:Nat}(a:Nat)(h:M[id]?=aa (.arr g 1 (gR U kj)))(b:N<U):du 1 (.ptr id g N 0) (I (a:Int)) M=aa (M.set id (.arr g 1 (gR U (Go.Law.bW kj N a)))):=by
 rw[Eo h (XW kj b) (by simp[cN]) rfl rfl];have:(cN (kj N)).set 0 (I (a:Int))=cN a:=rfl;rw[this,amH]
theorem amI(a b:Int):PR C 241 [I a,I b] (.bool (y (a<b))):=by
 apply aeC.pr;simp only[bz];apply c (KU a);simp only[jD,e6,if_false,A,O,G];simp
structure Cf(f:Nat->Nat)(i j:Nat):Prop where
 le:j<=i
 de:∀a b,a<b->b<=i->a≠j->b≠j->f a<=f b
 up:∀b,j<b->b<=i->f j<=f b
theorem Cf.step(h:Cf kj U (N+1))(o:kj (N+1)<kj N):Cf (swp kj N (N+1)) U N:=by
 have n:swp kj N (N+1) N=kj (N+1):=by simp[swp]
 have j:swp kj N (N+1) (N+1)=kj N:=by simp[swp]
 have f:∀e,e≠N->e≠N+1->swp kj N (N+1) e=kj e:=by grind[swp]
 refine⟨by have:=h.le;omega,λc a l g k i=>?_,λa g m=>?_⟩;by_cases d:c=N+1;subst d;rw[j,f a i (by omega)];exact h.de N a (by omega) g (by omega) (by omega);rw[f c k d];by_cases b:a=N+1;subst b;rw[j];exact h.de c N (by omega) (by omega) d (by omega);rw[f a i b];exact h.de c a l g d b;rw[n];by_cases b:a=N+1;grind;rw[f a (by omega) b];exact h.up a (by omega) m
theorem Cf.done(h:Cf kj U N)(d:N=0\/kj (N -1)<=kj N):∀b a,b<a->a<=U->kj b<=kj a:=by
 intro b a f g;by_cases c:b=N;subst c;exact h.up a f g;by_cases e:a=N;subst e;have d:=d.resolve_left (by omega);by_cases i:b=a -1;grind;exact ix (h.de b (a -1) (by omega) (by omega) c (by omega)) d;exact h.de b a f g c e
def mx(a:Nat->Nat)(b:Nat):List Nat:=(ay b).map a
variable{z:Nat}
theorem amJ(c:N<U)(d:z<U):(mx (swp kj N z) U).Perm (mx kj U):=by
 have h:=(MM c d).map kj;rw[vW]at h;have b:kj∘swp (λa=>a) N z=swp kj N z:=by
  funext a
  simp only[swp,Fb];split;rfl;split<;>rfl
 rw[b]at h;exact h
variable{k:aL}
theorem amK{id g:Nat}(az:U<=1000000)(W:Holds M ((id,.arr g 1 (gR U kj))::k)):
 HR C 235 [.q id g 0 U,I 0,I (U:Int)] M (λr Q=>r=.aB []/\∃m,(mx m U).Perm (mx kj U)/\(∀i h,i<h->h<U->m i<=m h)/\Holds Q ((id,.arr g 1 (gR U m))::k)):=by
 apply agv.hq;rw[show aT .s .add (I 0) (I 1)=aa (I ((0+1:Nat):Int))from aZ (U:=0) (by omega),O];refine bG (K:=Nat×(Nat->Nat)×List Obj) (λe=>[I (e.1:Int)]) (λe=>e.2.2) (λe=>U -e.1) (λe=>1<=e.1/\(mx e.2.1 U).Perm (mx kj U)/\(∀i h,i<h->h<e.1->h<U->e.2.1 i<=e.2.1 h)/\Holds e.2.2 ((id,.arr g 1 (gR U e.2.1))::k)) (0+1,kj,M) ⟨by simp,.refl _,λi h l o _=>by simp at o;omega,W⟩ ?_
 rintro⟨u,V,R⟩ ⟨Y,J,L,z⟩ ai N;simp only at Y J L z N⊢;simp only[G,A,O,a];refine b (λF=>?_) (λau=>?_);have F:u<U:=by simpa using F
 apply bG (K:=Nat×(Nat->Nat)×List Obj) (λe=>[I (e.1:Int)]) (λe=>e.2.2) (λe=>e.1) (λe=>(mx e.2.1 U).Perm (mx kj U)/\Cf e.2.1 u e.1/\Holds e.2.2 ((id,.arr g 1 (gR U e.2.1))::k)) (u,V,R) ⟨J,⟨c7 _,λi h l o ak am=>L i h l (by omega) (by omega),λh l o=>by omega⟩,z⟩;rintro⟨d,f,x⟩ ⟨K,t,p⟩ aj P;simp only at K t p P⊢;have j:=p.get (U:=id) (gF:=.arr g 1 (gR U f)) (by simp);have ax:=t.le
 refine dA (M:=x) (y (0<d)&&y (f d<f (d -1))) (λw E=>?_) ?_;simp only[G,eU,O];refine aV (λn=>?_) (λn=>kB E ?_);have n:0<d:=by simpa using n
 rw[fw j (show d<U by omega),O,Ce j (by omega),O,nG (by omega) (by omega),O];rw[show(d:Int) -1=((d -1:Nat):Int)by omega,fw j (by omega),O,Ce j (by omega),O];refine c (amI _ _) (kB E ?_);simp[n];grind;simp only[G];refine b (λv=>?_) (λv=>?_);simp only[ba,decide_eq_true_eq]at v;obtain⟨d,rfl⟩:∃Z,d=Z+1:=⟨d -1,by omega⟩;have S:((d+1:Nat):Int) -1=(d:Int):=by omega
 rw[nG (by omega) (by omega),O,O,S,fw j (show d<U by omega),O,Ce j (by omega),O,fw j (by omega),O,Ce j (by omega),O,O,
  Ex _ j (by omega),O]
 have B:=Holds.set (k:=k) p (.arr g 1 (gR U (Go.Law.bW f (d+1) (f d))));have H:=B.get (U:=id) (gF:=.arr g 1 (gR U (Go.Law.bW f (d+1) (f d)))) (by simp);rw[fw H (show d<U by omega),O,Ex _ H (by omega),O,O];have D:=Holds.set (k:=k) B (.arr g 1 (gR U (Go.Law.bW (Go.Law.bW f (d+1) (f d)) d (f (d+1)))));have T:Go.Law.bW (Go.Law.bW f (d+1) (f d)) d (f (d+1))=swp f d (d+1):=by
  funext w
  simp only[Go.Law.bW,swp]
 rw[T]at D⊢;refine P (d,swp f d (d+1),_) ⟨(by grind[amJ,trans]),t.step (by grind),D⟩ (by simp);rw[aZ,O];have X:d=0\/f (d -1)<=f d:=by
  simp only[Ji,decide_eq_false_iff_not]at v;omega
 refine N (u+1,f,x) ⟨by simp,K,λi h l o _=>t.done X i h l (by omega),p⟩ (by omega);grind
theorem amL{id g:Nat}(l:U<=12)(b:AV)(h:b.pl=b)(f:Holds M ((id,.arr g 1 (gR U kj))::k)):
 HR C 182 [.q id g 0 U,I 0,I (U:Int),b] M (λr e=>r=.aB []/\∃a,(mx a U).Perm (mx kj U)/\(∀d c,d<c->c<U->a d<=a c)/\Holds e ((id,.arr g 1 (gR U a))::k)):=by
 refine afw.hq ?_ (by rw[ej,ej,ej,ej,h]<;>rfl);apply bG (K:=Unit) (λ_=>[I 0,I (U:Int),b,tt,tt]) (λ_=>M) (λ_=>0) (λ_=>True) () trivial;intro _ _ j _;simp only[G,i];rw[nG (by omega) (by omega),O,kL,O];refine a8 ?_ (by simp;omega);apply c4 (amK (by omega) f) rfl;grind
theorem amM(b:U<=12):∃a:Int,PR C 137 [.int .u64 (U:Int)] (I a):=by
 have:U=0\/U=1\/U=2\/U=3\/U=4\/U=5\/U=6\/U=7\/U=8\/U=9\/U=10\/U=11\/U=12:=by omega
 rcases this with rfl|rfl|rfl|rfl|rfl|rfl|rfl|rfl|rfl|rfl|rfl|rfl|rfl;exact⟨((0:Nat):Int),qS.pr rfl (aM.int _ _ _)⟩;exact⟨((1:Nat):Int),qS.pr rfl (aM.int _ _ _)⟩;exact⟨((2:Nat):Int),qS.pr rfl (aM.int _ _ _)⟩;exact⟨((2:Nat):Int),qS.pr rfl (aM.int _ _ _)⟩;exact⟨((3:Nat):Int),qS.pr rfl (aM.int _ _ _)⟩;exact⟨((3:Nat):Int),qS.pr rfl (aM.int _ _ _)⟩;exact⟨((3:Nat):Int),qS.pr rfl (aM.int _ _ _)⟩
 exact⟨((3:Nat):Int),qS.pr rfl (aM.int _ _ _)⟩;exact⟨((4:Nat):Int),qS.pr rfl (aM.int _ _ _)⟩;exact⟨((4:Nat):Int),qS.pr rfl (aM.int _ _ _)⟩;exact⟨((4:Nat):Int),qS.pr rfl (aM.int _ _ _)⟩;exact⟨((4:Nat):Int),qS.pr rfl (aM.int _ _ _)⟩;exact⟨((4:Nat):Int),qS.pr rfl (aM.int _ _ _)⟩
theorem XX(d:U<=12):∃a:Int,PR C 80 [.int .u64 (U:Int)] (I a):=by
 let⟨a,b⟩:=amM d;refine⟨a,Tv.pr ?_⟩;exact c b (.int _ _ _)
theorem amN{id g:Nat}(f:U<=12)(i:Holds M ((id,.arr g 1 (gR U kj))::k)):
 HR C 125 [.q id g 0 U] M (λr h=>r=.aB []/\∃a,(mx a U).Perm (mx kj U)/\(∀d b,d<b->b<U->a d<=a b)/\Holds h ((id,.arr g 1 (gR U a))::k)):=by
 apply agk.hq;let⟨m,j⟩:=XX f;have l:IntKind.u64.wrap (U:Int)=U:=by
  have:U=0\/U=1\/U=2\/U=3\/U=4\/U=5\/U=6\/U=7\/U=8\/U=9\/U=10\/U=11\/U=12:=by omega
  rcases this with e|e|e|e|e|e|e|e|e|e|e|e|e<;>subst e<;>rfl
 simp only[oa,O,Br,l];apply c j;apply c4 (amL f (I m) rfl i) rfl;grind
variable{T F:Bool}
theorem XY(a d:S)(f:dF a.af):PR C 156 [.agg (cF T a),.agg (cF F d)] (I (cr a d)):=by
 apply TA.pr;simp only[pX,O,bh,aJ,oc,s7,e];apply c (zK _ _);simp only[cv,O];refine b (λh=>jS ?_) (λh=>c (KX _ _ f) (jS ?_));grind[cr,fE];grind[cr,fE]
variable{bC:Bool}
theorem e8.XZ(B:e8 C)(k:D)(d:S)(x:eA k)(P:kA k)(M:Sm d.af):PR C 157 [.agg (cP T F k),.agg (cF bC d)] (.bool (qZ k d)):=by
 apply Sn.pr;simp only[eE,pX,O,bh,aJ,rW,kv,oc,s7,s8,e,aX,A,hz,bz,G];refine ea (λh=>a8 (bK ?_)) (λh=>?_);grind[decide,qZ];have H:y (0<=d.ah)=true:=by simp at h⊢;omega
 rw[qZ,H,c3];let⟨o,K⟩:∃o:Nat,d.ah=o:=⟨d.ah.toNat,by grind⟩;simp only[K,eR];refine ea (λh=>a8 (bK ?_)) (λh=>?_);grind;have r:o<Z k.Q:=by simp at h;omega
 rw[bq r];have q:=bn r;have W:=x.tb _ q;have V:=P _ q;simp only[aE r (ji _ _),O,bh,aJ,wx,e,aX,cv,wu,yb,rZ,r1,r2,te,sa,sb,sd];generalize k.Q[o]=f at*;refine b (λh=>bK ?_) (λh=>?_);grind[vw];have U:Z d.af=Z f.a6:=by simp at h;omega
 have J:vw k f d=((ay (Z d.af)).all (uv f.a6 d.af)&&vv k f d):=by
  rw[vw];have:((Z d.af:Int)==Z f.a6)=true:=by simpa using h
  rw[this]<;>rfl
 rw[J];refine eB (U:=Z d.af) (c:=λj=>ff::I j::bO T f) (λj=>(ay j).all (uv f.a6 d.af)=ad) (by simp) rfl (λj p w z N=>?_) (λw z=>?_);have v:j<Z f.a6:=by omega
 have R:uv f.a6 d.af j=(nJ d.af[j]&&d.af[j].ty==f.a6[j]):=by
  rw[uv,bq p,bq v]
 have gv:∀l:aG,g (cV l) 0=I l.ty:=λ_=>rfl;have gc:∀l:aG,(AV.agg [I l.ty,g (cV l) 1,g (cV l) 2])=.agg (cV l):=λ_=>rfl;simp only[i,G,rZ,r1,r2,te,sa,sb,sd,A,O,a,p,decide_true,aE p (s4 _),aE v (jh _),u9,xZ,gv,gc,aJ,lN,cv];refine a8 (ea (λm=>?_) (λm=>?_));refine a8 (bK ?_);grind;have E:(d.af[j].ty==f.a6[j])=true:=by simpa using m
 apply c (B.Ud _);simp only[bI,O];refine dw (λu=>bK ?_) (λu=>?_);grind;rw[M.inc p,O];exact N (by grind);rw[w,c3,vv];simp only[i,G,rZ,r1,r2,te,sa,sb,sd,A,O,a,cn,decide_false];refine bw (b (λm=>?_) (λm=>?_));rw[if_pos (by grind)];simp only[c6,O];simp;rw[if_neg (by grind)];let⟨t,q⟩:∃t:Nat,f.of=t:=⟨f.of.toNat,by grind⟩;have s:t<Z k.aw:=by omega
 have L:∀n:bQ,(AV.agg [.str n.au,eS T cS n.az,eS T b3 n.eK,I n.bb])=.agg (bp T n):=λ_=>rfl;simp only[q,eR,bq s,aE s (kK _ _),O,jj,zB,DN,DO,DP,DQ,L,aX,A];refine aV (λu=>aV (λE=>?_) (by grind[bK])) (by grind[bK]);apply c (Hm _ (x.aN _ (bn s)));simp only[cv,O];simp_all
variable{c8:Bool}
theorem e8.amO(p:e8 C)(e:D)(b:List S)(u:eA e)(r:kA e)(q:Sm b)(m:∀f∈b,dF f.af):PR C 91 [.agg (cP T F e),eS c8 (cF bC) b] (.bool (hR e b)):=by
 apply Tw.pr;have v:∀f:S,dO 3 (.agg (cF bC f))=aa (cF bC f):=λ_=>iT rfl rfl;have gc:∀f:S,(AV.agg [g (cF bC f) 0,g (cF bC f) 1,g (cF bC f) 2])=.agg (cF bC f):=λ_=>rfl;simp only[eE,O,aX,gy];refine eB (U:=Z b) (c:=λd=>[ff,I d]) (λd=>(ay d).all (mW e b)=ad) (by simp) rfl (λd k t o H=>?_) (λt o=>?_);simp only[i,G,A,O,a,k,decide_true,aE k (fB _ _),ku,eU,v,gc]
 have w:mW e b d=(qZ e b[d]&&vx b d):=by rw[mW,bq k]
 have no:mW e b d=ab->aM [] .res (AV.pl ff) (.bool (hR e b)):=λl=>bK (zX k l);have yes:mW e b d=ad->bd (aT .s .add (I d) (I 1)) λB=>o [ff,B] []:=λl=>by
  rw[q.inc k,O];grind
 refine a8 (yF (M:=[]) (!mW e b d) [g (cF bC b[d]) 0,g (cF bC b[d]) 1,g (cF bC b[d]) 2] (λK x=>?_) ?_);rw[w]at x;rcases d with _|j;refine aV (λh=>by simp at h) (λ_=>?_);apply c (p.XZ e b[0] u r (m _ (bn k)).1);simp only[bI,O];grind[vx];have n:j<Z b:=by omega
 have z:aT .s .sub (I ((j+1:Nat):Int)) (I 1)=aa (I (j:Int)):=by
  rw[nG (by omega) (by have:=q.lt k;omega)];simp
 refine aV (λ_=>?_) (λh=>by simp at h);rw[z,O];simp only[aE n (fB _ _),O,ku];apply c (XY b[j] b[j+1] (m _ (bn n)));have J:vx b (j+1)=y (cr b[j] b[j+1]<0):=by
  rw[vx,bq n,bq k]
 simp only[hz,O];refine ea (λl=>?_) (λl=>?_);grind;refine c (p.XZ e b[j+1] u r (m _ (bn k)).1) ?_;simp only[bI,O];grind;simp only[G];exact dw no yes;simp only[i,G,A,O,a,cn,decide_false];exact bw (jk t)
theorem e8.MY(d:e8 C)(a:D)(b:List S)(e:eA a)(i:Sm b)(g:∀f∈b,dF f.af):PR C 43 [.agg (cP T F a),eS bC (cF c8) b] (.bool (lh a&&hR a b)):=by
 apply Rw.pr;simp only[eE,O,gy,bz];refine c (d.Xx a e) (aV (λh=>?_) (λh=>bK (by rw[h]<;>rfl)));exact c (d.amO a b e (WY (xe.1 h)) i g) (iW (by rw[h]<;>rfl))
theorem amP(a:D)(b:S)(c:b.ah=U)(h:U<Z a.Q):PR C 68 [.agg (cF bC b),.aH ad (cP T F a) 0] (.bool (!qe a b)):=by
 apply ad4.pr;have f:qe a b=a.Q[U].ek:=by rw[qe,c,eR,bq h]
 have d:(bO T a.Q[U])[4]?=aa (.bool a.Q[U].ek):=rfl;simp only[pX,O,bh,aJ,kv,oc,e,c,aE h (ji _ _),d,bI];exact iW (by rw[f])
theorem e8.amQ(v:e8 C)(d:List S)(P:Z d<1000000)(J:∀f∈d,Z f.af<=1000000)(p:Holds M k):
 HR C 69 [eS T (cF F) d] M (λr t=>∃n,bB r (cF ab) 3 d n/\Holds t (n++k)):=by
 apply aeV.hq;have z:∀f:S,dO 3 (.agg (cF F f))=aa (cF F f):=λ_=>iT rfl rfl;have l:=((p.alloc (.arr 0 3 [])).alloc (.arr 0 3 (([]:List S).map (cF ab))));rw[gC,jY]at l;have l:Holds _ ([(Z M+1,.arr 0 3 (([]:List S).map (cF ab)))]++k):=(l.perm (List.Perm.swap _ _ _)).tail;simp only[fh,e4,aX,O,gC,jY]
 apply bG (K:=Nat×List Obj×AV×aL) (λj=>[j.2.2.1,I j.1]) (λj=>j.2.1) (λj=>Z d -j.1) (λj=>j.1<=Z d/\bB j.2.2.1 (cF ab) 3 (d.take j.1) j.2.2.2/\Holds j.2.1 (j.2.2.2++k)) (0,_,.q (Z M+1) 0 0 0,_) ⟨by simp,bB.of (x:=([]:List S)),l⟩;clear l p;rintro⟨e,L,U,n⟩ ⟨K,m,o⟩ N s;simp only at K m o s⊢;simp only[G,i,A,O,a];refine b (λh=>?_) (λh=>?_);have h:e<Z d:=by simpa using h
 have w:∀f:S,g (cF F f) 0=I f.ah:=λ_=>rfl;have x:∀f:S,g (cF F f) 1=eS F cV f.af:=λ_=>rfl;have y:∀f:S,g (cF F f) 2=I f.aj:=λ_=>rfl;simp only[aE h (fB _ _),ku,O,z,w,x,y];apply c (v.ak7 d[e].af (J _ (bn h)));have E:nB (eS ab cV d[e].af)=aa (eS ab cV d[e].af):=rfl;have H:(AV.agg [I d[e].ah,eS ab cV d[e].af,I d[e].aj])=.agg (cF ab d[e]):=rfl;simp only[E,O,H];rw[vJ (U:=3) (row:=cF ab d[e]) rfl rfl,O]
 let⟨id,g,u,B,D⟩:=m.app (bytes:=40) o d[e] (fB ab _) (by grind);apply aY B;rw[aZ,O];refine s (e+1,u,_,[(id,.arr g 3 ((d.take e++[d[e]]).map (cF ab)))]) ⟨h,?_,D⟩ (by omega);rw[iy h];exact bB.of;have:e=Z d:=by simp at h;omega
 subst this;rw[dY]at m;refine⟨n,?_,o⟩;rw[m.pl];exact m
variable{kh:AV -> Prop}
theorem X0(h:U<4611686018427387904)(e:kh (I ((U/2:Nat):Int))):bd (pU (.int .u64) (I (U:Int))) λa=>bd (aT .s .shr a (.int .u64 (1))) λb=>bd (pU (.int .i64) b) kh:=by
 have c:IntKind.wrap .u64 (U:Int)=U:=by
  simp only[IntKind.wrap];have:(U:Int)%18446744073709551616=U:=Int.emod_eq_of_lt (by omega) (by omega);simp[IntKind.bits,IntKind.signed];omega
 have d:aT .s .shr (.int .u64 (U:Int)) (.int .u64 (1))=aa (.int .u64 ((U/2:Nat):Int)):=by
  have:(U:Int).fdiv 2=((U/2:Nat):Int):=by
   rw[Int.fdiv_eq_ediv_of_nonneg _ (by omega)];omega
  simp[aT,IntKind.bits];omega
 grind[IntKind.wrap,wrap64,Br,O]
structure uJ(fs:List S)(t:S)(i:Nat):Prop where
 le:i<=Z fs
 lo:∀j(hj:j<Z fs),j<i->cr fs[j] t<0
 hi:∀j(hj:j<Z fs),i<=j->0<=cr fs[j] t
def kd(b:List S)(d:S)(c:Nat):Bool:=match b[c]? with|aa a=>cr a d==0|ae=>ab
theorem X1(z:∀e k:S,dF e.af->PR C U [.agg (cF T e),.agg (cF bC k)] (I (cr e k)))(d:List S)(f:S)(K:Sm d)(x:∀E∈d,dF E.af)(N:gj d)(V:∀g v(p:g<Z d)(P:v<Z d),g<v->(0<=cr d[g] f->0<cr d[v] f)):
 ∃m,uJ d f m/\PR C 35 [eS F (cF T) d,.agg (cF bC f),.fn U [] []] (.aB [I (m:Int),.bool (kd d f m)]):=by
 have key:∃B,PR C 35 [eS F (cF T) d,.agg (cF bC f),.fn U [] []] B/\∃m,uJ d f m/\B=.aB [I (m:Int),.bool (kd d f m)]:=by
  apply SA.ex;simp only[pX,O,aX];refine bG (K:=Nat×Nat) (λj=>[I j.1,I j.2]) (λ_=>[]) (λj=>j.2 -j.1) (λj=>j.1<=j.2/\j.2<=Z d/\(∀g(p:g<Z d),g<j.1->cr d[g] f<0)/\∀g(p:g<Z d),j.2<=g->0<=cr d[g] f) (0,Z d) ⟨by simp,by simp,by simp,λg p h=>by simp at h;omega⟩ ?_;rintro⟨e,k⟩ ⟨H,q,r,t⟩ L u;simp only at H q r t u⊢;simp only[i,G,A,O,a];unfold Sm at K;refine b (λh=>?_) (λh=>?_);have h:e<k:=by simpa using h
  have J:aT .s .add (I (e:Int)) (I (k:Int))=aa (I ((e+k:Nat):Int)):=by
   rw[ye (by omega) (by omega)];simp
  have y:(e+k)/2<Z d:=by omega
  rw[J,O];apply X0 (by omega);generalize M:(e+k)/2=n at*;simp only[aE y (fB _ _),O,ku];refine aY (dW:=U) (oR:=[.agg (cF T d[n]),.agg (cF bC f)]) rfl ?_;apply c (z d[n] f (x _ (bn y)));simp only[A,O];refine b (λo=>?_) (λo=>?_);have o:cr d[n] f<0:=by simpa using o
  rw[aZ,O];refine u (n+1,k) ⟨by omega,q,λg p R=>?_,t⟩ (by omega);grind;have o:0<=cr d[n] f:=by simpa using o
  refine u (e,n) ⟨by omega,by omega,r,λg p Q=>?_⟩ (by omega);grind;have:e=k:=by simp at h;omega
  subst this;have w:uJ d f e:=⟨q,r,t⟩;rw[bz];refine aV (λl=>?_) (λl=>?_);have l:e<Z d:=by simpa using l
  simp only[aE l (fB _ _),O,ku];refine aY (dW:=U) (oR:=[.agg (cF T d[e]),.agg (cF bC f)]) rfl ?_;apply c (z d[e] f (x _ (bn l)));simp only[tD,O,G,i];exact⟨.aB [I (e:Int),.bool (cr d[e] f==0)],eu,e,w,by grind[kd]⟩;have l:¬e<Z d:=by simpa using l
  simp only[G,i];exact⟨.aB [I (e:Int),ff],eu,e,w,by grind[kd]⟩
 grind
theorem amR(a:List S)(b:S)(j:Sm a)(i:∀f∈a,dF f.af)(g:gj a)(k:∀d e(n:d<Z a)(o:e<Z a),d<e->(0<=cr a[d] b->0<cr a[e] b)):
 ∃c,uJ a b c/\PR C 35 [eS F (cF T) a,.agg (cF bC b),.fn 156 [] []] (.aB [I (c:Int),.bool (kd a b c)]):=X1 (λl m h=>XY l m h) a b j i g k
def cW(a d e c:Bool)(b:D)(f:List S):List AV:=[eS a (bp a) b.aw,eS a (cm a) b.aO,eS a (bO a) b.Q,eS d (aS a) b.ak,eS e (cF c) f]
def X2:bQ:=⟨[],[],[],0⟩
theorem yO(a:Bool)(b:List AV)(off:Nat)(c:List Obj):iL (.aH a b off) c=aa (.aH a b off):=rfl
variable{iF:Bool}
theorem MZ{d:Bool}(h:D)(a:List S)(b:Int)(args:List aG)(q:Sm a)(n:∀j∈a,dF j.af)(m:gj a)(r:∀f g(s:f<Z a)(t:g<Z a),f<g->(0<=cr a[f] ⟨b,args,0⟩->0<cr a[g] ⟨b,args,0⟩)):
 ∃c,uJ a ⟨b,args,0⟩ c/\PR C 120 [.aH T (cW F bC c8 iF h a) 0,I b,eS d cV args] (.aB [I (c:Int),.bool (kd a ⟨b,args,0⟩ c)]):=by
 let⟨c,p,l⟩:=amR (T:=iF) (F:=c8) (bC:=d) a ⟨b,args,0⟩ q n m r;refine⟨c,p,ad7.pr ?_⟩;have o:mb [(I 0),.aq,(I 0)] [(0,1,I b),(1,1,eS d cV args)]=aa (cF d ⟨b,args,0⟩):=rfl;have k:(cW F bC c8 iF h a)[4]?=aa (eS c8 (cF iF) a):=rfl;simp only[yO,O,bh,aJ,e,k,o];refine⟨.dm,_,_,by decide,?_,l,(λi=>by cases i),?_⟩;exact .ck eu (.ck eu (.ck (.fn _ _ _ _ _ _ (.nil _) (.nil _)) (.nil _)));simp[fK,O,Im.snap]
def q5(b:D)(a:cO):bQ:=if a.of<0 then X2 else(b.aw[a.of.toNat]?).getD X2
theorem X3(a:D)(g:List S)(d:Nat)(k:d<Z a.Q)(q:kA a):
 PR C 119 [.aH T (cW F bC c8 iF a g) 0,I (d:Int)] (.aB [.agg (bp (if a.Q[d].of<0 then ab else F) (q5 a a.Q[d])),.bool (y (0<=a.Q[d].of))]):=by
 apply ae2.pr;have o:(cW F bC c8 iF a g)[2]?=aa (eS F (bO F) a.Q):=rfl;have n:(cW F bC c8 iF a g)[0]?=aa (eS F (bp F) a.aw):=rfl;have s:=q _ (bn k);have m:∀c:cO,(bO F c)[3]?=aa (I c.of):=λ_=>rfl;simp only[yO,O,bh,aJ,e,fY,o,n,aE k (ji _ _),m,A];generalize a.Q[d]=c at*;refine b (λh=>?_) (λh=>?_);have h:c.of<0:=by simpa using h
 refine aI (dW:=[.str [],.aq,.aq,I 0]) rfl (aI (dW:=[.str [],.aq,.aq,I 0]) rfl ?_);have i:y (0<=c.of)=false:=by simp;omega
 rw[if_pos h,q5,if_pos h,i];exact .aB _ _ _ (.ck (.agg _ _ _ (.ck (.str _ _) (.ck (.aq _ _) (.ck (.aq _ _) (.ck (.int _ _ _) (.nil _)))))) (.ck (.bool _ _) (.nil _)));have h:¬c.of<0:=by simpa using h
 let⟨j,r⟩:∃j:Nat,c.of=j:=⟨c.of.toNat,by omega⟩;have l:j<Z a.aw:=by omega
 have i:y (0<=c.of)=true:=by simp;omega
 rw[if_neg h,q5,if_neg h,i];have p:∀f:bQ,(AV.agg [.str f.au,eS F cS f.az,eS F b3 f.eK,I f.bb])=.agg (bp F f):=λ_=>rfl;simp only[r,eR,bq l,nr,aE l (kK _ _),O,jj,zB,DN,DO,DP,DQ,p];simp[Im.snap]
abbrev Ic:KD:=⟨ab,1,[0]⟩
def xo(b:List Int)(c:Int->Nat):Obj:=.mp ad (b.map λa=>I a) (b.map λa=>I (c a:Int))
theorem M0(a b:Int):Ic.eq (I a) (I b)=aa (a==b):=rfl
theorem M1(c:Int):∀(b:List Int)(a:Nat),Ic.find (I c) (b.map λd=>I d) a=aa ((b.findIdx? (c==·)).map (· +a))
 |[],a=>rfl
 |x::b,a=>by
  rw[ej,KD.find,M0,Fe];cases h:c==x with
  |true=>simp
  |false=>
   simp only[e6,if_false];rw[M1 c b (a+1)];rcases b.findIdx? (c==·)with _|j;rfl;simp;omega
variable{ct:List Int}
theorem X4{b:Int->Nat}{id:Nat}(a:Int)(h:M[id]?=aa (xo ct b))(d:a∉ct->b a=0):iM Ic (I 0) ab (.b8 id) (I a) M=aa (I (b a:Int)):=by
 have c:mf M (.b8 id)=aa (ct.map λa=>I a,ct.map λa=>I (b a:Int)):=by simp[mf,h,xo]
 simp only[iM,c,M0,oJ,if_true,M1];rcases e:ct.findIdx? (a==·)with _|i;grind;grind[List.findIdx?_eq_some_iff_getElem]
theorem amS{d:Int->Nat}{id:Nat}(b:Int)(c:Nat)(m:ct.Nodup)(h:M[id]?=aa (xo ct d)):∃e,jP Ic (.b8 id) (I b) (I (c:Int)) M=aa (M.set id (xo e λa=>if a=b then c else d a))/\e.Nodup/\∀a,a∈e<->a∈ct\/a=b:=by
 have j:(I b).pl=I b:=rfl;have k:(I (c:Int)).pl=I (c:Int):=rfl;simp only[jP,h,xo,j,k,M0,oJ,if_true,M1];rcases f:ct.findIdx? (b==·)with _|i;rw[y8]at f;have s:b∉ct:=by grind
 refine⟨ct++[b],?_,?_,λa=>by simp⟩;simp only[CH,hJ,Jj,if_true];grind[List.map_congr_left];grind;let⟨r,n,_⟩:=qt.1 f;simp only[beq_iff_eq]at n;refine⟨ct,?_,m,by grind⟩;simp only[kf,fY];have:(ct.map λa=>I (d a:Int)).set i (I (c:Int))=ct.map λa=>I ((if a=b then c else d a:Nat):Int):=by
  refine qs (by simp) λg o l=>?_;rw[ar9];simp only[xD];have q:g<Z ct:=by simpa using l
  by_cases p:i=g;grind;grind[List.getElem_inj]
 rw[this]
theorem amT(B:D)(c:List S)(U:Sm c):PR C 71 [.aH T (cW F bC c8 iF B c) 0] (.bool (iP c)):=by
 apply agc.pr;have M:(cW F bC c8 iF B c)[4]?=aa (eS c8 (cF iF) c):=rfl;simp only[e4,yO,O,bh,aJ,e,M,aX,dR,e2];apply bG (K:=Nat×List Obj×List Int) (λj=>[ff,I j.1]) (λj=>j.2.1) (λj=>Z c -j.1) (λj=>j.1<=Z c/\j.2.1[0]?=aa (xo j.2.2 λf=>jq (c.take j.1) f)/\j.2.2.Nodup/\(∀f,f∉j.2.2->jq (c.take j.1) f=0)/\(ay j.1).any (w3 c)=ab) (0,[.mp ad [] []],[]) ⟨by simp,rfl,xF,λf _=>by simp[jq],rfl⟩
 rintro⟨d,p,X⟩ ⟨R,o,u,q,w⟩ Y z;simp only at R o u q w z⊢;simp only[i,G,A,O,a];have V:0<Z p:=(fH.1 o).1;refine b (λh=>?_) (λh=>?_);have h:d<Z c:=by simpa using h
 have J:∀n:S,dO 3 (.agg (cF iF n))=aa (cF iF n):=λ_=>iT rfl rfl;have H:∀n:S,g (cF iF n) 0=I n.ah:=λ_=>rfl;have Q:=VH (c.take d) c[d].ah;rw[h0]at Q;have x:=λf=>LJ h f;have ac:w3 c d=y (2000<(jq (c.take (d+1)) c[d].ah:Int)):=by rw[w3,bq h]
 simp only[aE h (fB _ _),O,ku,J,H,X4 c[d].ah o (q _),aZ (show jq (c.take d) c[d].ah<4611686018427387904 by unfold Sm at U;omega)];let⟨l,K,L,r⟩:=amS c[d].ah (jq (c.take d) c[d].ah+1) u o;apply aI K;have P:(λk=>if k=c[d].ah then jq (c.take d) c[d].ah+1 else jq (c.take d) k)=λk=>jq (c.take (d+1)) k:=by
  funext k
  rw[x];by_cases m:c[d].ah=k;subst m;simp;rw[if_neg (λh=>m h.symm),if_neg m];simp
 rw[P];have t:(p.set 0 (xo l λk=>jq (c.take (d+1)) k))[0]?=aa (xo l λk=>jq (c.take (d+1)) k):=I9 V;have s:∀f,f∉l->jq (c.take (d+1)) f=0:=λf v=>by
  rw[x,if_neg (λm=>v ((r f).2 (.inr m.symm))),q f (λW=>v ((r f).2 (.inl W)))]
 generalize p.set 0 (xo l λk=>jq (c.take (d+1)) k)=E at*;rw[X4 c[d].ah t (s _),O,eU,O];refine b (λN=>jk ?_) (λN=>?_);grind[iP];rw[aZ (by grind[Sm]),O];refine z (d+1,E,l) ⟨h,t,L,s,?_⟩ (by omega);grind;have:d=Z c:=by simp at h;omega
 subst this;exact bK w
def oE(c:Bool)(a:List d)(b:List aG):Obj:=.mp c (iX a) (b.map λe=>.agg (cV e))
def vP(c:Bool)(a:List d)(b:d->Int):Obj:=.mp c (iX a) (a.map λe=>I (b e))
theorem X5(a:List d)(b:d):a.findIdx? (b==·)=a.findIdx? λc=>c==b:=by
 grind
variable{E:AV}
theorem amU(a:bc)(b:aK)(f:Z a.bH=Z a.aA)(c:mf M E=aa (iX a.aA,a.bH.map λe=>.agg (cV e)))(d:b.aF≠[]):
 iM sf (.agg (cV zV)) ad E (.str b.aF) M=aa (.aB [.agg (cV (cD a b).1),.bool (cD a b).2]):=by
 simp only[iM,c,th,oJ,if_true,ti,X5,cD,if_neg d];grind[List.findIdx?_eq_some_iff_getElem]
variable{p:List d}{aP:List aG}{bL:d}
theorem amV{id:Nat}(a:aG)(h:M[id]?=aa (oE T p aP))(e:bL∉p):jP sf (.b8 id) (.str bL) (.agg (cV a)) M=aa (M.set id (oE T (p++[bL]) (aP++[a]))):=by
 have c:p.findIdx? (bL==·)=none:=by
  rw[y8];intro g f;rw[beq_eq_false_iff_ne];rintro rfl;exact e f
 have b:(AV.agg (cV a)).pl=.agg (cV a):=rfl;simp only[jP,h,oE,zy,th,oJ,if_true,ti,c,b];simp[iX]
variable{gD:List d}{ju:aG}
theorem amW{id:Nat}{a:List aG}(h:M[id]?=aa (oE T (p++bL::gD) (aP++ju::a)))(c:bL∉p)(f:Z aP=Z p):Bg sf (.b8 id) (.str bL) M=aa (M.set id (oE ab (p++gD) (aP++a))):=by
 have b:(p++bL::gD).findIdx? (bL==·)=aa (Z p):=by
  rw[aa2];have:p.findIdx? (bL==·)=none:=by
   rw[y8];intro g e;rw[beq_eq_false_iff_ne];rintro rfl;exact c e
  rw[this];simp[Fe]
 simp only[Bg,h,oE,zy,th,oJ,if_true,ti,b,kf,fY];simp_all[iX,hJ,ej,List.eraseIdx_append_of_length_le,cV]
variable{dU:d -> Int}
theorem M3(a:mf M E=aa (iX p,p.map λbL=>I (dU bL)))(c:bL∈p):iM sf (I 0) ab E (.str bL) M=aa (I (dU bL)):=by
 simp only[iM,a,th,oJ,if_true,ti];rcases b:p.findIdx? (bL==·)with _|i;grind;grind[List.findIdx?_eq_some_iff_getElem]
theorem amX{id:Nat}(b:d)(c:Int)(l:p.Nodup)(h:M[id]?=aa (vP T p dU)):∃e,jP sf (.b8 id) (.str b) (I c) M=aa (M.set id (vP T e λa=>if a=b then c else dU a))/\e.Nodup/\∀a,a∈e<->a∈p\/a=b:=by
 have j:(I c).pl=I c:=rfl;simp only[jP,h,vP,zy,j,th,oJ,if_true,ti];rcases f:p.findIdx? (b==·)with _|i;rw[y8]at f;have s:b∉p:=by grind
 refine⟨p++[b],?_,?_,λa=>by simp⟩;simp only[CH,iX,hJ,Jj,if_true];grind[List.map_congr_left];grind;let⟨r,m,_⟩:=qt.1 f;simp only[beq_iff_eq]at m;refine⟨p,?_,l,by grind⟩;simp only[kf,fY];have:(p.map λa=>I (dU a)).set i (I c)=p.map λa=>I (if a=b then c else dU a):=by
  refine qs (by simp) λg n k=>?_;rw[ar9];simp only[xD];have q:g<Z p:=by simpa using k
  by_cases o:i=g;grind;grind[List.getElem_inj]
 rw[this]
def e5(h g:Nat)(e c:Bool)(a:bc)(b:List d)(f:d->Int):aL:=[(h,oE e a.aA a.bH),(g,vP c b f)]
structure l1(e:bc)(K:List d)(c:d->Int):Prop where
 nd:K.Nodup
 aN:∀x∈e.aw,x∈K/\c x=jT e x
def cM(b a:Nat):List AV:=[.b8 b,.b8 a]
def my(b:bc)(a:List d)(c:d->Int):List AV:=[.il (iX b.aA) (b.bH.map λe=>.agg (cV e)),.il (iX a) (a.map λf=>I (c f))]
theorem Ie:∀a:List aG,bT (a.map λb=>.agg (cV b))
 |[]=>.nil
 |x::a=>.cons _ _ (by simp) (Ie a)
theorem Ig(b:d->Int):∀a:List d,bT (a.map λx=>I (b x))
 |[]=>.nil
 |x::a=>.cons _ _ (by simp) (Ig b a)
theorem X6(c:bc)(a:List d)(b:d->Int)(e:List Obj):aM e .dm (.agg (my c a b)) (.agg (my c a b)):=
 .agg _ _ _ (.ck (.zk _ _ _ _ (vo _).snap (Ie _).snap) (.ck (.zk _ _ _ _ (vo _).snap (Ig _ _).snap) (.nil _)))
variable{H:bc}
theorem Ey(h:Holds M (e5 U N T F H p dU++k)):aM M .cd (.agg (cM U N)) (.agg (my H p dU)):=
 .agg _ _ _ (.ck (.xP U T _ _ _ _ (h.get (by simp[e5,oE])) (vo _).snap (Ie _).snap) (.ck (.xP N F _ _ _ _ (h.get (by simp[e5,vP])) (vo _).snap (Ig _ _).snap) (.nil _)))
theorem Ih(a:bc)(i:List d)(j:d->Int)(f:aK)(m:Z a.bH=Z a.aA):PR C 220 [.agg (my a i j),.agg (cT f)] (.aB [.agg (cV (cD a f).1),.bool (cD a f).2]):=by
 apply R8.pr;have o:j2 2 (.agg (my a i j))=aa (.aH ab (my a i j) 0):=rfl;have l:(my a i j)[0]?=aa (.il (iX a.aA) (a.bH.map λc=>.agg (cV c))):=rfl;have p:∀c:aG,(AV.agg [g (cV c) 0,g (cV c) 1,g (cV c) 2])=.agg (cV c):=λ_=>rfl;have q:∀(c:aG)(k:Bool),aM [] .res (.aB [(AV.agg (cV c)).pl,(AV.bool k).pl]) (.aB [.agg (cV c),.bool k]):=by simp[Im.snap]
 simp only[o,zC,O,bh,aJ,rV,e,gW,Kk,xZ,l];refine b (λh=>?_) (λh=>?_);grind[cD];have h:f.aF≠[]:=by simpa using h
 have n:(AV.agg [I 0,I 0,.str []])=.agg (cV zV):=rfl;rw[n,amU a f m rfl h];grind[O,fK,List.getElem?_cons_zero,List.getElem?_cons_succ,xZ]
theorem X7(b:bc)(h:List d)(j:d->Int)(c:List aK)(v:Z b.bH=Z b.aA)(u:Sm c):PR C 166 [.agg (my b h j),eS T cT c] (eS ab cV (j7 b c)):=by
 refine aft.pr ?_;have w:j2 2 (.agg (my b h j))=aa (.aH ab (my b h j) 0):=rfl;have x:∀n,aQ 2 ad (.aH ab (my b h j) 0) n=aa (.agg (my b h j)):=λ_=>rfl;have p:∀e:aK,(AV.agg [g (cT e) 0,g (cT e) 1,g (cT e) 2,g (cT e) 3])=.agg (cT e):=λ_=>rfl;have gv:∀k:aG,(AV.agg [g (cV k) 0,g (cV k) 1,g (cV k) 2])=.agg (cV k):=λ_=>rfl;simp only[w,O,e4,fh,dR,e2,hG,jY,aX]
 have s:∀(c:List aK)(f:List aG),c.foldl (λf e=>f++[(cD b e).1]) f=f++j7 b c:=by
  intro c;induction c with
  |nil=>grind[j7]
  |cons D c B=>grind[j7]
 refine wP c (λf e=>f++[(cD b e).1]) [] 1 3 cV (M:=[.arr 0 3 [],.arr 0 3 []]) 0 rfl (by simp[a1]) (λm l f q o r t=>?_) (λq o=>?_);have z:Z f<=m:=by
  rw[r,s];simp[j7];omega
 simp only[i,G,A,O,a,l,decide_true,aE l (kt _),lM,ya,x,p];refine a8 ⟨.dm,_,_,by decide,.ck (X6 b h j _) (.ck eu (.nil _)),Ih b h j c[m] v,(λb=>by cases b),?_⟩;simp only[fK,dj,eH,O,xZ,gv];refine aI (GW (cD b c[m]).1) ?_;refine K6 (by simp) (by grind[Sm]) ?_;rw[u.inc l,O];exact t _;simp only[i,G,A,O,a,cn,decide_false];refine bw ?_;simp_all[dR,DR]
theorem amY(op:Int)(a w:aG)(f:Sm a.s):PR C 221 [I op,.agg (cV a),.agg (cV w)] (.bool (vu op a w)):=by
 apply af4.pr;simp only[Bn,O,u9];apply c (TU _ _ f);simp only[c6,cv,A,kL,O];refine b (λh=>iW ?_) (λh=>b (λd=>iW ?_) (λd=>b (λe=>iW ?_) (λe=>iW ?_)));grind[vu];grind[vu];grind[vu];grind[vu]
variable{bZ:S}
theorem M4{a b:S}(c:a.ah=b.ah)(d:a.af=b.af):cr bZ a=cr bZ b:=by grind[cr]
variable{X:List S}
theorem Ii(i:gj X)(d:S):∀a b(f:a<Z X)(g:b<Z X),a<b->(0<=cr X[a] d->0<cr X[b] d):=by
 intro a b f g h j;have e:=i a b f g h;rw[<-w2];by_cases c:cr X[a] d=0;rw[oz]at c;rw[w2,M4 c.1.symm c.2.symm,<-w2];exact e;exact zY _ _ _ ((w2 _ _).2 (by omega)) e
theorem X8{a:S}(h:cr bZ a<0):bZ.ah<=a.ah:=by
 grind[cr]
theorem M5(d:uJ X bZ U)(h:kd X bZ U=ad):∃b:U<Z X,X.find? (eL bZ.ah bZ.af)=aa X[U]/\X.findIdx? (eL bZ.ah bZ.af)=aa U:=by
 have b:U<Z X:=by
  refine xG λi=>?_;rw[kd,List.getElem?_eq_none (by omega)]at h;cases h
 rw[kd,bq b]at h;have h:cr X[U] bZ=0:=by simpa using h
 have f:=(Hs _ _ _ bZ.aj).2 h;have g:∀a(c:a<U),eL bZ.ah bZ.af X[a]=false:=λa c=>D4 (ca:=bZ.aj) (by have:=d.lo a (by omega) c;grind[cr]);refine⟨b,?_,?_⟩;grind[List.find?_eq_some_iff_getElem];grind[List.findIdx?_eq_some_iff_getElem]
theorem X9(e:gj X)(b:uJ X bZ U)(h:kd X bZ U=ab):∀d∈X,cr d bZ≠0:=by
 intro d f;obtain⟨a,c,rfl⟩:=kg.1 f;rcases I2 a U with dJ|rfl|dJ;have:=b.lo a c dJ;omega;grind[kd];have:=Ii e bZ U a (by omega) c dJ (b.hi U (by omega) (c7 _));omega
theorem M6(e:gj X)(d:uJ X bZ U)(h:kd X bZ U=ab):X.find? (eL bZ.ah bZ.af)=ae/\X.findIdx? (eL bZ.ah bZ.af)=none:=by
 have c:=X9 e d h;refine⟨?_,?_⟩;rw[Fh];intro b a;rw[D4 (c b a)];simp;rw[y8];intro b a;exact D4 (c b a)
theorem Ya(a:S)(b:Int):PR C 216 [.agg (cF T a),I b] (I (fE a.ah b)):=by
 apply TD.pr;simp only[pX,O,bh,aJ,oc,e];exact c (zK _ _) (jS rfl)
structure Ij(fs:List S)(q:Int)(i:Nat):Prop where
 le:i<=Z fs
 lo:∀j(hj:j<Z fs),j<i->fs[j].ah<q
 hi:∀j(hj:j<Z fs),i<=j->q<=fs[j].ah
variable{f ca:Int}
theorem Yb:fE f ca<0<->f<ca:=by grind[fE]
theorem amZ(d:List S)(g:Int)(H:Sm d)(B:gj d):
 ∃n,Ij d g n/\∃r,PR C 215 [eS F (cF T) d,I g,.fn 216 [] []] (.aB [I (n:Int),.bool r]):=by
 have key:∃z,PR C 215 [eS F (cF T) d,I g,.fn 216 [] []] z/\∃n,Ij d g n/\∃r,z=.aB [I (n:Int),.bool r]:=by
  apply R7.ex;simp only[O,aX];apply bG (K:=Nat×Nat) (λj=>[I j.1,I j.2]) (λ_=>[]) (λj=>j.2 -j.1) (λj=>j.1<=j.2/\j.2<=Z d/\(∀e(l:e<Z d),e<j.1->d[e].ah<g)/\∀e(l:e<Z d),j.2<=e->g<=d[e].ah) (0,Z d) (by grind);rintro⟨f,k⟩ ⟨L,t,u,v⟩ K y;simp only[i,G,A,O,a];unfold Sm at H;have mono:∀e o(l:e<Z d)(x:o<Z d),e<=o->d[e].ah<=d[o].ah:=by
   intro e o l x h;rcases asa h with h|rfl;exact X8 (B e o l x h);omega
  refine b (λh=>?_) (λh=>?_);have h:f<k:=by simpa using h
  have D:aT .s .add (I (f:Int)) (I (k:Int))=aa (I ((f+k:Nat):Int)):=by
   rw[ye (by omega) (by omega)];simp
  have J:(f+k)/2<Z d:=by omega
  rw[D,O];apply X0 (by omega);generalize M:(f+k)/2=p at*;simp only[aE J (fB _ _),O,ku];apply aY rfl;apply c (Ya d[p] g);simp only[A,O];refine b (λm=>?_) (λm=>?_);have m:d[p].ah<g:=by rw[<-Yb];simpa using m
  rw[aZ,O];refine y (p+1,k) ⟨by omega,t,λe l P=>?_,v⟩ (by omega);grind;have m:g<=d[p].ah:=by
   refine aa1.1 λE=>?_;rw[<-Yb]at E;simp at m;omega
  refine y (f,p) ⟨by omega,by omega,u,λe l N=>?_⟩ (by omega);grind;have:f=k:=by simp at h;omega
  subst this;have w:Ij d g f:=⟨t,u,v⟩;rw[bz];refine aV (λq=>?_) (λq=>?_);have q:f<Z d:=by simpa using q
  simp only[aE q (fB _ _),O,ku];apply aY rfl;apply c (Ya d[f] g);simp only[tD,O,G,i];exact⟨.aB [I (f:Int),.bool (fE d[f].ah g==0)],eu,f,w,_,rfl⟩;simp only[G,i];exact⟨.aB [I (f:Int),ff],eu,f,w,_,rfl⟩
 grind
variable{dS:bQ}
theorem am0(h:eY dS=0)(e:eC dS f=ad):vr dS f (eD dS [])=(f==eD dS []):=by
 let⟨i,b,c,g⟩:=VO h;obtain⟨a,rfl,d⟩:∃a:Nat,f=a/\a<Z dS.az:=by
  simp only[eC,ba,decide_eq_true_eq]at e;exact⟨f.toNat,by omega,by omega⟩
 rw[b,vr,h,BY d,BY c];simp only[beq_self_eq_true,c3,eR];grind[Hw]
theorem Yc{r:Bool}(d:D)(f:List S)(i:Nat)(l:i<Z d.Q)(args:List aG)(j:Int)(J:eA d)(H:kA d)(B:Sm f)(z:∀s∈f,dF s.af)(m:gj f)
 (a:dI d i=aa dS)(M:eY dS=0)(N:eC dS j=ad):
 PR C 217 [.aH T (cW F bC c8 iF d f) 0,I (i:Int),eS r cV args,I j] (.bool (sr d i j (yy d f i args))):=by
 apply afA.pr;obtain⟨K,n,y⟩:=MZ d f i args B z m (Ii m _);have x:=X3 (T:=T) (F:=F) (bC:=bC) (c8:=c8) (iF:=iF) d f i l H;have o:bT (cW F bC c8 iF d f):=by simp[cW]
 have t:(cW F bC c8 iF d f)[4]?=aa (eS c8 (cF iF) f):=rfl;have u:∀(F:Bool)(k:bQ),(AV.agg [g (bp F k) 0,g (bp F k) 1,g (bp F k) 2,g (bp F k) 3])=.agg (bp F k):=λ_ _=>rfl;have E:sr d i j=λq=>vr dS j q:=by
  funext q
  unfold dI at a;unfold sr;rw[eR]at a⊢;rw[bq l]at a⊢;simp only at a⊢;split at a;cases a
  rw[a]
 have G:q5 d d.Q[i]=dS:=by
  unfold dI at a;rw[eR,bq l]at a;simp only at a;split at a;cases a
  rename_i v;rw[q5,if_neg v,a]<;>rfl
 have L:LI d i=eD dS []:=by
  unfold dI at a;unfold LI;rw[eR]at a⊢;rw[bq l]at a⊢;simp only at a⊢;split at a;cases a
  rw[a]
 have p:=J.aN dS (vz a);refine c x ?_ (by simp[o]);simp only[fK,dj,eH,O,zB,u,G];refine c y ?_ (by simp[o]);simp only[dj,eH,O,E];refine b (λh=>?_) (λh=>?_);let⟨A,w,_⟩:=M5 n h;simp only[yO,O,bh,aJ,e,t,aE A (fB _ _),s8];refine c (ajq dS j f[K].aj p) (iW ?_);grind[yy];let⟨w,_⟩:=M6 m n h;apply c (Hm dS p);simp only[tD,O];grind[iW,yy,am0]
def tG(b:AV)(a:aL)(W:List AV):Prop:=(∃c,b=.aH c W 0/\a=[])\/∃id,b=.ptr id 0 0 0/\a=[(id,.arr 0 5 [W])]
theorem tG.pl{W:List AV}(h:tG E k W):E.pl=E:=by
 rcases h with⟨a,rfl,-⟩|⟨id,rfl,-⟩<;>rfl
variable{bo:aL}
theorem tG.mr{W:List AV}(h:tG E k W)(b:Holds M (k++bo))(a:bT W):aM M .cd E (.aH ad W 0):=by
 rcases h with⟨c,rfl,-⟩|⟨id,rfl,rfl⟩;exact .A0 _ _ _ _ a.snap;exact .o2 id 0 0 0 5 [W] W W (b.get (by simp)) rfl a.snap
variable{dG:AV}
theorem tG.rd{W:List AV}{n:Nat}(h:tG E k W)(c:Holds M (k++bo))(f:W[n]?=aa dG)(a:kh dG):bd (iL E M) λd=>bd (dK n d M) λe=>bd (aQ 1 ab e M) kh:=by
 rcases h with⟨i,rfl,-⟩|⟨id,rfl,rfl⟩;refine aI (yO _ _ _ _) (aI rfl (aI ?_ a));simp_all;have b:=c.get (U:=id) (gF:=.arr 0 5 [W]) (by simp);refine aI (hV b) (aI (eF b) (aI ?_ a));grind[gA]
variable{K:Type}
def pA(C:fu)(w:Nat)(r:List AV)(n m:Nat)(b:K->aL->Prop)(j:aL)(a:bc)(p q:K):Prop:=
 ∀(h:aL)(f:List d)(k:d->Int)(u s:Bool)(c:aL)(e:List Obj),l1 a f k->b p h->Holds e (e5 n m u s a f k++(h++(j++c)))->
  HR C w r e (λ_ o=>∃i g l v t,l1 a g l/\b q i/\Holds o (e5 n m v t a g l++(i++(j++c))))
def Ez(c:AV)(b:List aG)(a:aL):Prop:=(∃d,c=eS d cV b/\a=[])\/bB c cV 3 b a
theorem Ez.pl(h:Ez E aP k):E.pl=E:=by
 rcases h with⟨a,rfl,-⟩|h;rfl;exact h.pl
theorem Ez.at(h:Ez E aP k)(f:Holds M (k++bo))(a:U<Z aP)(b:kh (.agg (cV aP[U]))):bd (bP 3 E (I U) M) λg=>bd (aQ 3 ad g M) kh:=by
 rcases h with⟨i,rfl,-⟩|h;rw[aE a (s4 _),O,u9,O];exact b;let⟨id,j,c,d,e⟩:=(h.gr f).at a;refine aI c (aI (mj d e rfl) b)
def jb(a:bc)(b:List d)(w:List aG):bc:=⟨a.aA++b,a.bH++w,a.aw,a.az⟩
theorem M7(a:bc):jb a [] []=a:=by simp[jb]
theorem l1.ext(a:List d)(w:List aG)(h:l1 H p dU):l1 (jb H a w) p dU:=⟨h.nd,λc b=>h.aN c b⟩
theorem l1.back{w:List aG}(h:l1 (jb H gD w) p dU):l1 H p dU:=⟨h.nd,λb a=>h.aN b a⟩
variable{bR:aK}
theorem am1{w:List aG}:gO (jb H p w) bR ju=jb H (p++[bR.aF]) (w++[ju]):=by simp[gO,jb]
variable{hL jt mI:aL}
theorem Holds.M8(h:Holds M (k++(bo++(hL++(jt++mI))))):Holds M (bo++(hL++(jt++(k++mI)))):=
 h.perm (by grind[List.perm_append_comm_assoc,trans])
theorem Holds.M9(h:Holds M (bo++(hL++(jt++(k++mI))))):Holds M (k++(bo++(hL++(jt++mI)))):=
 h.perm (by grind[List.perm_append_comm_assoc,trans])
def am2(n m:Nat)(k j:Bool)(b:bc)(c:List aK)(vs:List aG)(i:List d)(l:d->Int)(g:aL)(o:List AV)(h:List Obj):Prop:=
 ∃(a:List d)(w:List aG)(f:AV)(e:aL)(ok:Bool)(q r s:AV),o=[f,.bool ok,q,r,s]/\Z a=Z w/\(∀p∈a,p∉b.aA)/\Z a<=Z c/\
  (ok=ad->gP b c vs=aa (jb b a w))/\(ok=ab->gP b c vs=ae)/\bB f cS 1 a e/\Holds h (e++(e5 n m k j (jb b a w) i l++g))
variable{rJ:K -> aL -> Prop}{mF:List aK}{dW oN:K}
theorem Yd{vs:List aG}(au:Ez E vs k)(f8:Z mF<=Z vs)(bm:Z H.bH=Z H.aA)(br:Sm mF)(ek:dG.pl=dG)
 (fd:∀bv,gP H mF vs=aa bv->∃ai S,lL dG []=aa (ai,S)/\S.map AV.pl=S/\pA C ai S U N rJ (k++bo) bv dW oN)(f9:gP H mF vs=ae->oN=dW):
 pA C 218 [.agg (cM U N),eS T cT mF,E,dG] U N rJ (k++bo) H dW oN:=by
 intro u s v n F p R d0 dl a9;refine RK.hq ?_ (by simp[au.pl,ek]);have fn:j2 2 (.agg (cM U N))=aa (.aH ab (cM U N) 0):=rfl;have fy:∀R,aQ 2 ad (.aH ab (cM U N) 0) R=aa (.agg (cM U N)):=λ_=>rfl;have aR:(cM U N)[0]?=aa (.b8 U):=rfl;have cc:∀z:aK,(AV.agg [g (cT z) 0,g (cT z) 1,g (cT z) 2,g (cT z) 3])=.agg (cT z):=λ_=>rfl;have ce:∀z:aK,g (cT z) 0=.str z.aF:=λ_=>rfl
 have gv:∀af:aG,(AV.agg [g (cV af) 0,g (cV af) 1,g (cV af) 2])=.agg (cV af):=λ_=>rfl;have a4:=a9.alloc (.arr 0 1 (([]:List d).map cS));simp only[fn,O,fh,e4,aX];refine kT (am2 U N n F H mF vs s v (u++(k++bo++p))) (λgo bi=>?_) (λg0 a3 ex=>?_)
 ·refine bG (K:=Nat×List d×List aG×AV×aL×List Obj) (λc=>[c.2.2.2.1,tt,I c.1]) (λc=>c.2.2.2.2.2) (λc=>Z mF -c.1) (λc=>c.1<=Z mF/\Z c.2.1=Z c.2.2.1/\Z c.2.1<=c.1/\(∀bD∈c.2.1,bD∉H.aA)/\bB c.2.2.2.1 cS 1 c.2.1 c.2.2.2.2.1/\Holds c.2.2.2.2.2 (c.2.2.2.2.1++(e5 U N n F (jb H c.2.1 c.2.2.1) s v++(u++(k++bo++p))))/\gP H mF vs=gP (jb H c.2.1 c.2.2.1) (mF.drop c.1) (vs.drop c.1)) (0,[],[],.q (Z R) 0 0 0,[(Z R,.arr 0 1 (([]:List d).map cS))],R++[.arr 0 1 []]) ⟨by simp,rfl,by simp,by simp,bB.of (x:=([]:List d)),by rw[M7];exact a4,by rw[M7]<;>rfl⟩ ?_
  clear a4 a9;rintro⟨f,e,w,X,m,B⟩ ⟨d6,P,bb,W,L,j,o⟩ f5 Q;simp only at d6 P bb W L j o Q⊢;simp only[G,i,A,O,a,bz];refine b (λh=>?_) (λh=>?_)
  ·have h:f<Z mF:=by simpa using h
   have be:f<Z vs:=by omega
   have em:Z (jb H e w).bH=Z (jb H e w).aA:=by simp[jb,bm,P]
   have d4:mF.drop f=mF[f]::mF.drop (f+1):=by simp
   have d5:vs.drop f=vs[f]::vs.drop (f+1):=by simp
   rw[d4,d5,gP]at o;have am:Holds B (e5 U N n F (jb H e w) s v++(m++(u++(k++bo++p)))):=j.swap;have a6:Holds B (k++(m++(e5 U N n F (jb H e w) s v++(u++(bo++p))))):=by
    apply j.perm;rw[ht];exact((((qu u k _).append_left _).trans (qu _ k _)).append_left m).trans (qu m k _)
   simp only[aE h (kt _),lM,ya,fy,O,cc];refine eV _ (Ih (jb H e w) s v mF[f] em) ?_ ?_ ?_;exact .ck (Ey am) (.ck eu (.nil _));exact .aB _ (.cons _ _ (.agg _ (.cons _ _ (.int _ _) (.cons _ _ (.int _ _) (.cons _ _ (.str _) .nil)))) (.cons _ _ (.bool _) .nil));simp only[fK,dj,eH,O,xZ,bI,gv,ce];refine b (λy=>?_) (λy=>?_)
   ·have y:(cD (jb H e w) mF[f]).2=false:=by simpa using y
    rw[y,if_neg (by simp),am1]at o;have Y:=y;rw[nP]at Y;simp only[known,jb,Jb,beq_eq_false_iff_ne,ne_eq,decide_eq_false_iff_not,dt,not_or]at Y;simp only[bh,aJ,fY,aR,O];apply au.at a6 be;have ac:=am.get (U:=U) (gF:=oE n (H.aA++e) (H.bH++w)) (by simp[e5,jb]);apply aI (amV vs[f] ac (by simp[Y.2.1,Y.2.2]))
    have d3:Holds (B.set U (oE n (H.aA++e++[mF[f].aF]) (H.bH++w++[vs[f]]))) (e5 U N n F (jb H (e++[mF[f].aF]) (w++[vs[f]])) s v++(m++(u++(k++bo++p)))):=by
     have:=Holds.set (U:=U) am (oE n (H.aA++e++[mF[f].aF]) (H.bH++w++[vs[f]]));simpa[e5,jb]using this
    generalize B.set U (oE n (H.aA++e++[mF[f].aF]) (H.bH++w++[vs[f]]))=f2 at*;refine aI (dW:=.sl ab [cS mF[f].aF]) rfl ?_;let⟨id,aj,cb,ah,ak⟩:=L.app (bytes:=16) d3.swap mF[f].aF rfl (by grind[Sm]);apply aY ah;rw[br.inc h,O];refine Q (f+1,e++[mF[f].aF],w++[vs[f]],_,[(id,.arr aj 1 ((e++[mF[f].aF]).map cS))],cb) ⟨h,by simp[P],by grind,λbD ge=>?_,bB.of,ak,o⟩ (by omega);grind
   have y:(cD (jb H e w) mF[f]).2=true:=by simpa using y
   rw[y,if_pos rfl]at o;apply au.at a6 be;simp only[QY,O];refine b (λM=>?_) (λM=>?_);have M:(cD (jb H e w) mF[f]).1≠vs[f]:=by simpa using M
   rw[if_neg M]at o;exact bi _ _ ⟨e,w,X,m,ab,_,_,_,rfl,P,W,by omega,(λh=>by cases h),λ_=>o,L,j⟩;have M:(cD (jb H e w) mF[f]).1=vs[f]:=by simpa using M
   rw[if_pos M]at o;rw[br.inc h,O];exact Q (f+1,e,w,X,m,B) (by grind) (by omega)
  have:f=Z mF:=by simp at h;omega
  subst this;rw[qq,gP]at o;exact bi _ _ ⟨e,w,X,m,ad,_,_,_,rfl,P,W,bb,λ_=>o,(λh=>by cases h),L,j⟩
 ·obtain⟨e,w,X,m,ok,g1,g2,g3,rfl,P,W,f7,eq,gc,L,j⟩:=ex
  simp only[G,i];refine kT (λ_ h=>∃D t x V J,l1 H t x/\rJ oN D/\Holds h (m++(e5 U N V J (jb H e w) t x++(D++(k++bo++p))))) (λyG d9=>?_) (λgU a2 es=>?_);refine b (λh=>?_) (λh=>?_);let⟨ai,S,ah,ci,cl⟩:=fd _ (eq h);apply aY ah;have d2:Holds a3 (e5 U N n F (jb H e w) s v++(u++((k++bo)++(m++p)))):=j.M8;apply c4 (cl u s v n F (m++p) a3 (d0.ext e w) dl d2) ci;rintro r f3 ⟨D,t,x,V,J,co,cs,c1⟩
  exact d9 _ _ ⟨D,t,x,V,J,co.back,cs,c1.M9⟩;grind
  ·let⟨D,t,x,V,J,d1,ds,a5⟩:=es
   rw[L.ln a2,O];apply bG (K:=Nat×Bool×List Obj) (λc=>[I c.1]) (λc=>c.2.2) (λc=>Z e -c.1) (λc=>c.1<=Z e/\Holds c.2.2 (m++(e5 U N c.2.1 J (jb H (e.drop c.1) (w.drop c.1)) t x++(D++(k++bo++p))))) (0,V,a2) ⟨by simp,by simpa using a5⟩;clear a5 j;rintro⟨l,az,B⟩ ⟨d7,j⟩ f4 Q;simp only at d7 j Q⊢;simp only[G,A,O,a];refine b (λh=>?_) (λh=>?_)
   ·have h:l<Z e:=by simpa using h
    have d8:l<Z w:=by omega
    let⟨id,aj,ak,a0,c2⟩:=(L.gr j).at h;have f6:(cS e[l])[0]?=aa (.str e[l]):=rfl;have el:aQ 1 ab (.ptr id aj l 0) B=aa (.str e[l]):=by rw[c0 a0 c2]<;>rfl
    simp only[ak,el,bh,aJ,fY,aR,O];have ac:=j.swap.get (U:=U) (gF:=oE az (H.aA++e.drop l) (H.bH++w.drop l)) (by simp[e5,jb]);rw[oI h,oI d8]at ac;apply aI (amW ac (W _ (bn h)) bm);rw[aZ (by grind[Sm]),O];refine Q (l+1,ab,_) ⟨h,?_⟩ (by omega);have:=Holds.set (U:=U) j.swap (oE ab (H.aA++e.drop (l+1)) (H.bH++w.drop (l+1)))
    exact Holds.swap (k:=e5 U N ab J (jb H (e.drop (l+1)) (w.drop (l+1))) t x) this
   have:l=Z e:=by simp at h;omega
   subst this;refine⟨D,t,x,az,J,d1,ds,?_⟩;have a0:=j.sub;grind[List.drop_length,M7]
theorem Ye(g:Z H.az=Z H.aw)(c:bL∉H.aw):jT ⟨H.aA,H.bH,H.aw++[bL],H.az++[f]⟩ bL=f/\∀a∈H.aw,jT ⟨H.aA,H.bH,H.aw++[bL],H.az++[f]⟩ a=jT H a:=by
 refine⟨?_,λa b=>?_⟩;unfold jT;have h:H.aw.findIdx? (λa=>a==bL)=none:=by
  rw[y8];intro a b;simp only[beq_eq_false_iff_ne,ne_eq];rintro rfl;exact c b
 have e:(H.aw++[bL]).findIdx? (λa=>a==bL)=aa (Z H.aw):=by
  rw[aa2,h];simp[Fe]
 simp only[e,oK];rw[<-g,OY (c7 _)];simp;unfold jT;grind[List.findIdx?_eq_some_iff_getElem]
theorem l1.bind(h:l1 H p dU)(j:Z H.az=Z H.aw)(i:bL∉H.aw)(g:gD.Nodup)(k:∀a,a∈gD<->a∈p\/a=bL):
 l1 ⟨H.aA,H.bH,H.aw++[bL],H.az++[f]⟩ gD (λa=>if a=bL then f else dU a):=by
 let⟨l,e⟩:=Ye (f:=f) j i;refine⟨g,λa b=>?_⟩;by_cases c:a=bL;grind;have b:a∈H.aw:=by
  rcases dt.1 b with h|h;exact h;simp at h;exact absurd h c
 rw[if_neg c,e a b];exact⟨(k a).2 (.inl (h.aN a b).1),(h.aN a b).2⟩
theorem l1.unbind(h:l1 ⟨H.aA,H.bH,H.aw++[bL],H.az++[f]⟩ p dU)(g:Z H.az=Z H.aw)(e:bL∉H.aw):l1 H p dU:=by
 let⟨_,c⟩:=Ye (f:=f) g e;exact⟨h.nd,λb a=>by rw[<-c b a];exact h.aN b (by simp[a])⟩
def ik(b c d h g:Nat)(a:Bool)(f:Lit)(e:AV):aL:=[(d,.arr 0 1 [[e]]),(c,.arr 0 9 [bg a f]),(b,.arr 0 2 [cM h g])]
variable{dp mK:Nat}{P:Lit}{bF:List AV}
theorem am3{a:Nat}{x:Nat}
 (R:Z H.az=Z H.aw)(Q:P.bind≠[]->P.bind∉H.aw)(am:lL E []=aa (x,bF))(au:bF.map AV.pl=bF)(a0:pA C x bF mK a rJ k (kC H P bZ.aj) dW oN):
 pA C 219 [.ptr N 0 0 0,.ptr dp 0 0 0,.ptr U 0 0 0,.ptr z 0 0 0] mK a rJ ((dp,.arr 0 3 [cF F bZ])::(ik U N z mK a T P E++k)) H dW oN:=by
 intro j p f e d g a6 L ax v;apply SL.hq;have J:∀{n:bc}{p f j e d i},Holds i (e5 mK a e d n p f++(j++(((dp,.arr 0 3 [cF F bZ])::(ik U N z mK a T P E++k))++g)))->i[U]?=aa (.arr 0 2 [cM mK a])/\i[N]?=aa (.arr 0 9 [bg T P])/\i[z]?=aa (.arr 0 1 [[E]])/\i[dp]?=aa (.arr 0 3 [cF F bZ]):=λh=>
  ⟨h.get (by simp[ik]),h.get (by simp[ik]),h.get (by simp[ik]),h.get (by simp[ik])⟩
 have q:∀(w:List AV),[w][0]?=aa w:=λ_=>rfl;let⟨B,D,bb,G⟩:=J v;have X:(cM mK a)[0+1]?=aa (.b8 a):=rfl;have Y:(bg T P)[0+4]?=aa (.str P.bind):=rfl;have m:(cF F bZ)[0+2]?=aa (I bZ.aj):=rfl;simp only[eF D,eF B,eF G,c0 D (q _),c0 B (q _),c0 G (q _),X,Y,m,O,jE]
 refine kT (λ_ h=>∃c l,l1 (kC H P bZ.aj) c l/\Holds h (e5 mK a e d (kC H P bZ.aj) c l++(j++(((dp,.arr 0 3 [cF F bZ])::(ik U N z mK a T P E++k))++g)))) (λV a2=>?_) (λbe h a4=>?_);refine b (λh=>?_) (λh=>?_);have h:P.bind≠[]:=by simpa using h
 have a3:=v.get (U:=a) (gF:=vP d p f) (by simp[e5]);let⟨c,ac,af,ah⟩:=amX P.bind bZ.aj L.nd a3;refine aI ac (a2 _ _ ⟨c,(λo=>if o=P.bind then bZ.aj else f o),?_,?_⟩);rw[kC,if_neg h];exact L.bind R (Q h) af ah;rw[kC,if_neg h];have:=Holds.sD (k:=[(mK,oE e H.aA H.bH)]) (U:=a) (gF:=vP d p f) v (vP d c λo=>if o=P.bind then bZ.aj else f o);exact this;grind[kC];let⟨c,l,aF,M⟩:=a4;let⟨_,_,ak,_⟩:=J M
 rw[c0 ak (q _)];refine aI (dW:=E) rfl (aY am ?_);have aR:Holds h (e5 mK a e d (kC H P bZ.aj) c l++(j++(k++(((dp,.arr 0 3 [cF F bZ])::ik U N z mK a T P E)++g)))):=by
  refine M.perm (l7 _ (l7 _ ?_));have n:((dp,Obj.arr 0 3 [cF F bZ])::(ik U N z mK a T P E++k))++g=((dp,.arr 0 3 [cF F bZ])::ik U N z mK a T P E)++(k++g):=by simp
  rw[n];exact qu _ _ _
 apply c4 (a0 j c l e d _ h aF ax aR) au;rintro r a9 ⟨W,s,m,u,t,y,ai,A⟩;refine⟨W,s,m,u,t,?_,ai,?_⟩;by_cases h:P.bind=[];grind[kC];rw[kC,if_neg h]at y;exact y.unbind R (Q h);have n:e5 mK a u t (kC H P bZ.aj) s m=e5 mK a u t H s m:=by
  unfold e5;rw[VU,LZ]
 rw[n]at A;refine A.perm (l7 _ (l7 _ ?_));grind[cF,ik,List.perm_append_comm_assoc]
theorem Az(h:Z bF=U)(a:bF.all AV.bU=ad):nC U (.agg bF) M=aa (.ptr (Z M) 0 0 0,M++[.arr 0 U [bF]]):=by
 grind[nC,iT]
theorem obO_1(h:dO 1 E=aa [E]):nC 1 E M=aa (.ptr (Z M) 0 0 0,M++[.arr 0 1 [[E]]]):=by
 grind[nC]
def l2(d:D)(c:bc)(a:Lit)(b:List S):List bc:=(b.filter (j8 d a)).filterMap (q0 c a)
theorem EA(c:D)(a:bc)(b:Lit)(d e:List S):l2 c a b (d++e)=l2 c a b d++l2 c a b e:=by
 grind[l2]
variable{V:D}
theorem Na(h:∀a∈X,a.ah≠P.ah):l2 V H P X=[]:=by
 simp_all[l2,j8]
theorem am4(i:gj X)(d:Ij X P.ah U)(j:∀h:N<Z (X.drop U),(X.drop U)[N].ah≠P.ah):l2 V H P X=l2 V H P ((X.drop U).take N):=by
 have f:X=X.take U++((X.drop U).take N++(X.drop U).drop N):=by rw[vV,vV]
 conv=>lhs;rw[f,EA,EA]
 rw[Na,Na (X:=(X.drop U).drop N)];simp;intro e b;obtain⟨a,c,rfl⟩:=kg.1 b;simp only[rh]at c;simp only[OW];have l:N<Z (X.drop U):=by simp;omega
 have g:=j l;simp only[OW]at g;have n:=d.hi (U+N) (by omega) (by omega);have o:X[U+N].ah<=X[U+(N+a)].ah:=by
  by_cases k:a=0;subst k;grind;exact X8 (i (U+N) (U+(N+a)) (by omega) (by omega) (by omega))
 omega;intro e b;obtain⟨a,c,rfl⟩:=kg.1 b;simp only[h0]at c;simp only[Fj];have:=d.lo a (by omega) (by omega);omega
structure Yf(p:D)(r:aD)(fs:List S)(e:bc)(l:Lit):Prop where
 sm:eA p
 of:kA p
 aN:lV p
 fl:Sm fs
 Cg:∀f∈fs,dF f.af
 de:gj fs
 lit:D6 p r l
 j4:j4 e.aA l=ad
 af:Sm l.af
 len:Z e.bH=Z e.aA
 Ae:Z e.az=Z e.aw
 am5:∀f∈fs,f.ah=l.ah->Z f.af=Z l.af
 bind:l.bind≠[]->l.bind∉e.aw
 am6:∀t∈l.af,Sm (cD e t).1.s
theorem am7(b:gj X)(c:bZ∈X):X.find? (eL bZ.ah bZ.af)=aa bZ:=by
 rcases h:X.find? (eL bZ.ah bZ.af)with _|g;grind[eL];have a:=Jh h;simp only[eL,ba,beq_iff_eq,decide_eq_true_eq]at a;grind[yC]
theorem Holds.EB{a:aL}(h:Holds M (k++(bo++(hL++((jt++mI)++a))))):Holds M (jt++(k++(bo++(hL++(mI++a))))):=by
 apply h.perm;grind[List.append_assoc,List.perm_append_comm_assoc,trans]
theorem Holds.Yg(h:Holds M (k++(bo++(hL++(jt++mI))))):Holds M (bo++(hL++((k++jt)++mI))):=by
 rw[ht];exact h.perm (by grind[List.perm_append_comm_assoc])
theorem Holds.Yh(h:Holds M (bo++(hL++((k++jt)++mI)))):Holds M (k++(bo++(hL++(jt++mI)))):=by
 rw[ht]at h;exact h.perm (by grind[List.perm_append_comm_assoc])
theorem am8(h:U<Z X):l2 V H P (X.take (U+1))=l2 V H P (X.take U)++(if j8 V P X[U]=ad then(q0 H P X[U]).toList else[]):=by
 grind[List.take_succ_eq_append_getElem,EA,l2,j8,q0]
theorem pA.frame(h:pA C U bF N z rJ k H dW oN)(a:aL):pA C U bF N z rJ (a++k) H dW oN:=by
 intro e d i g f b c x w y;have v:Holds c (e5 N z g f H d i++(e++(k++(a++b)))):=by
  refine y.perm (l7 _ (l7 _ ?_));rw[ht];exact qu _ _ _
 let⟨r,j,q,m,l,p,o,n,s,t,u⟩:=h e d i g f (a++b) c x w v;refine⟨r,j,q,m,l,p,o,n,s,t,u.perm (l7 _ (l7 _ ?_))⟩;grind[List.perm_append_comm_assoc]
variable{rD:aK}
theorem Nb(b:P.ax=5)(a:P.af=[bR,rD]):ss V X H P=vu P.op (cD H bR).1 (cD H rD).1:=by
 unfold ss;rw[if_neg (by omega),if_neg (by omega),if_neg (by grind),a];rfl
theorem am9(h:P.ax≠5):kQ H P=H:=by
 grind[kQ]
theorem Yi(a:(P.ax==1||P.ax==3)=ab):gk V X H P=if ss V X (kQ H P) P=ad then[kQ H P]else[]:=by
 grind[gk]
theorem ana(b:P.ax=5)(c:P.af=[bR,rD])(g:Z H.bH=Z H.aA)(i:j4 H.aA P=ad):
 ((cD H bR).2=ad/\(cD H rD).2=ad/\gk V X H P=if vu P.op (cD H bR).1 (cD H rD).1=ad then[H]else[])\/
 ((cD H bR).2=ad/\(cD H rD).2=ab/\gk V X H P=[gO H rD (cD H bR).1])\/
 ((cD H bR).2=ab/\(cD H rD).2=ad/\gk V X H P=[gO H bR (cD H rD).1]):=by
 have p:(P.ax==1||P.ax==3)=false:=by rw[b];decide
 have l:(cD H bR).2=ab\/(cD H rD).2=ab->P.op=1:=by
  intro o;refine xG λn=>?_;unfold j4 at i;rw[if_neg (by grind),if_neg (by simp[n]),c]at i;simp only[oF,AO,y4,ba]at i;rw[<-nP,<-nP]at i;rcases o with h|h;grind;grind
 have m:∀f:aG,vu 1 f f=true:=λf=>by rw[vu,if_pos rfl,(TO.val.eq f f).2 rfl]<;>rfl
 rw[Yi p];rcases e:(cD H bR).2 with _|_;rcases a:(cD H rD).2 with _|_;simp_all[j4,aaW,aaX,OT,nP];refine .inr (.inr ⟨rfl,rfl,?_⟩);have d:=l (.inl e);have:kQ H P=gO H bR (cD H rD).1:=by
  unfold kQ;rw[c];simp only[e,a,b,d];simp
 have j:known H.aA rD=true:=by rw[<-nP];exact a
 have k:known H.aA bR=false:=by rw[<-nP];exact e
 rw[this,Nb b c,d,LV g k,LU (fI:=gO H bR (cD H rD).1) g rfl rfl j,if_pos (m _)];rcases a:(cD H rD).2 with _|_;refine .inr (.inl ⟨rfl,rfl,?_⟩);have d:=l (.inr a);have:kQ H P=gO H rD (cD H bR).1:=by
  unfold kQ;rw[c];simp only[e,a,b,d];simp
 have j:known H.aA bR=true:=by rw[<-nP];exact e
 have k:known H.aA rD=false:=by rw[<-nP];exact a
 rw[this,Nb b c,d,LV g k,LU g rfl rfl j,if_pos (m _)];refine .inl ⟨rfl,rfl,?_⟩;grind[kQ,Nb]
theorem Ik(a:List aG):NB (eS ab cV a):=by
 refine .sl _ ?_;induction a with
 |nil=>exact .nil
 |cons c a b=>exact .cons _ _ (.cons _ _ (.int _ _) (.cons _ _ (.int _ _) (.cons _ _ (.str _) .nil))) b
theorem Yj(b:aG)(a:Bool):NB (.aB [.agg (cV b),.bool a]):=.aB _ (.cons _ _ (.agg _ (.cons _ _ (.int _ _) (.cons _ _ (.int _ _) (.cons _ _ (.str _) .nil)))) (.cons _ _ (.bool _) .nil))
theorem withE_1(h:(cD H bR).2=ab):gP H [bR] [ju]=aa (gO H bR ju):=by
 grind[gP]
theorem anb{r:aD}
 (be:tG E k (cW T F bC c8 V X))(f:Yf V r X H P)(d7:lL dG []=aa (z,bF))(d8:bF.map AV.pl=bF)(f9:dG.pl=dG)(i7:dO 1 dG=aa [dG])(a0:K->bc->K)
 (ek:∀pre a2 es,gk V X H P=pre++a2::es->pA C z bF U N rJ (k++bo) a2 (pre.foldl a0 dW) (a0 (pre.foldl a0 dW) a2)):
 pA C 164 [E,.agg (cM U N),.agg (bg iF P),dG] U N rJ (k++bo) H dW ((gk V X H P).foldl a0 dW):=by
 intro M s m R Q au L a4 bD g7;refine SI.hq ?_ (by simp[be.pl,f9]);refine aY (Az rfl rfl) (aY (Az rfl rfl) (aY (obO_1 i7) ?_));have y:=((g7.alloc (.arr 0 2 [cM U N])).alloc (.arr 0 9 [bg iF P])).alloc (.arr 0 1 [[dG]]);simp only[gC,jY]at y⊢;generalize(L++[Obj.arr 0 2 [cM U N]]++[.arr 0 9 [bg iF P]]++[.arr 0 1 [[dG]]])=l at*;generalize Z L+1+1=v at*;generalize Z L+1=u at*;generalize Z L=o at*
 clear g7;replace y:Holds l (ik o u v U N iF P dG++(e5 U N R Q H s m++(M++((k++bo)++au)))):=y;have W:∀(g2:List AV),[g2][0]?=aa g2:=λ_=>rfl;have d9:∀{H:bc}{s m M R Q x J},Holds x (J++(ik o u v U N iF P dG++(e5 U N R Q H s m++(M++((k++bo)++au)))))->x[o]?=aa (.arr 0 2 [cM U N])/\x[u]?=aa (.arr 0 9 [bg iF P])/\x[v]?=aa (.arr 0 1 [[dG]]):=λh=>
  ⟨h.get (by simp[ik]),h.get (by simp[ik]),h.get (by simp[ik])⟩
 let⟨bb,t,bm⟩:=d9 (J:=[]) y;have f6:bT (cW T F bC c8 V X):=by simp[cW]
 have g3:(bg iF P)[0+0]?=aa (I P.ax):=rfl;have fd:(bg iF P)[0+2]?=aa (I P.ah):=rfl;have ce:(bg iF P)[0+3]?=aa (eS iF cT P.af):=rfl;have g4:(bg iF P)[0+6]?=aa (I P.iG):=rfl;have hH:(bg iF P)[0+7]?=aa (I P.op):=rfl;have ho:(cW T F bC c8 V X)[4]?=aa (eS bC (cF c8) X):=rfl;have m0:(bg iF P)[0]?=aa (I P.ax):=rfl;simp only[eF t,c0 t (W _),g3,O,c6]
 let n5:List AV->List Obj->Prop:=λ_ h=>∃ac Y ai aA az,l1 H Y ai/\rJ ((gk V X H P).foldl a0 dW) ac/\Holds h (ik o u v U N iF P dG++(e5 U N aA az H Y ai++(ac++((k++bo)++au))));have d5:∀j h,n5 j h->∃ac Y ai aA az,l1 H Y ai/\rJ ((gk V X H P).foldl a0 dW) ac/\Holds h (e5 U N aA az H Y ai++(ac++((k++bo)++au))):=λj h ⟨ac,Y,ai,aA,az,a6,bi,a9⟩=>⟨ac,Y,ai,aA,az,a6,bi,a9.sub⟩
 refine dA (M:=l) (P.ax==1||P.ax==3) (λeq hg=>b (λh=>kB hg (by rw[h]<;>rfl)) (λh=>kB hg (by rw[h]<;>rfl))) ?_;simp only[G];refine b (λci=>?_) (λci=>?_)
 ·have ha:gk V X H P=l2 V H P X:=by rw[gk,if_pos ci]<;>rfl
  refine be.rd (n:=4) y.EB ho ?_;let⟨aF,cl,nl,h3⟩:=amZ (T:=c8) (F:=bC) X P.ah f.fl f.de;simp only[eF t,c0 t (W _),fd,O];refine c h3 ?_;simp only[fK,dj,eH,O];refine kT n5 (λUx i3=>?_) d5;refine be.rd (n:=4) y.EB ho ?_;rw[HD (fB _) cl.le,O,aX,O];have id:∀e∈X.drop aF,e∈X:=λe a5=>List.mem_of_mem_drop a5;have m3:Z (X.drop aF)<=Z X:=by simp
  have i4:∀B,(∀h:B<Z (X.drop aF),(X.drop aF)[B].ah≠P.ah)->gk V X H P=l2 V H P ((X.drop aF).take B):=λB f7=>by rw[ha];exact am4 f.de cl f7
  have i8:∀B,∃es,gk V X H P=l2 V H P ((X.drop aF).take B)++es:=λB=>by
   rw[ha];have hO:X=X.take aF++((X.drop aF).take B++(X.drop aF).drop B):=by rw[vV,vV]
   refine⟨l2 V H P ((X.drop aF).drop B),?_⟩
   conv=>lhs;rw[hO,EA,EA]
   rw[Na (X:=X.take aF)];simp;intro e a5;obtain⟨eq,ek,rfl⟩:=kg.1 a5;simp only[h0]at ek;simp only[Fj];have:=cl.lo eq (by omega) (by omega);omega
  generalize X.drop aF=a3 at*
  refine bG (K:=Nat×aL×List d×(d->Int)×Bool×Bool×List Obj) (λam=>[I am.1]) (λam=>am.2.2.2.2.2.2) (λam=>Z a3 -am.1) (λam=>am.1<=Z a3/\l1 H am.2.2.1 am.2.2.2.1/\rJ ((l2 V H P (a3.take am.1)).foldl a0 dW) am.2.1/\Holds am.2.2.2.2.2.2 (ik o u v U N iF P dG++(e5 U N am.2.2.2.2.1 am.2.2.2.2.2.1 H am.2.2.1 am.2.2.2.1++(am.2.1++((k++bo)++au))))) (0,M,s,m,R,Q,l) ⟨by simp,a4,by simpa[l2]using bD,y⟩ ?_
  clear y bD a4 bb t bm cl;clear M s m R Q l;rintro⟨B,M,s,m,R,Q,L⟩ ⟨f7,a4,bD,y⟩ ms hn;simp only at f7 a4 bD y hn⊢;let⟨bb,t,bm⟩:=d9 (J:=[]) y;simp only[G,A,O,a];refine b (λh=>?_) (λh=>?_);have h:B<Z a3:=by simpa using h
  refine kT (λj h=>(∃hu,j=[hu])/\∃ac Y ai aA az,l1 H Y ai/\rJ ((l2 V H P (a3.take (B+1))).foldl a0 dW) ac/\Holds h (ik o u v U N iF P dG++(e5 U N aA az H Y ai++(ac++((k++bo)++au))))) (λUQ f8=>?_) (λj h4 p=>?_);have hm:=id _ (bn h);have hl:=am8 (V:=V) (H:=H) (P:=P) h;have m8:a3[B].ah≠P.ah->gk V X H P=l2 V H P (a3.take B):=λp=>i4 B (λ_=>p);let⟨es,ne⟩:=i8 (B+1);rw[aE h (fB _ _),O,ku,O]
  generalize a3[B]=e at*;refine aY rfl ?_;have f4:=y.alloc (.arr 0 3 [[I 0,.aq,I 0]]);have g5:=f4.get (U:=Z L) (gF:=.arr 0 3 [[I 0,.aq,I 0]]) (by simp);refine aI (stO_9 g5 rfl rfl rfl) ?_;have c1:=f4.set (.arr 0 3 [cF c8 e]);generalize(L++[Obj.arr 0 3 [[I 0,.aq,I 0]]]).set (Z L) (.arr 0 3 [cF c8 e])=d1 at*;clear g5 f4 y bb t bm;generalize Z L=cb at*
  let⟨bb,t,bm⟩:=d9 (J:=[(cb,.arr 0 3 [cF c8 e])]) c1;have d6:=c1.get (U:=cb) (gF:=.arr 0 3 [cF c8 e]) (by simp);have li:(cF c8 e)[0+0]?=aa (I e.ah):=rfl;have d0:(cF c8 e)[0+1]?=aa (eS c8 cV e.af):=rfl;simp only[eF t,eF d6,c0 t (W _),c0 d6 (W _),g3,fd,g4,li,d0,O,cv,c6];refine b (λp=>?_) (λp=>?_);have p:e.ah≠P.ah:=by simpa using p
  refine i3 _ _ ⟨M,s,m,R,Q,a4,?_,c1.tail⟩;grind;have p:e.ah=P.ah:=by simpa using p
  refine dA (M:=d1) (P.ax==3&& !sr V P.ah P.iG e.aj) (λn6 hh=>aV (λbr=>?_) (λbr=>kB hh (by rw[br]<;>rfl))) ?_;have g6:P.ax=3:=by simpa using br
  let⟨n,gc,dl,i5⟩:=f.lit.ah (by omega);let⟨gU,co,ge⟩:=f.lit.iG (.inl g6);rw[p,dl];rw[dl]at co;have f1:=Yc (T:=true) (F:=T) (bC:=F) (c8:=bC) (iF:=c8) (r:=c8) V X n gc e.af P.iG f.sm f.of f.fl f.Cg f.de co (f.aN gU (vz co)) ge;refine eV _ f1 ?_ (.bool _) ?_
  exact .ck (by rw[be.pl];exact be.mr (Holds.EB (k:=[(cb,.arr 0 3 [cF c8 e])]++ik o u v U N iF P dG) (by rw[ht];exact c1)) f6) (bT.snap (by simp));simp only[bI,O];refine kB hh ?_;have m4:yy V X (n:Int) e.af=e.aj:=by
   have:=am7 f.de hm;rw[p,dl]at this;rw[yy,this]
  grind;simp only[G];refine b (λem=>?_) (λem=>?_);have m9:j8 V P e=false:=by
   rw[ba]at em;have br:P.ax=3:=by simpa using em.1
   have cs:sr V P.ah P.iG e.aj=false:=by simpa using em.2
   simp[j8,br,cs]
  refine f8 _ _ ⟨⟨_,rfl⟩,M,s,m,R,Q,a4,?_,c1.tail⟩;grind;have jp:j8 V P e=true:=by
   simp only[j8,p,beq_self_eq_true,c3,h5,bne_iff_ne,ne_eq];by_cases br:P.ax=3;grind;omega
  rw[jp,if_pos rfl]at hl;have cc:aQ 2 ad (.ptr o 0 0 0) d1=aa (.agg (cM U N)):=mj bb rfl rfl;simp only[cc,eF t,eF d6,c0 t (W _),c0 d6 (W _),ce,d0,O,zz];have d2:Holds d1 (e5 U N R Q H s m++(M++(([]++((cb,.arr 0 3 [cF c8 e])::(ik o u v U N iF P dG++(k++bo))))++au))):=by
   have:Holds d1 (((cb,.arr 0 3 [cF c8 e])::ik o u v U N iF P dG)++(e5 U N R Q H s m++(M++((k++bo)++au)))):=c1;exact this.Yg
  have m7:=f.am5 e hm p;rw[hl,zd]at f8;have f2:=Yd (K:=K) (T:=iF) (U:=U) (N:=N) (rJ:=rJ) (E:=eS c8 cV e.af) (dG:=.fn 219 [] [.ptr u 0 0 0,.ptr cb 0 0 0,.ptr o 0 0 0,.ptr v 0 0 0]) (k:=[]) (bo:=(cb,.arr 0 3 [cF c8 e])::(ik o u v U N iF P dG++(k++bo))) (mF:=P.af) (vs:=e.af) (H:=H)
   (dW:=(l2 V H P (a3.take B)).foldl a0 dW) (oN:=(q0 H P e).toList.foldl a0 ((l2 V H P (a3.take B)).foldl a0 dW)) (.inl ⟨c8,rfl,rfl⟩) (by omega) f.len f.af rfl ?_ ?_
  refine c4 (f2 M s m R Q au d1 a4 bD d2) rfl ?_;rintro lm d4 ⟨ac,Y,ai,aA,az,a6,bi,a9⟩;refine f8 _ _ ⟨⟨_,rfl⟩,ac,Y,ai,aA,az,a6,bi,?_⟩;exact(Holds.Yh (k:=(cb,.arr 0 3 [cF c8 e])::ik o u v U N iF P dG) a9).tail;intro a2 ak;let⟨_,_,hs,md,_,_,_,_⟩:=Aa P.af e.af f.len ak;refine⟨219,_,rfl,rfl,am3 (by rw[hs,md];exact f.Ae) (λit=>by rw[hs];exact f.bind it) d7 d8 ?_⟩
  have m5:q0 H P e=aa (kC a2 P e.aj):=by rw[q0,ak]<;>rfl
  grind;grind[q0];obtain⟨⟨hu,rfl⟩,ac,Y,ai,aA,az,a6,bi,a9⟩:=p;rw[aZ (by have:=f.fl;grind[Sm]),O];exact hn (B+1,ac,Y,ai,aA,az,h4) ⟨h,a6,bi,a9⟩ (by omega);grind
 ·have d2:Holds l (e5 U N R Q H s m++(ik o u v U N iF P dG++(M++((k++bo)++au)))):=y.swap
  have cc:∀x,x[o]?=aa (.arr 0 2 [cM U N])->aQ 2 ad (.ptr o 0 0 0) x=aa (.agg (cM U N)):=λx g=>mj g rfl rfl;have he:∀(x:List Obj)(a2:bc),(gk V X H P=[a2])->a2=H->Holds x (ik o u v U N iF P dG++(e5 U N R Q H s m++(M++((k++bo)++au))))->HR C z bF x (λ_ h=>n5 [] h):=by
   intro x a2 ak i0 f5;subst i0;have br:=ek [] a2 [] (by grind) M s m R Q (ik o u v U N iF P dG++au) x a4 bD f5.M8;let⟨r,d4,d0,ac,Y,ai,aA,az,a6,bi,a9⟩:=br;refine⟨r,d4,d0,ac,Y,ai,aA,az,a6,?_,a9.M9⟩;rw[ak];exact bi
  have i6:gk V X H P=[]->n5 [] l:=λh=>⟨M,s,m,R,Q,a4,by rw[h];exact bD,y⟩;refine b (λbv=>?_) (λbv=>?_);have bv:P.ax=5:=by simpa using bv
  let⟨e,aR,c2⟩:∃e aR,P.af=[e,aR]:=by
   have:=(f.lit.cmp bv).1
   match m6:P.af with
   |[dW,T]=>grind
   |[]=>grind
   |[_]=>grind
   |_::_::_::_=>grind
  have kx:∀L,bP 4 (eS iF cT [e,aR]) (I 0) L=aa (.aH iF (cT e) 0):=λ_=>rfl;have lc:∀L,bP 4 (eS iF cT [e,aR]) (I 1) L=aa (.aH iF (cT aR) 0):=λ_=>rfl;have lt:∀L,fA (.sl 4) (eS iF cT [e,aR]) (aa (I 1)) ae L=aa (eS iF cT [aR]):=λ_=>rfl;have ls:∀L,fA (.sl 4) (eS iF cT [e,aR]) ae (aa (I 1)) L=aa (eS iF cT [e]):=λ_=>rfl;have gv:∀j:aG,(AV.agg [g (cV j) 0,g (cV j) 1,g (cV j) 2])=.agg (cV j):=λ_=>rfl
  have ak:=ana (V:=V) (X:=X) bv c2 f.len f.j4;have kl:=f.am6 e (by grind);simp only[cc _ bb,eF t,c0 t (W _),ce,c2,kx,lc,O,lM];refine eV _ (Ih H s m e f.len) (.ck (Ey d2) (bT.snap (by simp))) (Yj _ _) ?_;simp only[fK,dj,eH,O,xZ];refine eV _ (Ih H s m aR f.len) (.ck (Ey d2) (bT.snap (by simp))) (Yj _ _) ?_;simp only[dj,eH,O,xZ];refine kT n5 (λHo el=>?_) d5
  have el:∀j h,n5 [] h->Ho j h:=λj h p=>el j h p;rw[bz];have hj:∀(w:aK)(j:aG),(cD H w).2=ab->gk V X H P=[gO H w j]->Sm [w]->∀ex:List Obj->Prop,(∀h,n5 [] h->ex h)->∀x,x=l++[.arr 0 3 [cV j]]->ch C 218 [.agg (cM U N),eS iF cT [w],.q (Z l) 0 0 1,dG] x λ_ h=>ex h:=by
   intro w j kw i1 ke ex ii x f5;have io:Holds x ((Z l,.arr 0 3 [cV j])::(ik o u v U N iF P dG++(e5 U N R Q H s m++(M++((k++bo)++au))))):=by rw[f5];exact y.alloc _
   have ip:Holds x (e5 U N R Q H s m++(M++(([(Z l,.arr 0 3 [cV j])]++(ik o u v U N iF P dG++(k++bo)))++au))):=by
    have:Holds x (((Z l,.arr 0 3 [cV j])::ik o u v U N iF P dG)++(e5 U N R Q H s m++(M++((k++bo)++au)))):=io;exact this.Yg
   have f2:=Yd (K:=K) (T:=iF) (U:=U) (N:=N) (rJ:=rJ) (E:=.q (Z l) 0 0 1) (dG:=dG) (k:=[(Z l,.arr 0 3 [cV j])]) (bo:=ik o u v U N iF P dG++(k++bo)) (mF:=[w]) (vs:=[j]) (H:=H) (dW:=dW) (oN:=a0 dW (gO H w j)) (.inr (bB.of (x:=[j]))) (by simp) f.len ke f9 ?_ ?_;refine c4 (f2 M s m R Q au x a4 bD ip) (by simp[f9]) ?_;rintro lm d4 ⟨ac,Y,ai,aA,az,a6,bi,a9⟩;refine ii _ ⟨ac,Y,ai,aA,az,a6,?_,?_⟩;grind
   exact(Holds.Yh (k:=(Z l,.arr 0 3 [cV j])::ik o u v U N iF P dG) a9).tail;intro a2 gt;rw[withE_1 kw]at gt;simp only[e7]at gt;subst gt;refine⟨z,bF,d7,d8,?_⟩;have:=(ek [] _ [] (by simpa using i1)).frame ([(Z l,.arr 0 3 [cV j])]++ik o u v U N iF P dG);grind;grind[withE_1]
  have hk:∀j:aG,(l++[Obj.arr 0 3 [cV j]])[o]?=aa (.arr 0 2 [cM U N])/\(l++[Obj.arr 0 3 [cV j]])[u]?=aa (.arr 0 9 [bg iF P])/\(l++[Obj.arr 0 3 [cV j]])[v]?=aa (.arr 0 1 [[dG]]):=λj=>d9 (J:=[(Z l,.arr 0 3 [cV j])]) (y.alloc _);rcases ak with⟨a5,ds,ak⟩|⟨a5,ds,ak⟩|⟨a5,ds,ak⟩;simp only[a5,ds];refine aV (λ_=>?_) (λh=>by cases h);simp only[G,i];refine a8 ?_;simp only[eF t,c0 t (W _),hH,O,gv]
  refine c (amY P.op (cD H e).1 (cD H aR).1 kl) ?_;refine b (λg9=>?_) (λg9=>?_);rw[g9,if_pos rfl]at ak;rw[c0 bm (W _)];refine aI (dW:=dG) rfl (aY d7 ?_);refine c4 (he l H ak rfl y) d8 ?_;grind;grind;let⟨g0,d3,g1⟩:=hk (cD H e).1;simp only[a5,ds];refine aV (λ_=>?_) (λh=>by cases h);simp only[G,i];refine bw (a8 ?_);simp only[cc _ bb,eF t,c0 t (W _),ce,c2,lt,c0 bm (W _),dj,O,gv]
  refine aY (dW:=.q (Z l) 0 0 1) (oR:=l++[.arr 0 3 [cV (cD H e).1]]) rfl ?_;simp only[cc _ g0,eF d3,c0 d3 (W _),ce,c2,c0 g1 (W _),dj,O,mg,true_and];exact hj aR _ ds ak (by simp[Sm]) _ (λh p=>el _ h p) _ rfl;let⟨g0,d3,g1⟩:=hk (cD H aR).1;simp only[a5,ds];refine aV (λh=>by cases h) (λ_=>?_);simp only[G,i];refine bw (bw (a8 ?_));simp only[cc _ bb,eF t,c0 t (W _),ce,c2,ls,c0 bm (W _),dj,O,gv]
  refine aY (dW:=.q (Z l) 0 0 1) (oR:=l++[.arr 0 3 [cV (cD H aR).1]]) rfl ?_;simp only[cc _ g0,eF d3,c0 d3 (W _),ce,c2,c0 g1 (W _),dj,O,mg,true_and];exact hj e _ a5 ak (by simp[Sm]) _ (λh p=>el _ h p) _ rfl;have bv:P.ax≠5:=by simpa using bv
  have ak:gk V X H P=if ss V X H P=ad then[H]else[]:=by rw[Yi ci,am9 bv]
  let⟨aF,cl,h1⟩:=MZ (T:=true) (F:=T) (bC:=F) (c8:=bC) (iF:=c8) (d:=false) V X P.ah (j7 H P.af) f.fl f.Cg f.de (Ii f.de _);simp only[cc _ bb,eF t,c0 t (W _),fd,ce,O];refine eV _ (X7 H s m P.af f.len f.af) (.ck (Ey d2) (bT.snap (by simp))) (Ik _) ?_;refine eV _ h1 (.ck (by rw[be.pl];exact be.mr y.EB f6) (bT.snap (by simp))) (.aB _ (.cons _ _ (.int _ _) (.cons _ _ (.bool _) .nil))) ?_
  simp only[fK,dj,eH,O];refine dA (M:=l) (ss V X H P) (λn7 i2=>?_) ?_;have m2:∀(cs:P.ax=4)(mp:Prop->Prop),True:=λ_ _=>trivial;by_cases f3:P.ax=2;have i9:ss V X H P= !kd X ⟨P.ah,j7 H P.af,0⟩ aF:=by
   rw[ss,if_neg (by omega),if_pos f3];rcases g8:kd X ⟨P.ah,j7 H P.af,0⟩ aF with _|_;let⟨d0,_⟩:=M6 f.de cl g8;grind;let⟨_,d0,_⟩:=M5 cl g8;grind
  have f0:(P.ax==4)=false:=by rw[f3];decide
  have fy:(P.ax==2)=true:=by rw[f3];decide
  simp only[bI,O];refine aV (λ_=>?_) (λh=>absurd (fy.symm.trans h) (by decide));refine dH (λp=>?_) (λp=>?_);exact aV (λh=>absurd (f0.symm.trans h) (by decide)) (λ_=>kB i2 (by rw[i9,p]));grind;have cs:P.ax=4:=by
   have:=f.lit.ax;have m1:P.ax≠1:=λh=>by rw[h]at ci;simp at ci
   have g6:P.ax≠3:=λh=>by rw[h]at ci;simp at ci
   omega
  have f0:(P.ax==4)=true:=by rw[cs];decide
  have fy:(P.ax==2)=false:=by rw[cs];decide
  let⟨n,gc,dl,i5⟩:=f.lit.ah (by omega);let⟨gU,co,ge⟩:=f.lit.iG (.inr cs);rw[dl]at co;have f1:=Yc (T:=true) (F:=T) (bC:=F) (c8:=bC) (iF:=c8) (r:=false) V X n gc (j7 H P.af) P.iG f.sm f.of f.fl f.Cg f.de co (f.aN gU (vz co)) ge;simp only[g4,O];refine aV (λh=>absurd (fy.symm.trans h) (by decide)) (λ_=>aV (λ_=>?_) (λh=>absurd (f0.symm.trans h) (by decide)));rw[dl]
  refine eV _ f1 (.ck (by rw[be.pl];exact be.mr y.EB f6) (bT.snap (by simp))) (.bool _) ?_;simp only[bI,O];grind[ss];simp only[G];refine b (λgo=>?_) (λgo=>?_);rw[go,if_pos rfl]at ak;rw[c0 bm (W _)];refine aI (dW:=dG) rfl (aY d7 ?_);refine c4 (he l H ak rfl y) d8 ?_;exactλr d4 p=>d5 [] _ p;rw[go,if_neg (by decide)]at ak;exact d5 [] _ (i6 ak)
variable{b0:Type}
theorem Nc{e:Type}(c:b0->List e)(d:K->e->K):∀(b:List b0)(a:K),(b.flatMap c).foldl d a=b.foldl (λa x=>(c x).foldl d a) a
 |[],_=>rfl
 |x::b,a=>by rw[aa3,zd,Nc c d b]<;>rfl
structure EC(p:D)(r:aD)(fs:List S)(cf:List aG):Prop where
 sm:eA p
 of:kA p
 aN:lV p
 fl:Sm fs
 Cg:∀f∈fs,dF f.af
 de:gj fs
 iU:Ad p r
 meet:∀l∈r.ai,yA fs l cf
 aj:∀f∈fs,gw p f
 Ec:∀v∈cf,Sm v.s
 af:∀l∈r.ai,Sm l.af
structure Ch(p:D)(r:aD)(cf:List aG)(done:List Nat)(V:List d)(e:bc):Prop where
 aA:e.aA=V
 len:Z e.bH=Z V
 cf:∀v∈e.bH,v∈cf
 aN:vD p r done e
theorem Ch.lit{r:aD}{done:List Nat}(a:EC V r X aP)(h:Ch V r aP done p H)(g:r.ai[U]?=aa P)(u:U∉done)(o:j4 p P=ad):Yf V r X H P:=by
 have c:P∈r.ai:=qp g;have i:Z H.bH=Z H.aA:=by rw[h.len,h.aA]
 refine⟨a.sm,a.of,a.aN,a.fl,a.Cg,a.de,a.iU.lits P c,by rw[h.aA];exact o,a.af P c,i,h.aN.len,(a.meet P c).len,λl b=>?_,λe q=>?_⟩;rw[h.aN.aw,xE]at b;let⟨k,t,b⟩:=b;rcases j:r.ai[k]? with _|m;grind;rw[j]at b;simp only at b;split at b;cases b
 rename_i n;have:=a.iU.one U k P m g j l n;grind;cases f:known H.aA e with
 |true=>exact a.Ec _ (LY i h.cf ((a.meet P c).yB e q) f)
 |false=>
  have s:(cD H e).2=false:=by rw[nP];exact f
  grind[cD,Sm,zV]
variable{fI:bc}
theorem Ch.next{r:aD}{done:List Nat}(b:EC V r X aP)(h:Ch V r aP done p H)(c:r.ai[U]?=aa P)(g:j4 p P=ad)(e:fI∈gk V X H P):Ch V r aP (done++[U]) (c9 p P.af) fI:=by
 have f:P∈r.ai:=qp c;have a:=(L0 (V:=V) (b.meet P f) h.aA h.len h.cf).1 fI e;rw[V3 g]at a;exact⟨a.1,a.2.1,a.2.2.2,vD.step b.iU b.aj c (by rw[h.len,h.aA]) h.aN e⟩
def xp(c d e a i16 b:Nat):List AV:=[.ptr a 0 0 0,.ptr e 0 0 0,.ptr i16 0 0 0,.ptr c 0 0 0,.ptr d 0 0 0,.ptr b 0 0 0]
def kW(c d e a i16 b h g:Nat)(j ev:AV)(f:Bool)(r:aD)(i:List Nat):aL:=
 [(b,.arr 0 1 [[.fn 163 [] (xp c d e a i16 b)]]),(i16,.arr 0 2 [cM h g]),(a,.arr 0 1 [[eS ab cN i]]),(e,.arr 0 1 [[ev]]),(d,.arr 0 9 [aS f r]),(c,.arr 0 1 [[j]])]
variable{hK:Nat × Obj}
theorem Holds.toEnd(h:Holds M (hK::(k++(bo++(hL++jt))))):Holds M (k++(bo++(hL++(hK::jt)))):=Holds.M8 (k:=[hK]) h
theorem Holds.Yk(h:Holds M (k++(bo++(hL++(hK::jt))))):Holds M (hK::(k++(bo++(hL++jt)))):=Holds.M9 (k:=[hK]) h
section
variable{α:Type}{i3 i4 i5 i10 i16 i18 mv me:Nat}{b:Bool}{A:α->aL->Prop}{wv ev:AV}{Y Xe:aL}{r:aD}{o:List Nat}
theorem anc{e k:α}(G:N<1000)(h:pA C 163 (I ((N+1:Nat):Int)::xp i3 i4 i5 i10 i16 i18) mv me A (Y++(kW i3 i4 i5 i10 i16 i18 mv me wv ev b r o++Xe)) H e k):
 pA C 165 [.ptr i18 0 0 0,.ptr U 0 0 0] mv me A (Y++((U,.arr 0 1 [[I (N:Int)]])::(kW i3 i4 i5 i10 i16 i18 mv me wv ev b r o++Xe))) H e k:=by
 intro d c i g f a n D B j;apply R3.hq;have y:=j.get (U:=i18) (gF:=.arr 0 1 [[.fn 163 [] (xp i3 i4 i5 i10 i16 i18)]]) (by simp[kW]);have z:=j.get (U:=U) (gF:=.arr 0 1 [[I (N:Int)]]) (by simp);have m:∀(l:List AV),[l][0]?=aa l:=λ_=>rfl;simp only[c0 y (m _),c0 z (m _),dj,O,aZ (show N<4611686018427387904 by omega)];apply aY (dW:=163) (oR:=I ((N+1:Nat):Int)::xp i3 i4 i5 i10 i16 i18) rfl
 have E:(e5 mv me g f H c i++(d++((Y++((U,Obj.arr 0 1 [[I (N:Int)]])::(kW i3 i4 i5 i10 i16 i18 mv me wv ev b r o++Xe)))++a))).Perm (e5 mv me g f H c i++(d++((Y++(kW i3 i4 i5 i10 i16 i18 mv me wv ev b r o++Xe))++((U,.arr 0 1 [[I (N:Int)]])::a)))):=by
  refine l7 _ (l7 _ ?_);rw[ht Y,ht Y];apply l7 _;exact(qu [(U,Obj.arr 0 1 [[I (N:Int)]])] (kW i3 i4 i5 i10 i16 i18 mv me wv ev b r o++Xe) a)
 apply c4 (h d c i g f _ n D B (j.perm E)) rfl;rintro J F ⟨q,p,u,t,s,v,w,x⟩;refine⟨q,p,u,t,s,v,w,x.perm ?_⟩;refine l7 _ (l7 _ ?_);rw[ht Y,ht Y];apply l7 _;exact(qu [(U,Obj.arr 0 1 [[I (N:Int)]])] (kW i3 i4 i5 i10 i16 i18 mv me wv ev b r o++Xe) a).symm
theorem ane{E:List AV}(k:EC V r X aP)(bi:tG wv Y (cW b T F bC V X))(ci:lL ev [.agg (cM mv me)]=aa (U,E))(cl:E.map AV.pl=E)
 (m:α->bc->α)(a0:List bc)(u:α)(co:∀pre j p,a0=pre++j::p->pA C U E mv me A Xe j (pre.foldl m u) (m (pre.foldl m u) j))(em:Z o<=100)(e:Bool):
 ∀{done:List Nat}{t:List d}{v:List Nat},Seq r.ai done t v->∀(a:List Nat)(f:bc)(pre p:List bc),o=a++v->Ch V r aP done t f->a0=pre++(kR V X r.ai v f++p)->
  pA C 163 (I (Z a:Int)::xp i3 i4 i5 i10 i16 i18) mv me A (Y++(kW i3 i4 i5 i10 i16 i18 mv me wv ev e r o++Xe)) f (pre.foldl m u) ((kR V X r.ai v f).foldl m (pre.foldl m u)):=by
 intro done t v h;have l:∀(a3:List AV),[a3][0]?=aa a3:=λ_=>rfl;have rd:∀{c:List Obj}{aR:aL},Holds c (aR)->(∀j∈kW i3 i4 i5 i10 i16 i18 mv me wv ev e r o,j∈aR)->c[i10]?=aa (.arr 0 1 [[eS ab cN o]])/\c[i5]?=aa (.arr 0 1 [[ev]])/\c[i16]?=aa (.arr 0 2 [cM mv me])/\c[i3]?=aa (.arr 0 1 [[wv]])/\c[i4]?=aa (.arr 0 9 [aS e r]):=λh k=>
  ⟨h.get (k _ (by simp[kW])),h.get (k _ (by simp[kW])),h.get (k _ (by simp[kW])),h.get (k _ (by simp[kW])),h.get (k _ (by simp[kW]))⟩
 have br:∀c:List Obj,c[i16]?=aa (.arr 0 2 [cM mv me])->aQ 2 ad (.ptr i16 0 0 0) c=aa (.agg (cM mv me)):=λc g=>mj g rfl rfl;induction h with
 |nil out t=>
  intro a f pre p P ax bb z x L J G q s am ak au;apply KS.hq;apply aY (obO_1 (E:=I (Z a:Int)) rfl);have n:=au.alloc (.arr 0 1 [[I (Z a:Int)]]);generalize s++[Obj.arr 0 1 [[I (Z a:Int)]]]=c at*;generalize Z s=i at*;have aj:=n.get (U:=i) (gF:=.arr 0 1 [[I (Z a:Int)]]) (by simp);let⟨W,ah,ac,a5,af⟩:=rd n (by simp_all);have az:(Z a:Int)=Z o:=by rw[P];simp
  simp only[c0 aj (l _),c0 W (l _),c0 ah (l _),br _ ac,dj,O,aX,c6,Bm];refine a8 (aY ci ?_) (by simp[az]);have a6:=(co pre f p (by grind[kR])).frame (Y++kW i3 i4 i5 i10 i16 i18 mv me wv ev e r o);rw[ht]at a6;apply c4 (a6 z x L J G _ c am ak n.toEnd) cl;rintro d5 aF ⟨B,y,M,K,H,Q,a4,R⟩;exact⟨B,y,M,K,H,Q,a4,R.Yk.tail⟩
 |cons out t aA w bm N ds be h d2=>
  intro a f pre p P ax bb z x L J G q s am ak au;apply KS.hq;apply aY (obO_1 (E:=I (Z a:Int)) rfl);have n:=au.alloc (.arr 0 1 [[I (Z a:Int)]]);generalize s++[Obj.arr 0 1 [[I (Z a:Int)]]]=c at*;generalize Z s=i at*;have aj:=n.get (U:=i) (gF:=.arr 0 1 [[I (Z a:Int)]]) (by simp);let⟨W,ah,ac,a5,af⟩:=rd n (by simp_all);have c1:Z a<Z o:=by rw[P];simp
  have c2:o[Z a]=aA:=by subst P;simp
  have az:((Z a:Int)==Z o)=false:=by simp;omega
  let⟨cs,dl⟩:=fH.1 N;have bv:(aS e r)[0+7]?=aa (eS e (bg e) r.ai):=rfl;simp only[c0 aj (l _),c0 W (l _),c0 ah (l _),c0 a5 (l _),eF af,c0 af (l _),bv,br _ ac,dj,O,aX,c6,Bm];refine bw ?_ az;rw[aE c1 (G5 _)];simp only[O,aJ,wT,c2];rw[aE cs (jC _ _)];simp only[O,o8,dl,zz];have ce:kR V X r.ai (aA::w) f=(gk V X f bm).flatMap (kR V X r.ai w):=by rw[kR,N]
  rw[ce]at bb⊢;have cb:=anb (K:=α) (iF:=e) (U:=mv) (N:=me) (rJ:=A) (dG:=.fn 165 [] [.ptr i18 0 0 0,.ptr i 0 0 0]) (bo:=(i,.arr 0 1 [[I (Z a:Int)]])::(kW i3 i4 i5 i10 i16 i18 mv me wv ev e r o++Xe)) (dW:=pre.foldl m u) bi (ax.lit k N ds be) (z:=165) (bF:=[.ptr i18 0 0 0,.ptr i 0 0 0]) rfl rfl rfl rfl (λa2 j=>(kR V X r.ai w j).foldl m a2) ?_
  have cc:Holds c (e5 mv me J G f x L++(z++((Y++((i,.arr 0 1 [[I (Z a:Int)]])::(kW i3 i4 i5 i10 i16 i18 mv me wv ev e r o++Xe)))++q))):=by
   refine n.toEnd.perm (l7 _ (l7 _ ?_));rw[ht Y,ht Y];apply l7 _;exact(qu [(i,Obj.arr 0 1 [[I (Z a:Int)]])] (kW i3 i4 i5 i10 i16 i18 mv me wv ev e r o++Xe) q).symm
  apply c4 (cb z x L J G q c am ak cc) (by simp[bi.pl]);rintro d5 aF ⟨B,y,M,K,H,Q,a4,R⟩;refine⟨B,y,M,K,H,Q,?_,?_⟩;grind[Nc];have bD:Holds aF (e5 mv me K H f y M++(B++((Y++(kW i3 i4 i5 i10 i16 i18 mv me wv ev e r o++Xe))++((i,.arr 0 1 [[I (Z a:Int)]])::q)))):=by
   refine R.perm (l7 _ (l7 _ ?_));rw[ht Y,ht Y];apply l7 _;exact(qu [(i,Obj.arr 0 1 [[I (Z a:Int)]])] (kW i3 i4 i5 i10 i16 i18 mv me wv ev e r o++Xe) q)
  exact bD.Yk.tail
  ·intro d4 j d6 d0
   have d1:j∈gk V X f bm:=by rw[d0];simp
   have a9:=d2 (a++[aA]) j (pre++d4.flatMap (kR V X r.ai w)) (d6.flatMap (kR V X r.ai w)++p) (by grind) (ax.next k N be d1) (by grind);rw[zd,Nc]at a9;rw[gC,jY]at a9;grind[anc]
end
def tH(c:Nat)(a:Nat->Bool):List (List AV):=(ay c).map λb=>cB (a b)
theorem Yl(a:Nat->Bool)(h:N<U):(tH U a)[N]?=aa (cB (a N)):=by simp[tH,h]
theorem anf(a:Nat->Bool)(c b:Nat)(d:Bool):(tH c a).set b (cB d)=tH c (Go.Law.bW a b d):=by
 refine y6 λe=>?_;grind[Go.Law.bW,tH]
def tI(d:AV)(a:List Nat)(c:aL):Prop:=(a=[]/\d=.aq/\c=[])\/∃id g b,d=.q id g 0 (Z a)/\Z a<=Z b/\b.take (Z a)=a.map cN/\c=[(id,.arr g 1 b)]
def yP(a:Nat×List Nat):List AV:=[.q a.1 0 0 (Z a.2)]
def ED(a:Nat×List Nat):Nat×Obj:=(a.1,.arr 0 1 (a.2.map cN))
def xq(e:AV)(c:List (List Nat))(d:aL):Prop:=∃a b,c=a.map Prod.snd/\bB e yP 1 a b/\d=b++a.map ED
variable{bu:List Nat}
theorem tI.pl(h:tI E bu k):E.pl=E/\E.bU=true:=by
 rcases h with⟨-,rfl,-⟩|⟨id,g,a,rfl,-⟩<;>exact⟨rfl,rfl⟩
variable{fo:List (List Nat)}
theorem xq.pl(h:xq E fo k):E.pl=E/\E.bU=true:=by
 let⟨a,b,_,h,_⟩:=h;exact⟨h.pl,h.cell⟩
structure tJ where
 c:Nat
 x:Nat
 jx:Nat
 l:Nat
 jl:Nat
 o:Nat
 jo:Nat
 s:Nat
 n:Nat
 v:Nat
 u:Nat
 e:Nat
 je:Nat
def one(a:AV):Obj:=.arr 0 1 [[a]]
def pt(a:Nat):AV:=.ptr a 0 0 0
def tJ.Il(a:tJ):List AV:=[pt a.c,pt a.x,pt a.l,pt a.o,pt a.s,pt a.n,pt a.v,pt a.u,pt a.e]
def dD(a:tJ)(b:Nat)(f:Nat->List Nat)(d:TS)(j i:AV)(h g:aL):aL:=
 (a.c,one (I (d.count:Int)))::(a.x,one (.q a.jx 0 0 b))::(a.jx,.arr 0 1 (gR b d.aR))::(a.l,one (.q a.jl 0 0 b))::(a.jl,.arr 0 1 (gR b d.cb))::(a.o,one (.q a.jo 0 0 b))::(a.jo,.arr 0 1 (tH b d.eZ))::
  (a.s,one j)::(a.n,one (eS ab cG ((ay b).map f)))::(a.v,one (.fn 123 [] a.Il))::(a.u,one i)::(a.e,one (.q a.je 0 0 b))::(a.je,.arr 0 1 (gR b d.of))::(h++g)
section
variable{d:tJ}{n:Nat}{G:Nat->List Nat}{s:TS}{sv ov:AV}{PS PO F:aL}{H:List Obj}
theorem xr(h:Holds H (dD d n G s sv ov PS PO++F)){a:AV}(b:(U,one a)∈dD d n G s sv ov PS PO):aQ 1 ab (pt U) H=aa a:=gA (h.get (gF:=one a) (by grind)) rfl
theorem Nd(h:Holds H (dD d n G s sv ov PS PO++F)):aQ 1 ab (pt d.c) H=aa (I (s.count:Int)):=xr h (by simp[dD])
theorem Io(h:Holds H (dD d n G s sv ov PS PO++F)):aQ 1 ab (pt d.x) H=aa (.q d.jx 0 0 n):=xr h (by simp[dD])
theorem EE(h:Holds H (dD d n G s sv ov PS PO++F)):aQ 1 ab (pt d.l) H=aa (.q d.jl 0 0 n):=xr h (by simp[dD])
theorem Ci(h:Holds H (dD d n G s sv ov PS PO++F)):aQ 1 ab (pt d.o) H=aa (.q d.jo 0 0 n):=xr h (by simp[dD])
theorem Nf(h:Holds H (dD d n G s sv ov PS PO++F)):aQ 1 ab (pt d.s) H=aa sv:=xr h (by simp[dD])
theorem ang(h:Holds H (dD d n G s sv ov PS PO++F)):aQ 1 ab (pt d.n) H=aa (eS ab cG ((ay n).map G)):=xr h (by simp[dD])
theorem Ym(h:Holds H (dD d n G s sv ov PS PO++F)):aQ 1 ab (pt d.v) H=aa (.fn 123 [] d.Il):=xr h (by simp[dD])
theorem Ng(h:Holds H (dD d n G s sv ov PS PO++F)):aQ 1 ab (pt d.u) H=aa ov:=xr h (by simp[dD])
theorem Yn(h:Holds H (dD d n G s sv ov PS PO++F)):aQ 1 ab (pt d.e) H=aa (.q d.je 0 0 n):=xr h (by simp[dD])
theorem Nh(h:Holds H (dD d n G s sv ov PS PO++F)):H[d.jx]?=aa (.arr 0 1 (gR n s.aR)):=h.get (by simp[dD])
theorem Ni(h:Holds H (dD d n G s sv ov PS PO++F)):H[d.jl]?=aa (.arr 0 1 (gR n s.cb)):=h.get (by simp[dD])
theorem Nj(h:Holds H (dD d n G s sv ov PS PO++F)):H[d.jo]?=aa (.arr 0 1 (tH n s.eZ)):=h.get (by simp[dD])
theorem Nk(h:Holds H (dD d n G s sv ov PS PO++F)):H[d.je]?=aa (.arr 0 1 (gR n s.of)):=h.get (by simp[dD])
theorem Cj{d w:AV}{a b:aL}(h:Holds H (a++(U,one d)::b))(c:w.pl=w/\w.bU=ad):du 1 (pt U) w H=aa (H.set U (one w))/\Holds (H.set U (one w)) (a++(U,one w)::b):=
 ⟨lF (h.get (gF:=one d) (by simp)) rfl (by omega) c.1 c.2,Holds.sD h _⟩
theorem anh(h:Holds H (dD d n G s sv ov PS PO++F))(b:Nat):∃a,du 1 (pt d.c) (I (b:Int)) H=aa a/\Holds a (dD d n G {s with count:=b} sv ov PS PO++F):=
 ⟨_,Cj (a:=[]) h ⟨rfl,rfl⟩⟩
theorem Yo(h:Holds H (dD d n G s sv ov PS PO++F)){w:AV}(b:w.pl=w/\w.bU=ad):∃a,du 1 (pt d.s) w H=aa a/\Holds a (dD d n G s w ov PS PO++F):=
 ⟨_,Cj (a:=[_,_,_,_,_,_,_]) h b⟩
theorem ani(h:Holds H (dD d n G s sv ov PS PO++F)){w:AV}(b:w.pl=w/\w.bU=ad):∃a,du 1 (pt d.u) w H=aa a/\Holds a (dD d n G s sv w PS PO++F):=
 ⟨_,Cj (a:=[_,_,_,_,_,_,_,_,_,_]) h b⟩
theorem anj(h:Holds H (dD d n G s sv ov PS PO++F))(c:U<n)(a:Nat):∃b,du 1 (.ptr d.jx 0 U 0) (I (a:Int)) H=aa b/\Holds b (dD d n G {s with aR:=Go.Law.bW s.aR U a} sv ov PS PO++F):=
 ⟨_,Ex a (Nh h) c,Holds.sD (k:=[_,_]) h _⟩
theorem Nl(h:Holds H (dD d n G s sv ov PS PO++F))(c:U<n)(a:Nat):∃b,du 1 (.ptr d.jl 0 U 0) (I (a:Int)) H=aa b/\Holds b (dD d n G {s with cb:=Go.Law.bW s.cb U a} sv ov PS PO++F):=
 ⟨_,Ex a (Ni h) c,Holds.sD (k:=[_,_,_,_]) h _⟩
theorem ank(h:Holds H (dD d n G s sv ov PS PO++F))(c:U<n)(a:Nat):∃b,du 1 (.ptr d.je 0 U 0) (I (a:Int)) H=aa b/\Holds b (dD d n G {s with of:=Go.Law.bW s.of U a} sv ov PS PO++F):=
 ⟨_,Ex a (Nk h) c,Holds.sD (k:=[_,_,_,_,_,_,_,_,_,_,_,_]) h _⟩
theorem Yp(h:Holds H (dD d n G s sv ov PS PO++F))(c:U<n)(a:Bool):∃b,du 1 (.ptr d.jo 0 U 0) (.bool a) H=aa b/\Holds b (dD d n G {s with eZ:=Go.Law.bW s.eZ U a} sv ov PS PO++F):=by
 refine⟨_,?_,Holds.sD (k:=[_,_,_,_,_,_]) h _⟩;rw[Eo (Nj h) (Yl _ c) (by simp[cB]) rfl rfl];have:(cB (s.eZ U)).set 0 (.bool a)=cB a:=rfl;rw[this,anf]
theorem xt(h:Holds H (dD d n G s sv ov PS PO++F))(a:U<n):bP 1 (.q d.jx 0 0 n) (I (U:Int)) H=aa (.ptr d.jx 0 U 0)/\aQ 1 ab (.ptr d.jx 0 U 0) H=aa (I (s.aR U:Int)):=⟨fw (Nh h) a,Ce (Nh h) a⟩
theorem xu(h:Holds H (dD d n G s sv ov PS PO++F))(a:U<n):bP 1 (.q d.jl 0 0 n) (I (U:Int)) H=aa (.ptr d.jl 0 U 0)/\aQ 1 ab (.ptr d.jl 0 U 0) H=aa (I (s.cb U:Int)):=⟨fw (Ni h) a,Ce (Ni h) a⟩
theorem anl(h:Holds H (dD d n G s sv ov PS PO++F))(a:U<n):bP 1 (.q d.je 0 0 n) (I (U:Int)) H=aa (.ptr d.je 0 U 0):=fw (Nk h) a
theorem Ip(h:Holds H (dD d n G s sv ov PS PO++F))(a:U<n):bP 1 (.q d.jo 0 0 n) (I (U:Int)) H=aa (.ptr d.jo 0 U 0)/\aQ 1 ab (.ptr d.jo 0 U 0) H=aa (.bool (s.eZ U)):=⟨fw (Nj h) a,by rw[c0 (Nj h) (Yl _ a)]<;>rfl⟩
theorem anm(c:U<n)(H:List Obj):bP 1 (eS ab cG ((ay n).map G)) (I (U:Int)) H=aa (.aH ab (cG (G U)) 0):=by
 have:=aE (T:=false) (a7:=cG) (x:=(ay n).map G) (U:=U) (M:=H) (N:=1) (by grind) rfl;grind
end
theorem ann(h:tI E bu k)(c:Holds M (k++bo))(a:Nat)(i:Z bu<1000000):
 ∃f e d,cJ 1 8 E (.sl ab [cN a]) M=aa (f,d)/\tI f (bu++[a]) e/\Holds d (e++bo):=by
 rcases h with⟨rfl,rfl,rfl⟩|⟨id,g,b,rfl,j,m,rfl⟩;refine⟨_,_,_,pe rfl rfl (by simp),.inr ⟨Z M,0,[cN a],rfl,by simp,by simp,rfl⟩,Holds.alloc c _⟩;have l:=c.get (U:=id) (gF:=.arr g 1 b) (by simp);refine⟨.q id (g+1) 0 (Z bu+1),[(id,.arr (g+1) 1 (b.take (Z bu)++[cN a]))],M.set id (.arr (g+1) 1 (b.take (Z bu)++[cN a])),?_,.inr ⟨id,g+1,_,by simp,by simp;omega,?_,rfl⟩,Holds.set c _⟩
 have n:h6 M 1 (.sl ab [cN a])=aa [cN a]:=rfl;grind[cJ,AV.isNil];grind
theorem ano(h:tI E bu k)(b:Holds M (k++bo)):aM M .cd E (eS ad cN bu):=by
 rcases h with⟨rfl,rfl,rfl⟩|⟨id,g,a,rfl,e,d,rfl⟩;exact .aq _ _;have c:=b.get (U:=id) (gF:=.arr g 1 a) (by simp);refine .wc id g 0 (Z bu) 1 a _ c (by omega) ?_;rw[lq,d];have:pW (bu.map cN):=by
  clear b c e d;induction bu with
  |nil=>exact .nil
  |cons i bu f=>exact .cons _ _ (UY i) f
 exact this.snap
theorem anp(a:Bool)(b:List Nat):eS a cN b=eS a cI (b.map λ(c:Nat)=>(c:Int)):=by
 simp_all[eS,cN,cI]
theorem anq(h:U∈bu):b2 (λe:Int=>((U:Int)==e)) (bu.map λ(d:Nat)=>(d:Int))=(bu.idxOf U:Nat):=by
 have i:=ar5 h;refine ue (by grind) (λc g b=>?_) ?_;rw[xD,beq_eq_false_iff_ne];intro a;have a:U=bu[c]'(by omega):=by omega
 have f:=List.not_of_lt_findIdx b;grind;simp
theorem anr(h:tI E bu k)(b:Holds M (k++bo))(c:U∈bu)(g:Z bu<1000000)(d:kh (I (bu.idxOf U:Nat))):cp C 77 [E,I (U:Int)] M kh:=by
 have a:=T2 (T:=true) (bu.map λ(e:Nat)=>(e:Int)) (U:Int) (by grind[Sm]);rw[anq c,<-anp]at a;refine eV _ a ?_ (.int _ _) d;simp only[ej,ns,h.pl.1];exact .ck (ano h b) (.ck (.int _ _ _) (.nil _))
def Ck(a:tJ)(b:Nat)(f:Nat->List Nat)(d:TS)(h g:AV):aL:=
 [(a.c,one (I (d.count:Int))),(a.x,one (.q a.jx 0 0 b)),(a.jx,.arr 0 1 (gR b d.aR)),(a.l,one (.q a.jl 0 0 b)),(a.jl,.arr 0 1 (gR b d.cb)),(a.o,one (.q a.jo 0 0 b)),(a.jo,.arr 0 1 (tH b d.eZ)),
  (a.s,one h),(a.n,one (eS ab cG ((ay b).map f))),(a.v,one (.fn 123 [] a.Il)),(a.u,one g),(a.e,one (.q a.je 0 0 b)),(a.je,.arr 0 1 (gR b d.of))]
section
variable{d:tJ}{n:Nat}{G:Nat->List Nat}{s:TS}{sv ov:AV}{PS PO F:aL}{H:List Obj}
theorem Iq:dD d n G s sv ov PS PO++F=Ck d n G s sv ov++(PS++(PO++F)):=by
 have:dD d n G s sv ov PS PO=Ck d n G s sv ov++(PS++PO):=rfl;rw[this,ht,ht]
theorem Ir(h:Holds H (dD d n G s sv ov PS PO++F)):Holds H (PS++(Ck d n G s sv ov++(PO++F))):=by
 grind[Iq,Holds.swap]
theorem ans(h:Holds H (PS++(Ck d n G s sv ov++(PO++F)))):Holds H (dD d n G s sv ov PS PO++F):=by
 rw[Iq];exact Holds.swap h
theorem Yq(h:Holds H (dD d n G s sv ov PS PO++F)):Holds H (PO++(Ck d n G s sv ov++(PS++F))):=by
 rw[Iq]at h;exact h.perm (by grind[List.perm_append_comm_assoc])
theorem ant(h:Holds H (PO++(Ck d n G s sv ov++(PS++F)))):Holds H (dD d n G s sv ov PS PO++F):=by
 rw[Iq];exact h.perm (by grind[List.perm_append_comm_assoc])
end
def dQ(a:List Nat):List Nat:=(ay (a.foldl max 0+1)).filter λb=>y (b∈a)
theorem anu:∀{b a:Nat},a<=b\/a∈bu->a<=bu.foldl max b:=by
 induction bu with
 |nil=>grind
 |cons d bu c=>
  intro b a h;rw[np];apply c;grind
theorem Cm(a:List Nat)(b:Nat):b∈dQ a<->b∈a:=by
 simp only[dQ,l5,iz,decide_eq_true_eq];grind[anu]
theorem Yr(a:List Nat):(dQ a).Pairwise (· <·):=aaS.sublist I8
theorem anv{a:List Nat}(d:a.Perm bu)(b:bu.Nodup)(e:a.Pairwise (· <=·)):a=dQ bu:=by
 refine L4 ?_ (Yr bu) (by grind[Cm]);have c:=d.symm.nodup b;exact(e.and c).imp λh=>by omega
structure EF(C:fu):Prop where
 anw:∀{H:List Obj}{id g off m:Nat}{es:List (List AV)},H[id]?=aa (.arr g 1 es)->off+m<=Z es->0<m->m<=1000000->C 124 [.q id g off m] H (.q (Z H+1) 0 0 m) (H++[.arr 0 1 [],.arr 0 1 ((es.drop off).take m)])
def Nn(j:tJ)(b:Nat)(h:Nat->List Nat)(a:TS)(g:aL)(r:AV)(i:List Obj):Prop:=
 r=.aB []/\a.count+a.nS b<=b/\∃f e d c,tI f a.bD d/\xq e a.out c/\Holds i (dD j b h a f e d c++g)
variable{b1:List (List AV)}
theorem anx(h:b1.take (Z bu)=bu.map cN):(b1.drop U).take (Z bu -U)=(bu.drop U).map cN:=by
 rw[Ja,<-h,OP]
theorem Ys(h:U∈bu):bu.idxOf U<Z bu:=by grind
theorem anz(a:List Nat):a.map cN=gR (Z a) (λb=>a.getD b 0):=by
 grind[List.ext_getElem,gR,List.length_map,List.getD]
theorem anA(a:Nat->Nat)(b:Nat):gR b a=(mx a b).map cN:=by simp_all[gR,mx]
theorem anB(a:List Nat):mx (λb=>a.getD b 0) (Z a)=a:=by
 refine qs (by simp[mx]) λe c d=>?_;grind[mx]
theorem anC(f c d:Nat×Obj)(e a b:aL):(f::(e++(a++d::c::b))).Perm (f::((e++[c])++(a++d::b))):=by
 rw[ht];exact .cons _ (l7 _ (((List.Perm.swap c d b).append_left a).trans asb))
variable{ed:Nat -> List Nat}{ga:TS}
theorem anD(ce:EF C){i:tJ}(hh:U<=1000)(aA:N∈ga.bD)(hn:∀ac∈ga.bD,ac<U)(hj:ga.bD.Nodup)(d0:Z (ga.bD.drop (ga.bD.idxOf N))<=12)(hk:Z ga.out<=1000)(hg:Z ga.bD<=1000)
 (d6:ga.count+ga.nS U<=U){H:List Obj}(F:tI E ga.bD bo)(a6:xq dG ga.out hL)(h:Holds H (dD i U ed ga E dG bo hL++k))(Q:AV->List Obj->Prop)(d5:∀r ah,Nn i U ed (ga.pop dQ N) k r ah->Q r ah):
 bd (aQ 1 ab (pt i.s) H) λf5=>
 cp C 77 [f5,I (N:Int)] H λbi=>
 bd (aQ 1 ab (pt i.s) H) λf6=>
 bd (fA (.sl 1) f6 (aa bi) ae H) λf7=>
 ch C 124 [f7] H λL S=>
 bd (aQ 1 ab (pt i.s) S) λf8=>
 bd (fA (.sl 1) f8 ae (aa bi) S) λf9=>
 bd (du 1 (pt i.s) f9 S) λax=>
 bd (gu .sl L ax) λgc=>
 jB (λP v Hu=>
 bd (aT .s .lss (g P 0) gc) λge=>
 ez ge (
 bd (bP 1 L (g P 0) v) λgo=>
 bd (aQ 1 ab go v) λbm=>
 bd (aQ 1 ab (pt i.e) v) λgt=>
 bd (aQ 1 ab (pt i.o) v) λbr=>
 bd (aQ 1 ab (pt i.u) v) λgU=>
 bd (gu .sl gU v) λg0=>
 bd (bP 1 gt bm v) λg1=>
 bd (du 1 g1 g0 v) λT=>
 (
 bd (aQ 1 ab (pt i.o) T) λg2=>
 ob g2 br)/\(
 bd (bP 1 br bm T) λf0=>
 bd (du 1 f0 ff T) λc2=>
 bd (aT .s .add (g P 0) (I 1)) λf1=>
 Hu [f1] c2)) (
 ch C 125 [L] v λho am=>
 bd (aQ 1 ab (pt i.u) am) λf2=>
 bd (fS 1 [.aq] 1 [(0,L)]) λf3=>
 cq (cJ 1 24 f2 f3 am) λf4 dl=>
 bd (du 1 (pt i.u) f4 dl) λds=>
 Q (.aB []) ds)) [(I 0)] ax:=by
 rw[Nf h,O];apply anr F (Ir h) aA (by omega);rw[O];have g9:=Ys aA;obtain⟨id,g,l,rfl,he,fn,rfl⟩:∃id g l,E=.q id g 0 (Z ga.bD)/\Z ga.bD<=Z l/\l.take (Z ga.bD)=ga.bD.map cN/\bo=[(id,.arr g 1 l)]:=by
  rcases F with⟨g8,-,-⟩|F;grind;exact F
 have a9:=(Ir h).get (U:=id) (gF:=.arr g 1 l) (by simp);rw[Ht a9 (z:=ga.bD.idxOf N) (by omega),O];generalize el:Z ga.bD -ga.bD.idxOf N=m;have a5:Z (ga.bD.drop (ga.bD.idxOf N))=m:=by simp;omega
 have aF:=ce.anw (H:=H) (id:=id) (g:=g) (off:=ga.bD.idxOf N) (m:=m) a9 (by omega) (by omega) (by omega);refine⟨_,_,aF,?_⟩;have aR:(l.drop (ga.bD.idxOf N)).take m=(ga.bD.drop (ga.bD.idxOf N)).map cN:=by rw[<-el];exact anx fn
 rw[aR];generalize d8:ga.bD.drop (ga.bD.idxOf N)=c at a5 d0 aR⊢;generalize d9:Z H+1=j;have aj:H++[Obj.arr 0 1 [],Obj.arr 0 1 (c.map cN)]=(H++[.arr 0 1 []])++[.arr 0 1 (c.map cN)]:=by simp
 have D:Holds ((H++[.arr 0 1 []])++[.arr 0 1 (c.map cN)]) (dD i U ed ga (.q id g 0 (Z ga.bD)) dG [(id,.arr g 1 l)] hL++((j,.arr 0 1 (c.map cN))::k)):=by
  have:=Holds.alloc (h.app [.arr 0 1 []]) (.arr 0 1 (c.map cN));simp only[gC,jY,d9]at this;exact(by grind[Holds.front,dD])
 rw[aj];clear aF aj;generalize(H++[Obj.arr 0 1 []])++[Obj.arr 0 1 (c.map cN)]=g3 at D⊢;dsimp only;rw[Nf D,O];have em:=(Ir D).get (U:=id) (gF:=.arr g 1 l) (by simp);rw[VJ em (z:=ga.bD.idxOf N) (by omega),O];let⟨bv,ci,d1⟩:=Yo D (w:=.q id g 0 (ga.bD.idxOf N)) ⟨rfl,rfl⟩;rw[ci,O,oa,O];have ex:tI (.q id g 0 (ga.bD.idxOf N)) (ga.bD.take (ga.bD.idxOf N)) [(id,.arr g 1 l)]:=by
  refine .inr ⟨id,g,l,?_,?_,?_,rfl⟩;grind;grind;grind[List.length_take,Nat.min_eq_left,List.map_take]
 have ha:∀ac∈c,ac<U:=by grind
 apply bG (K:=Nat×List Obj) (λt=>[I (t.1:Int)]) (λt=>t.2) (λt=>m -t.1) (λt=>t.1<=m/\Holds t.2 (dD i U ed {ga with of:=λd=>if d∈c.take t.1 then Z ga.out else ga.of d,eZ:=λd=>if d∈c.take t.1 then ab else ga.eZ d} (.q id g 0 (ga.bD.idxOf N)) dG [(id,.arr g 1 l)] hL++((j,.arr 0 1 (c.map cN))::k))) (0,bv) ⟨by simp,by simpa using d1⟩;rintro⟨f,g4⟩ ⟨ek,p⟩ g6 bb;simp only at ek p bb⊢;simp only[G,A,O,a]
 refine b (λY=>?_) (λW=>?_);have Y:f<m:=by simpa using Y
 have a2:f<Z c:=by omega
 have a0:=p.get (U:=j) (gF:=.arr 0 1 (c.map cN)) (by simp);rw[fw a0 (show f<m from Y),O,c0 a0 (bF:=cN c[f]) (by simp[a2])];rw[show(cN c[f])[0]?=aa (I (c[f]:Int))from rfl,O,Yn p,O,Ci p,O,Ng p,O];let⟨n,cc,V,X,az⟩:=a6;have J:c[f]<U:=by simp_all
 have a3:Z n=Z ga.out:=by rw[V];simp
 rw[X.ln,O,anl p J,O,a3];let⟨cb,cl,w⟩:=ank p J (Z ga.out);rw[cl,O,Ci w,O];refine⟨rfl,?_⟩;rw[(Ip w J).1,O];let⟨M,R,x⟩:=Yp w J ab;rw[R,O,aZ,O];refine bb (f+1,M) ⟨by omega,?_⟩ (by omega);have ak:∀{af:Type}(K:af)(y:Nat->af),Go.Law.bW (λd=>if d∈c.take f then K else y d) c[f] K=λd=>if d∈c.take (f+1)then K else y d:=by
  intro af K y
  funext d
  rw[iy a2];simp only[Go.Law.bW,dt,l6];by_cases ai:d=c[f];simp[ai];simp[ai]
 simp only at x⊢;rw[ak,ak]at x;exact x;have W:f=m:=by simp at W;omega
 subst W;rw[gT (by omega)]at p;rw[anz c,a5]at p;have es:=amN (id:=j) (g:=0) (U:=f) (kj:=λfy=>c.getD fy 0) (k:=dD i U ed {ga with of:=λd=>if d∈c then Z ga.out else ga.of d,eZ:=λd=>if d∈c then ab else ga.eZ d} (.q id g 0 (ga.bD.idxOf N)) dG [(id,.arr g 1 l)] hL++k) (by omega) (Holds.back p);apply c4 es rfl;rintro r cb ⟨rfl,c1,hl,hm,w⟩;have d7:c.Nodup:=by grind
 have a4:mx c1 f=dQ c:=by
  refine anv ?_ d7 ?_;grind[anB];grind[mx,List.Pairwise.imp_of_mem,List.pairwise_lt_range]
 have fd:Z (dQ c)=f:=by rw[<-a4];simp[mx]
 rw[anA,a4]at w;have au:=Holds.front (k:=dD i U ed {ga with of:=λd=>if d∈c then Z ga.out else ga.of d,eZ:=λd=>if d∈c then ab else ga.eZ d} (.q id g 0 (ga.bD.idxOf N)) dG [(id,.arr g 1 l)] hL) w;rw[Ng au,O];rw[show fS 1 [.aq] 1 [(0,.q j 0 0 f)]=aa (.sl ab [yP (j,dQ c)])by rw[yP,fd]<;>rfl,O];let⟨n,cc,V,X,az⟩:=a6;have a3:Z n=Z ga.out:=by rw[V];simp
 have x:=Yq au;rw[az,ht]at x;let⟨B,z,M,R,d2⟩:=bB.app (bytes:=24) X x (j,dQ c) rfl (by omega);apply aY R;have d3:Holds M (dD i U ed {ga with of:=λd=>if d∈c then Z ga.out else ga.of d,eZ:=λd=>if d∈c then ab else ga.eZ d} (.q id g 0 (ga.bD.idxOf N)) dG [(id,.arr g 1 l)] ((B,.arr z 1 ((n++[(j,dQ c)]).map yP))::(n++[(j,dQ c)]).map ED)++k):=by
  apply ant;apply d2.perm;rw[hJ (f:=ED)];exact(by grind[anC,ED,dQ])
 let⟨g5,co,d4⟩:=ani d3 (w:=.q B z 0 (Z (n++[(j,dQ c)]))) ⟨rfl,rfl⟩;rw[co,O];have cs:ga.pop dQ N={ga with bD:=ga.bD.take (ga.bD.idxOf N),eZ:=λd=>if d∈c then ab else ga.eZ d,of:=λd=>if d∈c then Z ga.out else ga.of d,out:=ga.out++[dQ c]}:=by
  rw[TS.pop,d8]
 have eq:xq (.q B z 0 (Z (n++[(j,dQ c)]))) (ga.out++[dQ c]) ((B,.arr z 1 ((n++[(j,dQ c)]).map yP))::(n++[(j,dQ c)]).map ED):=
  ⟨n++[(j,dQ c)],[(B,.arr z 1 ((n++[(j,dQ c)]).map yP))],by grind,bB.of,rfl⟩
 apply d5 _ _;rw[cs];exact⟨rfl,d6,_,_,_,_,ex,eq,d4⟩
theorem Yt(b:Inv ed U ga bu):ga.bD.Nodup/\(∀a∈ga.bD,a<U)/\Z ga.bD<=U:=by
 have d:ga.bD.Nodup:=b.gm.imp (by grind);have e:∀a∈ga.bD,a<U:=λa c=>b.lt a (b.kV a c);simp_all[FL]
def yQ(a:List (List Nat)):Prop:=∀g∈a,g.Pairwise (· <·)/\g≠[]
structure Yu(d:tJ)(n:Nat)(G:Nat->List Nat)(F:aL)(f:Nat)(s0:TS)(gr:List Nat)(a:Nat)(dl:Nat)(i:Nat)(t:TS)(sv ov:AV)(PS PO:aL)(H:List Obj):Prop where
 le:i<=Z (G a)
 ci:ql G n s0 t gr a ((G a).take i)
 eq:sE dQ G f a (G a) (s0.enter a)=sE dQ G f a ((G a).drop i) t
 wh:t.nS n<=f
 cw:t.count+t.nS n<=n
 ol:Z t.out+(dl+1)<=t.count
 ok:yQ t.out
 st:tI sv t.bD PS
 ou:xq ov t.out PO
 hH:Holds H (dD d n G t sv ov PS PO++F)
theorem anE(f7:EF C){q:tJ}(g4:U<=1000)(d1:∀D,D<U->∀N∈ed D,N<U)(go:∀D,Z (ed D)<=100000)(ge:∀af:List Nat,af.Nodup->(∀D∈af,∀N∈af,hW ed D N)->Z af<=12):
 ∀(p d:Nat)(j:TS)(z:List Nat)(dl:Nat)(ah M:AV)(S J:aL)(Q:List Obj),Inv ed U j z->j.aR d=0->d<U->(∀g∈z,hW ed g d)->j.nS U<=p->j.count+j.nS U<=U->Z j.out+dl<=j.count->yQ j.out->tI ah j.bD S->xq M j.out J->
  Holds Q (dD q U ed j ah M S J++k)->HR C 123 [I (d:Int),pt q.c,pt q.x,pt q.l,pt q.o,pt q.s,pt q.n,pt q.v,pt q.u,pt q.e] Q (λr R=>Nn q U ed (ja dQ ed p d j) k r R/\Z (ja dQ ed p d j).out+dl<=(ja dQ ed p d j).count/\yQ (ja dQ ed p d j).out):=by
 intro p;induction p with
 |zero=>
  intro d j z dl ah M S J Q Y T t a3 hm;have:=H9 (ga:=j) t T;omega
 |succ p ho=>
  intro d j z dl ah M S J Q Y T t a3 hm h4 it g9 hj g7 h;have i2:=H9 (ga:=j) t T;have gU:=XO Y T t a3;have g0:j.count+1+(j.enter d).nS U<=U:=by omega
  let⟨ip,ii,i0⟩:=Yt Y;apply afr.hq;rw[Nd h,O,aZ,O];let⟨fn,cl,F⟩:=anh h (j.count+1);rw[cl,O,Io F,O,EE F,O,Ci F,O,Nd F,O,O,(xt F t).1,O];let⟨fy,co,K⟩:=anj F t (j.count+1);rw[co,O];refine⟨by rw[Nd K,O]<;>rfl,by rw[Ci K,O]<;>rfl,by rw[EE K,O]<;>rfl,?_⟩;rw[(xu K t).1,O];let⟨f0,cs,V⟩:=Nl K t (j.count+1);rw[cs,O];refine⟨by rw[Ci V,O]<;>rfl,?_⟩;rw[(Ip V t).1,O];let⟨f1,c1,aF⟩:=Yp V t ad
  rw[c1,O,Nf aF,O,BJ,O];let⟨ex,ce,f2,c2,d9,d0⟩:=ann hj (Ir aF) d (by omega);apply aY c2;let⟨cc,ds,W⟩:=Yo (ans d0) d9.pl;rw[ds,O];replace W:Holds cc (dD q U ed (j.enter d) ex M ce J++k):=W;clear F K V aF d0 cl co cs c1 c2 ds fn fy f0 f1 f2;rw[ang W,O,anm t,O,aJ,show(cG (ed d))[0]?=aa (eS ab cN (ed d))from rfl,O,aX,O]
  refine bG (K:=Nat×TS×AV×AV×aL×aL×List Obj) (λy=>[I (y.1:Int)]) (λy=>y.2.2.2.2.2.2) (λy=>Z (ed d) -y.1) (λy=>Yu q U ed k p j z d dl y.1 y.2.1 y.2.2.1 y.2.2.2.1 y.2.2.2.2.1 y.2.2.2.2.2.1 y.2.2.2.2.2.2) (0,j.enter d,ex,M,ce,J,cc) ⟨by simp,by simpa using gU,by simp,by simp only;omega,by simp only;exact g0,by simp only;show Z j.out+(dl+1)<=j.count+1;omega,g9,d9,g7,W⟩ ?_
  rintro⟨m,f,br,bi,au,ak,f3⟩ i hO es;simp only at i es⊢;simp only[G,A,O,a];have id:=i.le;refine b (λa6=>?_) (λg2=>?_);have d6:m<Z (ed d):=by simpa using a6
  have P:(ed d)[m]∈ed d:=bn d6;have B:=d1 d t _ P;have a9:(ed d).take (m+1)=(ed d).take m++[(ed d)[m]]:=by simp
  have a2:(ed d).drop m=(ed d)[m]::(ed d).drop (m+1):=by simp
  have d4:=go d;refine kT (λfd w=>fd=[I ((ed d)[m]:Int)]/\∃bv bm be am aj,Yu q U ed k p j z d dl (m+1) bv bm be am aj w) (λi4 a5=>?_) ?_;have h:=i.hH;rw[aE (a7:=cN) (N:=1) d6 rfl,O,aJ,show(cN (ed d)[m])[0]?=aa (I ((ed d)[m]:Int))from rfl,O,Io h,O,(xt h B).1,O,(xt h B).2,O,c6,O];refine b (λH=>?_) (λH=>?_);have E:f.aR (ed d)[m]=0:=by simpa using H
  have d5:∀g∈z++[d],hW ed g (ed d)[m]:=by
   intro g a4;rcases dt.1 a4 with w|w;exact(a3 g w).trans (.hy P);simp at w;subst w;exact .hy P
  have em:=Ia Cm d1 p _ f (z++[d]) i.ci.inv E B d5 i.wh;rw[Ym h,O];apply aY (dW:=123) (oR:=[I ((ed d)[m]:Int),pt q.c,pt q.x,pt q.l,pt q.o,pt q.s,pt q.n,pt q.v,pt q.u,pt q.e]) rfl;apply c4 (ho _ f (z++[d]) (dl+1) br bi au ak f3 i.ci.inv E B d5 i.wh i.cw i.ol i.ok i.st i.ou h) rfl;rintro r hw ⟨⟨-,g1,hu,hs,f6,f5,hk,g8,L⟩,he,ha⟩
  rw[EE L,O,O,(xu L t).1,O,(xu L t).2,O,O,(xu L B).1,O,(xu L B).2,O,MI,O,O];rw[show min ((ja dQ ed p (ed d)[m] f).cb d:Int) ((ja dQ ed p (ed d)[m] f).cb (ed d)[m]:Int)=((min ((ja dQ ed p (ed d)[m] f).cb d) ((ja dQ ed p (ed d)[m] f).cb (ed d)[m]):Nat):Int)by omega];let⟨f4,aA,a0⟩:=Nl L t (min ((ja dQ ed p (ed d)[m] f).cb d) ((ja dQ ed p (ed d)[m] f).cb (ed d)[m]));rw[aA,O]
  refine a5 _ _ ⟨rfl,{ja dQ ed p (ed d)[m] f with cb:=Go.Law.bW (ja dQ ed p (ed d)[m] f).cb d (min ((ja dQ ed p (ed d)[m] f).cb d) ((ja dQ ed p (ed d)[m] f).cb (ed d)[m]))},hu,hs,f6,f5,⟨by omega,?_,?_,?_,g1,he,ha,hk,g8,a0⟩⟩;rw[a9];exact XS i.ci P E em;rw[i.eq,a2,sE,if_pos E];exact ix (XN (ga:=f) (λD bb=>em.ext.kV bb)) i.wh;have E:f.aR (ed d)[m]≠0:=by simpa using H
  rw[Ci h,O,(Ip h B).1,O,(Ip h B).2,O];refine b (λac=>?_) (λac=>?_);simp only[EE h,(xu h t).1,(xu h t).2,(xt h B).1,(xt h B).2,O,MI];rw[show min (f.cb d:Int) (f.aR (ed d)[m]:Int)=((min (f.cb d) (f.aR (ed d)[m]):Nat):Int)by omega];let⟨f4,aA,a0⟩:=Nl h t (min (f.cb d) (f.aR (ed d)[m]));rw[aA,O]
  refine a5 _ _ ⟨rfl,{f with cb:=Go.Law.bW f.cb d (min (f.cb d) (f.aR (ed d)[m]))},br,bi,au,ak,⟨by omega,?_,?_,i.wh,i.cw,i.ol,i.ok,i.st,i.ou,a0⟩⟩;rw[a9];exact XQ i.ci P E ac;rw[i.eq,a2,sE,if_neg E,if_pos ac];have d8:¬f.eZ (ed d)[m]=true:=by rw[ac];decide
  refine a5 _ _ ⟨rfl,f,br,bi,au,ak,⟨by omega,?_,?_,i.wh,i.cw,i.ol,i.ok,i.st,i.ou,h⟩⟩;rw[a9];exact XR i.ci E d8;rw[i.eq,a2,sE,if_neg E,if_neg d8];rintro fd w ⟨rfl,bv,bm,be,am,aj,hh⟩;rw[aZ,O];exact es (m+1,bv,bm,be,am,aj,w) hh (by omega)
  ·have g3:m=Z (ed d):=by simp at g2;omega
   subst g3;have h:=i.hH;have X:ql ed U j f z d (ed d):=by have:=i.ci;grind
   have el:sE dQ ed p d (ed d) (j.enter d)=f:=by rw[i.eq,qq,sE]
   rw[EE h,O,(xu h t).1,O,(xu h t).2,O,Io h,O,(xt h t).1,O,(xt h t).2,O,cv,O];refine b (λH=>?_) (λH=>?_);have g6:¬f.cb d=f.aR d:=by simp at H;omega
   have ev:ja dQ ed (p+1) d j=f:=by
    simp only[ja];rw[el,if_neg g6]
   rw[ev];have:=i.ol;exact⟨⟨rfl,i.cw,_,_,_,_,i.st,i.ou,h⟩,by omega,i.ok⟩
   ·have d3:f.cb d=f.aR d:=by simp at H;omega
    have ev:ja dQ ed (p+1) d j=f.pop dQ d:=by
     simp only[ja];rw[el,if_pos d3]
    have hg:=XT (G:=ed) (n:=U) Cm Y X d3;let⟨i5,hl,_⟩:=X.bD;have d2:d∈f.bD:=by rw[hl];simp
    let⟨g5,a6,i1⟩:=Yt X.inv;have d4:Z (f.bD.drop (f.bD.idxOf d))<=12:=by
     refine ge _ (by grind) λD bb N hn=>?_;have ek:∀ai∈f.bD.drop (f.bD.idxOf d),(f.pop dQ d).hx ai/\(f.pop dQ d).of ai=Z f.out:=by
      intro ai i3;refine⟨⟨X.inv.kV ai (by grind),?_⟩,?_⟩;grind[TS.pop];grind[TS.pop]
     let⟨f8,f9⟩:=ek D bb;let⟨ax,az⟩:=ek N hn;exact((hg.inv.scc D N f8 ax).1 (f9.trans az.symm)).1
    have h3:=i.cw;have iG:=i.ol;have ax:Z f.out<=1000:=by omega
    have az:Z f.bD<=1000:=by omega
    apply anD f7 g4 d2 a6 g5 d4 ax az i.cw i.st i.ou h (λr R=>Nn q U ed (ja dQ ed (p+1) d j) k r R/\Z (ja dQ ed (p+1) d j).out+dl<=(ja dQ ed (p+1) d j).count/\yQ (ja dQ ed (p+1) d j).out);intro r R gt;rw[ev];refine⟨gt,?_,?_⟩
    rotate_left
    intro g a4;rcases dt.1 a4 with w|w;exact i.ok g w;rw[l6]at w;subst w;refine⟨Yr _,λgc=>?_⟩;have d7:d∈f.bD.drop (f.bD.idxOf d):=by
     have io:=Ys d2;rw[List.mem_drop_iff_getElem];exact⟨0,by omega,by simp⟩
    rw[<-Cm,gc]at d7;simp at d7;show Z (f.out++[dQ (f.bD.drop (f.bD.idxOf d))])+dl<=f.count;simp;omega
def kX(b:List (Int×Int))(c:Nat):List Nat:=(b.filter λa=>a.1==(c:Int)).map λa=>a.2.toNat
def gx(a:D)(b:Nat):List Nat:=kX ((kO a).map (·.1)) b
theorem anF(b:List (Int×Int))(c:Int×Int)(a:Nat):kX (b++[c]) a=if c.1=(a:Int)then kX b a++[c.2.toNat]else kX b a:=by
 grind[kX]
theorem Yv(a:List (Int×Int))(b:Nat):Z (kX a b)<=Z a:=by
 grind[kX]
theorem bB.anG(h:bB E cN 1 bu k)(a:Holds M (k++bo)):aM M .res E (eS ab cN bu):=by
 rcases h with⟨rfl,rfl,rfl⟩|⟨id,g,rfl,rfl⟩;exact .aq _ _;exact ic (U:=1) (a.get (by simp)) (by simp)
theorem anH{a:Nat->aL}(h:Holds M (k++(flat a U++bo)))(f:N<U):∃b,Holds M (a N++b):=by
 let⟨c,d,e⟩:=Ew a f;have g:flat a U=c++(a N++d):=by rw[<-e,H5]
 grind[Holds,List.append_assoc,Holds.sub]
theorem Yw{b:Nat->AV}:∀{a:List Nat},(∀j∈a,aM M .res (b j) (eS ab cN (ed j)))->fJ M .res (a.map λj=>[b j]) (a.map λj=>cG (ed j))
 |[],_=>.nil _
 |j::a,h=>.ck (.ck (h j (by simp)) (.nil _)) (Yw (by grind))
theorem anI(f:D)(K:mq f):PR C 104 [.agg (cP T F f)] (eS ab cG ((ay (Z f.Q)).map (gx f))):=by
 have bi:=K.2.2;apply RB.pr;rw[eE,O,bh,O,aJ,e,kv,O,aX,O];apply aY (se (by omega) (by omega));rw[gy,O];apply c (XB f K);simp only[fK,dj,eH,O,aX,dR,e2];generalize J:(kO f).map (·.1)=g;have be:Z g<=10000:=by rw[<-J];simpa using MV K
 have ak:∀n∈g,∃h m:Nat,n=((h:Int),(m:Int))/\h<Z f.Q/\m<Z f.Q:=by
  intro n w;rw[<-J,cy]at w;obtain⟨y,B,rfl⟩:=w;let⟨⟨a6,M⟩,N,H⟩:=BV y B;exact⟨y.1.1.toNat,y.1.2.toNat,by grind,by omega,by omega⟩
 refine bG (K:=Nat×(Nat->AV)×(Nat->aL)×List Obj) (λl=>[I (l.1:Int)]) (λl=>l.2.2.2) (λl=>Z g -l.1) (λl=>l.1<=Z g/\(∀d,bB (l.2.1 d) cN 1 (kX (g.take l.1) d) (l.2.2.1 d))/\Holds l.2.2.2 ((0,.arr 0 1 (b9 (Z f.Q) λd=>[l.2.1 d]))::flat l.2.2.1 (Z f.Q))) (0,λ_=>.aq,λ_=>[],[.arr 0 1 (dh (Z f.Q) [.aq])]) ⟨by simp,λd=>by simpa[kX]using bB.nil cN 1,?_⟩ ?_;have:(b9 (Z f.Q) λ_=>[AV.aq])=dh (Z f.Q) [.aq]:=by
  unfold b9;rw[O0];simp
 simp only[MW,this];exact⟨by simp,λy B=>by simp at B;subst B;rfl⟩;rintro⟨k,j,t,s⟩ ⟨ai,z,u⟩ a3 R;simp only at ai z u R⊢;simp only[G,A,O,a];have E:=u.get (U:=0) (gF:=.arr 0 1 (b9 (Z f.Q) λd=>[j d])) (by simp);refine b (λx=>?_) (λah=>?_)
 ·have x:k<Z g:=by simpa using x
  let⟨h,m,w,v,bb⟩:=ak _ (bn x);have ax:g.take (k+1)=g.take k++[g[k]]:=iy x;have U:∀n:Int×Int,dO 2 (.agg (b3 n))=aa [I n.1,I n.2]:=λ_=>rfl;have aA:∀n:Int×Int,aQ 2 ad (.aH ab (b3 n) 0) s=aa (.agg (b3 n)):=λ_=>rfl;rw[aE (a7:=b3) (N:=2) x (ub _),O,aA,O,U,O];simp only[w,G,i];rw[xm E v,O,Ax E v (a:=j h) rfl,O,BJ,O];let⟨p,r,P⟩:=Ew t v;have af:flat t (Z f.Q)=p++(t h++r):=by rw[<-P,H5]
  rw[af]at u;have au:=Yv (g.take k) h;rw[h0]at au;have M:Holds s (t h++(((0,.arr 0 1 (b9 (Z f.Q) λd=>[j d]))::p)++r)):=Holds.swap (k:=(0,.arr 0 1 (b9 (Z f.Q) λd=>[j d]))::p) (by simpa using u);let⟨id,o,S,V,N⟩:=bB.app (bytes:=8) (z h) M m rfl (by omega);refine aY V ⟨rfl,trivial,?_⟩
  have H:Holds S ((0,.arr 0 1 (b9 (Z f.Q) λd=>[j d]))::((id,.arr o 1 ((kX (g.take k) h++[m]).map cN))::(p++r))):=N.perm (List.Perm.swap _ _ _);have L:=H.get (U:=0) (gF:=.arr 0 1 (b9 (Z f.Q) λd=>[j d])) (by simp);rw[xm L v,O];apply aI (H4 L v (w:=j h) rfl (a:=.q id o 0 (Z (kX (g.take k) h++[m]))) rfl rfl);rw[aZ,O]
  have X:=Holds.set H (.arr 0 1 (b9 (Z f.Q) (bN (λd=>[j d]) h [.q id o 0 (Z (kX (g.take k) h++[m]))])));refine R (k+1,bN j h (.q id o 0 (Z (kX (g.take k) h++[m]))),bN t h [(id,.arr o 1 ((kX (g.take k) h++[m]).map cN))],_) ⟨by omega,λd=>?_,?_⟩ (by omega);simp only;rw[ax,anF,w];by_cases n:d=h;subst n;simp only[if_true,eR];grind[bN,kX,cN,bB.of];grind[bN,kX,cN];simp only
  have W:(b9 (Z f.Q) (bN (λd=>[j d]) h [.q id o 0 (Z (kX (g.take k) h++[m]))]))=b9 (Z f.Q) λd=>[bN j h (.q id o 0 (Z (kX (g.take k) h++[m]))) d]:=by
   refine Cd λd _=>?_;unfold bN;grind
  rw[P,<-W];refine X.perm (List.Perm.cons _ ?_);exact(asb (l₁:=p) (l₂:=r)).symm
 have aj:k=Z g:=by simp at ah;omega
 subst aj;rw[dY]at z;have ac:gx f=kX g:=by funext y;rw[gx,J]
 rw[ac];have:=Yw (M:=s) (b:=j) (ed:=kX g) (a:=ay (Z f.Q)) λd am=>by
  obtain⟨r,Y⟩:=anH (k:=[(0,.arr 0 1 (b9 (Z f.Q) λd=>[j d]))]) (bo:=[]) (by simpa using u) (iz.1 am);exact(z d).anG Y
 have a9:aM s .res (.q 0 0 0 (Z f.Q)) (.sl ab ((ay (Z f.Q)).map λd=>cG (kX g d))):=by
  refine .pK 0 0 0 _ 1 (b9 (Z f.Q) λd=>[j d]) _ E (by rw[yL];omega) ?_;rw[lq,gT (by simp[yL])];exact this
 have a4:eS ab cG ((ay (Z f.Q)).map (kX g))=.sl ab ((ay (Z f.Q)).map λd=>cG (kX g d)):=by
  rw[eS,vW]<;>rfl
 simp_all
theorem No:∀{a b:List Nat},a.Nodup->(∀x∈a,x∈b)->Z a<=Z b
 |[],b,_,_=>tN _
 |x::a,b,c,f=>by
  obtain⟨d,e,rfl⟩:=E9 (f x (by simp));rw[k0]at c;have:=No (a:=a) (b:=d++e) c.2 (by grind);grind
theorem anJ:∀b∈kO V,∃r∈V.ak,b.1.1=r.ah:=by
 have f:∀(r:aD)(i:r∈V.ak)(a:List Lit)(c:List Edge),(∀b∈c,∃r∈V.ak,b.1.1=r.ah)->∀b∈a.foldl (j6 V r) c,∃r∈V.ak,b.1.1=r.ah:=by
  intro r i a;induction a with
  |nil=>grind
  |cons j a e=>
   grind[j6]
 have g:∀(a:List aD)(d:∀r∈a,r∈V.ak)(c:List Edge),(∀b∈c,∃r∈V.ak,b.1.1=r.ah)->∀b∈a.foldl (p7 V) c,∃r∈V.ak,b.1.1=r.ah:=by
  intro a;induction a with
  |nil=>grind
  |cons r a e=>exactλd c h=>e (by grind) _ (f r (d r (by simp)) r.ai c h)
 exact g V.ak (λ_ h=>h) [] (by simp)
theorem AA:N∈gx V U<->p8 V U N=true:=by
 rw[H6];simp only[gx,kX,cy,l5,beq_iff_eq];constructor;rintro⟨c,⟨⟨b,a,rfl⟩,d⟩,rfl⟩;refine⟨b,a,?_⟩;have:=(BV b a).2.1;grind;grind
theorem Np(h:p8 V U N=ad):U<Z V.Q/\N<Z V.Q:=by
 rw[H6,cy]at h;let⟨b,a,h⟩:=h;have:=BV b a;grind
theorem Yx:hW (gx V) U N<->U=N\/pk (p8 V) U N:=by
 constructor;intro h;induction h with
 |refl b=>omega
 |step b d e h _ a=>
  rcases a with rfl|a;exact .inr (.hy _ _ (AA.1 h));exact .inr (.step _ _ _ (AA.1 h) a)
 rintro(rfl|h);exact .refl _;induction h with
 |hy U N h=>exact .hy (AA.2 h)
 |step U c N h _ a=>exact .step _ _ _ (AA.2 h) a
theorem anK(i:Z V.ak<=12)(b:List Nat)(g:b.Nodup)(h:∀a∈b,∀c∈b,hW (gx V) a c):Z b<=12:=by
 by_cases p:Z b<=1;omega;have e:∀a∈b,a∈V.ak.map λr=>r.ah.toNat:=by
  intro a e;have:∃c∈b,c≠a:=xG λq=>by
   have:∀c∈b,c=a:=by grind
   have:=No (b:=[a]) g (by grind);grind
  let⟨c,o,s⟩:=this;have n:∃f,f∈gx V a:=by
   cases h a e c o with
   |refl=>omega
   |step _ f _ d _=>grind
  let⟨f,d⟩:=n;have d:=AA.1 d;rw[H6,cy]at d;let⟨j,l,m⟩:=d;let⟨r,i,k⟩:=anJ j l;refine cy.2 ⟨r,i,?_⟩;rw[<-k,m];simp
 have:=No g e;grind
theorem anL(p:ga=kG dQ (gx V) (Z V.Q) (ay (Z V.Q)) TS.init)(f:yQ ga.out):tn (Z V.Q) (cQ V) ga.out ga.of:=by
 have l:∀d,d<Z V.Q->∀i∈gx V d,i<Z V.Q:=λd _ i q=>(Np (AA.1 q)).2;let⟨_,t,j,k⟩:=amG (n:=Z V.Q) Cm l (Z V.Q) (c7 _) ga p;refine⟨λa b=>?_,λr n a=>⟨λo=>?_,λ⟨b,s⟩=>?_⟩,λa e b m=>?_,λg c=>(f g c).1,λg c=>(f g c).2⟩;grind;exact j r _ (bq n) a o;grind;rw[k a e b m,Yx,Yx,cY];simp only[h5,beq_iff_eq,ba,cQ,Hb (λa e h=>Np h)];grind
theorem anM(a i h g f d m k l j e b c:K):[a,i,h,g,f,d,m,k,l,j,e,b,c].Perm [i,m,k,l,j,f,d,g,e,a,h,b,c]:=
 (List.Perm.swap i a _).trans (.cons i ((qu [a,h,g,f,d] [m,k,l,j] [e,b,c]).trans (.append_left [m,k,l,j] ((qu [a,h,g] [f,d] [e,b,c]).trans (.append_left [f,d] (qu [a,h] [g,e] [b,c]))))))
structure Nq(p:D)(x4 x6 x7 x8:AV)(H:List Obj):Prop where
 ex:∃kn ke kl kx je jl jx:Nat,x4=pt kn/\x6=pt ke/\x7=pt kl/\x8=pt kx/\
  Holds H [(kx,one (.q jx 0 0 (Z p.Q))),(jx,.arr 0 1 (dh (Z p.Q) [I 0])),(kl,one (.q jl 0 0 (Z p.Q))),(jl,.arr 0 1 (dh (Z p.Q) [I 0])),(kn,one (eS ab cG ((ay (Z p.Q)).map (gx p)))),
   (ke,one (.q je 0 0 (Z p.Q))),(je,.arr 0 1 (dh (Z p.Q) [I 0]))]
theorem anN(a:Nat):gR a (λ_=>0)=dh a [I 0]:=by
 simp[gR,O0,cN]
theorem anO(a:Nat):tH a (λ_=>ab)=dh a [ff]:=by
 simp[tH,O0,cB]
theorem anP(h:xq E fo k)(c:Holds M (k++bo)):aM M .res E (eS ab cG fo):=by
 obtain⟨b,l,rfl,f,rfl⟩:=h;rcases f with⟨rfl,rfl,-⟩|⟨id,g,rfl,rfl⟩;exact .aq _ _;have d:=c.get (U:=id) (gF:=.arr g 1 (b.map yP)) (by simp);refine .pK id g 0 (Z b) 1 (b.map yP) _ d (by simp) ?_;rw[lq,gT (by simp)];have e:∀a∈b,M[a.1]?=aa (.arr 0 1 (a.2.map cN)):=λa e=>c.get (U:=a.1) (gF:=.arr 0 1 (a.2.map cN)) (by
  simp only[hG,dR,b6,dt,cy];exact .inr (.inl ⟨a,e,rfl⟩))
 clear d c;induction b with
 |nil=>exact .nil _
 |cons a b m=>
  refine .ck (.ck ?_ (.nil _)) (by grind);simp_all[ic]
structure Yy(d:tJ)(n:Nat)(G:Nat->List Nat)(i:Nat)(t:TS)(sv ov:AV)(PS PO:aL)(H:List Obj):Prop where
 le:i<=n
 iv:Inv G n t []
 eq:kG dQ G n (ay n) TS.init=kG dQ G n ((ay n).drop i) t
 cw:t.count+t.nS n<=n
 ol:Z t.out<=t.count
 ok:yQ t.out
 st:tI sv t.bD PS
 ou:xq ov t.out PO
 hH:Holds H (dD d n G t sv ov PS PO)
variable{oM oT oP:AV}
theorem Yz(d7:EF C)(c1:mq V)(f5:Z V.ak<=12){d0 d1:AV}(ce:Nq V oT oP d0 d1 M):
 KO C E dG oM oT (I (Z V.Q:Int)) oP d0 d1 M (λr p=>∃(N:List (List Nat))(of:Nat->Nat),aM p .res r (.aB [eS ab cN ((ay (Z V.Q)).map of),eS ab cG N])/\N=(kG dQ (gx V) (Z V.Q) (ay (Z V.Q)) TS.init).out/\of=(kG dQ (gx V) (Z V.Q) (ay (Z V.Q)) TS.init).of/\yQ N/\Z N<=Z V.Q):=by
 have f0:=c1.2.2;have ci:∀w,w<Z V.Q->∀d2∈gx V w,d2<Z V.Q:=λw _ d2 f9=>(Np (AA.1 f9)).2;have d9:∀w,Z (gx V w)<=100000:=λw=>by
  have P:=Yv ((kO V).map (·.1)) w;have aj:=MV c1;simp only[jX]at P;unfold gx;omega
 obtain⟨aF,S,aA,W,ax,gc,K,rfl,rfl,rfl,rfl,cl⟩:=ce.ex;generalize Z V.Q=f at*;unfold KO;apply aY (se (by omega) (by omega));have P:=Holds.alloc cl (.arr 0 1 (dh f [ff]));generalize Z M=az at*;generalize M++[Obj.arr 0 1 (dh f [ff])]=y at*;apply aY (show lB 1 [.aq] y=aa (pt (Z y),y++[one .aq])from rfl);have aj:=Holds.alloc P (one .aq);generalize Z y=T at*;generalize y++[one .aq]=d3 at*
 let⟨be,br⟩:=Cj (a:=[]) aj (w:=.q az 0 0 f) ⟨rfl,rfl⟩;apply aI be;generalize d3.set T (one (.q az 0 0 f))=z at*;apply aY (show lB 1 [.aq] z=aa (pt (Z z),z++[one .aq])from rfl);have bv:=Holds.alloc br (one .aq);generalize Z z=a0 at*;generalize z++[one .aq]=B at*;apply aY (show lB 1 [.aq] B=aa (pt (Z B),B++[one .aq])from rfl);have bD:=Holds.alloc bv (one .aq);generalize Z B=U at*
 generalize B++[one .aq]=F at*;apply aY (show lB 1 [I 0] F=aa (pt (Z F),F++[one (I 0)])from rfl);have cb:=Holds.alloc bD (one (I 0));generalize Z F=R at*;generalize F++[one (I 0)]=d4 at*;let⟨bi,cc⟩:=Cj (a:=[]) cb (w:=I 0) ⟨rfl,rfl⟩;apply aI bi;generalize d4.set R (one (I 0))=H at*;apply aY (show lB 1 [.fP] H=aa (pt (Z H),H++[one .fP])from rfl);have am:=Holds.alloc cc (one .fP)
 generalize Z H=L at*;generalize H++[one .fP]=a9 at*;let⟨bm,d8⟩:=Cj (a:=[]) am (w:=.fn 123 [] [pt R,pt W,pt aA,pt T,pt a0,pt aF,pt L,pt U,pt S]) ⟨rfl,rfl⟩;apply aI bm;generalize a9.set L (one (.fn 123 [] [pt R,pt W,pt aA,pt T,pt a0,pt aF,pt L,pt U,pt S]))=bb at*;clear P aj br bv bD cb cc am be bi bm cl ce;let j:tJ:=⟨R,W,K,aA,gc,T,az,a0,aF,L,U,S,ax⟩
 have ek:Holds bb (dD j f (gx V) TS.init .aq .aq [] []):=by
  have:=d8.perm (anM _ _ _ _ _ _ _ _ _ _ _ _ _);rw[<-anN,<-anO]at this;exact this
 refine bG (K:=Nat×TS×AV×AV×aL×aL×List Obj) (λk=>[I (k.1:Int)]) (λk=>k.2.2.2.2.2.2) (λk=>f -k.1) (λk=>Yy j f (gx V) k.1 k.2.1 k.2.2.1 k.2.2.2.1 k.2.2.2.2.1 k.2.2.2.2.2.1 k.2.2.2.2.2.2) (0,TS.init,.aq,.aq,[],[],bb) ⟨by simp,XU,by simp,?_,by simp[TS.init],λg em=>by simp[TS.init]at em,.inl ⟨rfl,rfl,rfl⟩,⟨[],[],rfl,.inl ⟨rfl,rfl,rfl⟩,rfl⟩,ek⟩ ?_;have:TS.init.nS f<=f:=ix (nX _ _) (by simp)
 show 0+TS.init.nS f<=f;omega;rintro⟨i,m,a3,X,af,Y,p⟩ d gU dl;simp only at d dl⊢;simp only[G,A,O,a];have g5:=d.le;have h:Holds p (dD j f (gx V) m a3 X af Y++[]):=by rw[sQ];exact d.hH
 refine b (λfy=>?_) (λes=>?_);have t:i<f:=by simpa using fy
 have co:(ay f).drop i=i::(ay f).drop (i+1):=by
  rw[oI (by simpa using t)];simp
 refine kT (λds ai=>ds=[I (i:Int)]/\∃a5 a4 a2 ah ac,Yy j f (gx V) (i+1) a5 a4 a2 ah ac ai) (λg7 cs=>?_) ?_;rw[show aQ 1 ab (pt W) p=aa (.q K 0 0 f)from Io h,O,show bP 1 (.q K 0 0 f) (I (i:Int)) p=aa (.ptr K 0 i 0)from(xt h t).1,O,show aQ 1 ab (.ptr K 0 i 0) p=aa (I (m.aR i:Int))from(xt h t).2,O,c6,O];refine b (λau=>?_) (λau=>?_);have J:m.aR i=0:=by simpa using au
 have c2:m.nS f<=f:=ix (nX _ _) (by simp);have f8:=Ia Cm ci f i m [] d.iv J t (by simp) c2;rw[show aQ 1 ab (pt L) p=aa (.fn 123 [] j.Il)from Ym h,O];apply aY (dW:=123) (oR:=[I (i:Int),pt j.c,pt j.x,pt j.l,pt j.o,pt j.s,pt j.n,pt j.v,pt j.u,pt j.e]) rfl;apply c4 (anE d7 (k:=[]) f0 ci d9 (anK f5) f i m [] 0 a3 X af Y p d.iv J t (by simp) c2 d.cw d.ol d.ok d.st d.ou h) rfl
 rintro r a9 ⟨⟨-,el,go,ge,d6,d5,f6,f1,am⟩,f3,f2⟩;refine cs _ _ ⟨rfl,_,go,ge,d6,d5,⟨t,f8.inv,?_,el,f3,f2,f6,f1,by grind⟩⟩;rw[d.eq,co,kG,if_pos J];have J:¬m.aR i=0:=by simpa using au
 refine cs _ _ ⟨rfl,m,a3,X,af,Y,⟨t,d.iv,?_,d.cw,d.ol,d.ok,d.st,d.ou,d.hH⟩⟩;rw[d.eq,co,kG,if_neg J];rintro ds ai ⟨rfl,a5,a4,a2,ah,ac,f4⟩;rw[aZ,O];exact dl (i+1,a5,a4,a2,ah,ac,ai) f4 (by omega);have fd:i=f:=by simp at es;omega
 subst fd;have f7:kG dQ (gx V) i (ay i) TS.init=m:=by
  rw[d.eq,asc (by simp),kG]
 rw[f7,show aQ 1 ab (pt S) p=aa (.q ax 0 0 i)from Yn h,O,show aQ 1 ab (pt U) p=aa X from Ng h,O];have g4:=d.cw;have g6:=d.ol;refine⟨m.out,m.of,.aB _ _ _ (.ck ?_ (.ck ?_ (.nil _))),rfl,rfl,d.ok,by omega⟩;have:=ic (a7:=cN) (x:=(ay i).map m.of) (id:=ax) (U:=1) (N:=0) (M:=p) (by rw[vW];exact Nk h) (by simp);simp_all;rw[d.ou.pl.1];exact anP d.ou (Yq h)
open Go.Proofs
variable{cz:Code}{L:AS}{mE:fg -> AS -> Prop}{mD:Code}{t:WS}{jv:WS -> Prop}
section
variable{P:Program}{G:Nat->Option (List AV)}{An:Nat->bS}{X:fu}{A:bS}{hc:Oper->Bool}
theorem en.mono{c:fg->AS->Prop}(h:en P G cz L mE)(r:∀a b,mE a b->c a b):en P G cz L c:=λd e l i j=>by
 have:=h d e l i j;cases cz
 case loop n=>
  intro f k g;let⟨o,m,t,⟨a,b,p,q⟩,s⟩:=this f k g;grind
 all_goals exact wp_mono this (by grind)
theorem en.Is(k:P.follows .mixedOrders=ad)(j:∀d args a r b,X d args a r b->jz P G d args a r b)(i:∀d f a r b,C d f a r b->k5 P G An X d f a r b)
 (h:jg P G C A hc cz t (nq jv))(n:∀c,jv c->en P G mD c.as mE):en P G (.seq cz mD) t.as mE:=by
 refine en.seq (oQ:=λm=>∃c,m=c.as/\jv c) (en.mono (en.code k j i h) ?_) ?_;rintro l p ⟨g,rfl,e⟩;cases l with
 |norm=>exact⟨rfl,g,rfl,e⟩
 |exit o=>exact e.elim
 |ret=>exact e.elim
 grind
end
theorem anQ(a:D)(b:mq a)(f:∀d:AV,jv ⟨[(0,.av (.agg (cP T F a))),(1,.av d),(2,.av .aq),(3,.av .aq),(4,.av (pt 0)),(5,.av (I (Z a.Q:Int)))],[],[one (eS ab cG ((ay (Z a.Q)).map (gx a)))]⟩):
 GG C (.agg (cP T F a)) [] jv:=by
 unfold GG;rw[eE,O,gy,O];apply c (anI a b);apply aY (show lB 1 [.aq] []=aa (pt 0,[one .aq])from rfl);apply aI (show du 1 (pt 0) (eS ab cG ((ay (Z a.Q)).map (gx a))) [one .aq]=aa [one (eS ab cG ((ay (Z a.Q)).map (gx a)))]from lF (bF:=[.aq]) rfl rfl (by omega) rfl rfl);rw[show aQ 1 ab (pt 0) [one (eS ab cG ((ay (Z a.Q)).map (gx a)))]=aa (eS ab cG ((ay (Z a.Q)).map (gx a)))from gA rfl rfl,O,aX,O]
 grind
theorem YA:∀{e:List AV}{b c:Nat}{d:AV},look c (fR (o7 b e))=aa d->∃a,∃h:a<Z e,c=b+a/\d=(e[a]).pl
 |[],b,c,d,h=>by simp[o7,fR,look]at h
 |x::e,b,c,d,h=>by
  simp only[o7,fR,ej,look]at h;split at h;rename_i f;simp only[e7]at h;exact⟨0,by simp,by omega,h.symm⟩;let⟨a,j,g,i⟩:=YA h;exact⟨a+1,by grind,by omega,by grind⟩
theorem anR:Tryz.f72.body.getD .skip=.seq (cL (Tryz.f72.body.getD .skip)) (.seq (cL (cR (Tryz.f72.body.getD .skip))) (.seq (cL (cR (cR (Tryz.f72.body.getD .skip)))) (.seq (.region 3 (vg (cL (cR (cR (cR (Tryz.f72.body.getD .skip)))))) ad) (cR (cR (cR (cR (Tryz.f72.body.getD .skip)))))))):=by kernel_rfl
theorem anS:Tryz.f72.body=aa (Tryz.f72.body.getD .skip):=by kernel_rfl
theorem anT:yg Tryz.f72 1=true:=by kernel_rfl
theorem yR{e:Nat->bS}:∀d c a r b,C d c a r b->k5 aU G0 e C d c a r b:=λ_ _ _ _ _ h=>.uZ _ _ _ _ _ h
theorem AB:∀d c a r b,C d c a r b->jz aU G0 d c a r b:=λ_ _ _ _ _ h=>h
abbrev Ac:Nat->bS:=λ_=>wF
theorem YB(W:EF C)(K:mq V)(aF:Z V.ak<=12):
 jz aU G0 72 [.agg (cP T F V)] [] (.aB [eS ab cN ((ay (Z V.Q)).map (kG dQ (gx V) (Z V.Q) (ay (Z V.Q)) TS.init).of),eS ab cG (kG dQ (gx V) (Z V.Q) (ay (Z V.Q)) TS.init).out]) []:=by
 have o:=anT;simp only[yg,ba,hv,decide_eq_true_eq]at o;let⟨⟨⟨_,ac⟩,af⟩,ah⟩:=o;refine en.fn Tryz.func72 anS ac ah af ?_;rw[anR];have e0:({env:=n0 0 [.agg (cP T F V)],bx:=[],hp:=[]}:AS)=WS.as {env:=o7 0 [.agg (cP T F V)],bx:=[],hp:=[]}:=rfl;rw[e0];have br:=K.2.2
 let S:WS->Prop:=λU=>∃i,U=⟨[(0,.av (.agg (cP T F V))),(1,.av i),(2,.av .aq),(3,.av .aq),(4,.av (pt 0)),(5,.av (I (Z V.Q:Int)))],[],[one (eS ab cG ((ay (Z V.Q)).map (gx V)))]⟩;have B:GG C (.agg (cP T F V)) [] S:=by grind[anQ]
 rw[ahS]at B;refine en.Is (An:=Ac) wA AB yR B λbb ai=>?_;refine en.Is (An:=Ac) wA AB yR ai λbe aj=>?_;apply en.Is (An:=Ac) wA AB yR aj;rintro bi ⟨i,rfl⟩;generalize l:WS.as ⟨[(0,.av (.agg (cP T F V))),(1,.av i),(2,.av .aq),(3,.av .aq),(4,.av (pt 0)),(5,.av (I (Z V.Q:Int)))],[],[one (eS ab cG ((ay (Z V.Q)).map (gx V)))]⟩=g;have a0:look 1 g.env=aa i.pl:=by rw[<-l]<;>rfl
 have a2:look 2 g.env=aa .aq:=by rw[<-l]<;>rfl
 have a3:look 3 g.env=aa .aq:=by rw[<-l]<;>rfl
 have a4:look 4 g.env=aa (pt 0):=by rw[<-l]<;>rfl
 have M:look 5 g.env=aa (I (Z V.Q:Int)):=by rw[<-l]<;>rfl
 have aA:g.hp=[one (eS ab cG ((ay (Z V.Q)).map (gx V)))]:=by rw[<-l]<;>rfl
 refine en.seq (oQ:=λp=>∃q r s t v,Nq V q r s t v/\p.hp=v/\(∀e k,look e (fR (o7 1 [i,.aq,.aq,q,I (Z V.Q:Int),r,s,t]))=aa k->look e p.env=aa k)) (en.Fq (A:=wF) wA λaR au=>?_) ?_;obtain⟨m,id,done,b,c,az⟩:=ah0 (A:=wF) M (by omega) rfl aR [] (λ_=>0) g au (J.start g _ _);refine⟨m,⟨pt 0,pt (id 3),pt (id 4),pt (id 5),m.hp,?_,rfl,?_⟩,az⟩;have y:=b.al 0 (by omega) (c 6 (by omega))
 have z:=b.al 1 (by omega) (c 7 (by omega));have A:=b.al 2 (by omega) (c 8 (by omega));have a5:=b.ms 0 (by omega) (c 1 (by omega));have N:=b.ms 1 (by omega) (c 3 (by omega));have O:=b.ms 2 (by omega) (c 5 (by omega));simp only[c 9 (by omega),c 10 (by omega),c 11 (by omega),if_true,fY,Nat.reduceAdd]at y z A a5 N O;have w:∀a,a<6->p1 done a:=λa d=>by
  by_cases h:a<3;exact .inl (by grind);exact .inr (by grind)
 have bv:∀j a,j<6->a<6->j≠a->id j≠id a:=λj a G d h X=>h (b.inj j a G d (w j G) (w a d) X);have bm:∀a,a<6->1<=id a:=λa d=>by
  have:=(b.ge a d (w a d)).1;grind
 have Y:m.hp[0]?=aa (one (eS ab cG ((ay (Z V.Q)).map (gx V)))):=by rw[b.DK 0 (by grind),aA]<;>rfl
 refine⟨0,id 3,id 4,id 5,id 0,id 1,id 2,rfl,rfl,rfl,rfl,?_,λcb L=>?_⟩;simp only[ej,ns,k0,b6,jN,or_false,not_or,not_false_eq_true,xF,and_true];grind;simp only[b6,jN,or_false]at L;rcases L with rfl|rfl|rfl|rfl|rfl|rfl|rfl;exact A.2;exact O.2;exact z.2;exact N.2;exact Y;exact y.2;grind;intro e k n;obtain⟨a,d,rfl,rfl⟩:=YA n;have f:∀e,e∈wF.mL->look e (sW wF m).env=look e m.env:=λe o=>yf o _
 simp only[kI,e2]at d;have:a=0\/a=1\/a=2\/a=3\/a=4\/a=5\/a=6\/a=7:=by omega
 rcases this with rfl|rfl|rfl|rfl|rfl|rfl|rfl|rfl;rw[f _ (by decide),b.env _ (by omega) (by omega) (by omega) (by omega)];exact a0;rw[f _ (by decide),b.env _ (by omega) (by omega) (by omega) (by omega)];exact a2;rw[f _ (by decide),b.env _ (by omega) (by omega) (by omega) (by omega)];exact a3;rw[f _ (by decide),b.env _ (by omega) (by omega) (by omega) (by omega)];exact a4
 rw[f _ (by decide),b.env _ (by omega) (by omega) (by omega) (by omega)];exact M;rw[f _ (by decide)];exact(b.al 0 (by omega) (c 6 (by omega))).1;rw[f _ (by decide)];exact(b.al 1 (by omega) (c 7 (by omega))).1;rw[f _ (by decide)];exact(b.al 2 (by omega) (c 8 (by omega))).1;rintro p ⟨q,r,s,t,v,am,rfl,ax⟩;have E:=Yz W K aF (E:=i) (dG:=.aq) (oM:=.aq) am;rw[Uq]at E
 apply en.sub (n:=WS.as {env:=o7 1 [i,.aq,.aq,q,I (Z V.Q:Int),r,s,t],bx:=[],hp:=p.hp}) ax (by grind[WS.as,look]) rfl;apply en.mono (en.code (An:=Ac) wA AB yR E);rintro a6 m ⟨a9,rfl,H⟩;cases a6 with
 |exit j=>grind
 |norm=>
  obtain⟨k,n,R,of,x,rfl,rfl,-⟩:=zI H;exact⟨.inl rfl,k,n,x⟩
 |ret=>
  obtain⟨k,n,R,of,x,rfl,rfl,-⟩:=zI H;exact⟨.inr rfl,k,n,x⟩
variable{o:Array Oper}{oQ:AS -> Prop}{B:Oper}{lz:List Oper}{rn:bS}{m:Operand}{fq:List Obj}{Y:ar}{s:Act}{u cu kk:TypeId}
section
variable{P:Program}{G:Nat->Option (List AV)}
def xv(P:Program)(G:Nat->Option (List AV))(c:Array Oper)(i:List Oper)(j:AS)(k:AS->Prop):Prop:=
 ∀(a:ar)(b:Act)(Q:Exit->Act->World->Prop)(d:List Nat),gJ c d=i->(∀h∈d,h<c.size)->St a j b.tmps->dz G a->uW b.tmps.size c=ad->(∀f e g,k f->n5 a f b e g->Q .normal e g)->wpOps P c Q d b a.w
theorem xv.nil(h:oQ L):xv P G o [] L oQ:=λa b Q g d e f _ _ c=>by
 have:=Py d e;subst this;exact c L b a.w h ⟨a,rfl,f,Fr.refl a,rfl,rfl⟩
theorem xv.op{k:AV->AS->Prop}(y:gh o L B=aa ad)(h:∀(c:ar)(d:Act),St c L d.tmps->dz G c->∃b a,k b a/\cx P B d c b a)(D:∀b a,k b a->xv P G o lz (gn B.dst (b,a)) oQ):xv P G o (B::lz) L oQ:=λc d Q O q s e g u n=>by
 obtain⟨N,E,rfl,i,r⟩:=C4 q s;have z:=C3 e y;have p:=(A9 u i).1;let⟨b,a,C,R,J,l,w,t,x,I,f⟩:=h c d e g;simp only[wpOps,i,z,if_true];refine .inl ?_;have H:=I.C2 (fZ:=B.dst) x p;have j:=D b a C l (d.put B.dst J) Q E r (by grind) H (g.mono f e.bM) (by grind[kr])
  (λF m K A v=>n F m K A (v.trans f (kr _ _ _) (nx _ _ _)))
 unfold Oper.wp;rw[w];rcases t with rfl|⟨rfl,rfl⟩;exact j;exact j
theorem en.region{id:Nat}(k:xv P G o (bJ o) L λa=>oQ (sW rn a)):en P G (.region id o ab) L λl m=>l=.norm/\oQ m:=λb d n h q=>by
 apply wp_region;apply k b d _ (ay o.size) (JY o) (by grind) n h (by grind[gK]);intro a p r j i;let⟨c,e,f,g⟩:=i;exact⟨.norm,_,⟨rfl,j⟩,rfl,c,e,f.mL _ _,g⟩
theorem en.cond(e:l G L m=.bool T)(h:en P G (if T then cz else mD) (qA rn m L) mE):en P G (.cond m cz mD) L mE:=λi d c b a=>by
 simp only[gK,ba]at a;have f:=R.zl (e▸dM c b m);apply wp_cond f;have g:gK d.tmps.size (if T then cz else mD)=true:=by cases T;exact a.2;exact a.1
 exact h.wp (c.drop rn m) b g
theorem en.anU(h:en P G cz L λb a=>(b=.norm/\oQ a)\/(b≠.norm/\mE b a))(n:∀a,oQ a->en P G mD a mE):en P G (.seq cz mD) L mE:=λs t l j k=>by
 simp only[gK,ba]at k;refine wp_seq (wp_mono (h.wp l j k.1) ?_);rintro m u w1 ⟨b,a,o,rfl,i,rfl,g,c,f,e⟩;rcases o with⟨rfl,q⟩|⟨w,d⟩;refine wp_mono ((n a q).wp g (j.mono c l.bM) (by grind)) ?_;rintro m v x ⟨b,r,d,rfl,p⟩;cases b<;>exact⟨_,r,d,rfl,p.trans c f e⟩
 cases b with
 |norm=>grind
 |exit id=>exact⟨_,a,d,rfl,i,rfl,g,c,f,e⟩
 |ret=>exact⟨_,a,d,rfl,i,rfl,g,c,f,e⟩
theorem en.anV{fn:Func}{args:List AV}{r:AV}(l:P.funcs[U]?=aa fn)(k:fn.body=aa cz)(u:(fn.name== "runtime.NumGoroutine")=ab)(C:gK fn.ntmps cz=ad)(B:Z args<=fn.ntmps)
 (h:en P G cz {env:=n0 0 args,bx:=[],hp:=M} λe b=>(e=.norm\/e=.ret)/\xR P fn b=aa r/\b.hp=fq):jz P G U args M r fq:=by
 refine⟨⟨fn,cz,l,k,u⟩,λn c g A q j p=>?_⟩;apply calls_of_wp l k;have E:(c.toArray++Array.replicate (fn.ntmps -c.toArray.size) undef).size=fn.ntmps:=by
  have:=j.length;simp;omega
 have m:=JV g j fn.ntmps;rw[q]at m;apply wp_mono (h.wp (a:={tmps:=c.toArray++Array.replicate (fn.ntmps -c.toArray.size) undef,defers:=[]}) m p (by grind));rintro z i w1 ⟨e,b,⟨v,x,rfl⟩,rfl,a,rfl,f,o,D,t⟩;let⟨d,y,s⟩:=JU f x;have hp:i.defers=[]/\∃d,(results fn i.tmps).run P a.w=.ok d a.w/\C5 n b.hp r (.returned d) a.w:=⟨t,d,y,a,rfl,o,f.bM,f.hp.symm,s⟩;rcases v with rfl|rfl<;>exact hp
theorem anW(d:St Y L s.tmps)(e:dz G Y)(b:B.op=.binOp .eql u m (.const (.slice ae 0 0)) cu)(g:P.underlying u=aa (.slice kk)){a:Option Addr}(c:s.eval m=.slice a U N):cx P B s Y (.bool a.isNone) L:=by
 refine cx.still d (bA:=.bool a.isNone) ?_ (.inl (.bool _));have f:(eqGuard .eql u m (.const (.slice ae 0 0)) (.slice a U N) (.slice ae 0 0)).run P Y.w=.ok () Y.w:=by simp[eqGuard]
 simp only[execOp,b,c];rw[show s.eval (.const (.slice ae 0 0))=.slice ae 0 0 from rfl];simp_all[Sem.run_bind,Result.andThen_ok,binOp,run_equal_slice_nil]
end
def cC:Code->Code|.cond _ a _=>a|c=>c
def rq(rs:List ResultVar)(Q:AV->List Obj->Prop):fg->WS->Prop:=λb a=>match b with|.ret=>Dp aU rs a Q|_=>False
structure sF(f:Nat)(fn:Func)(b:Code)(A:bS)(hc:Oper->Bool)(t sz bytes:Nat):Prop where
 hf:aU.funcs[f]?=aa fn
 ok:yg fn 1=ad
 hb:fn.body=aa b
 sh:b=.seq (cL b) (.seq (.seq (.region 1 (vg (cL (cL (cR b)))) ab) (.cond (.tmp 4) (cC (cR (cL (cR b)))) .skip)) (cR (cR b)))
 hA:4∈A.mL/\0∈A.mL/\2∈A.mL/\4∈A.cs
 un:∃e,aU.underlying t=aa (.slice e)
 ops:(bJ (vg (cL (cL (cR b))))).map BD=[(.move (.tmp 0),aa 3,ae,[]),(.binOp .eql t (.tmp 3) (.const (.slice ae 0 0)) t,aa 4,ae,[0])]
 t0:∀C x0 H M,jg aU G0 C A hc (cL b) {env:=o7 0 [x0],bx:=[],hp:=H} (nq M)=cq (fh sz H) λx1 h1=>M ⟨[(0,.av x0),(2,.av x1)],[],h1⟩
 t2:∀C x0 x1 H Q,jg aU G0 C A hc (cC (cR (cL (cR b)))) ⟨[(0,.av x0),(2,.av x1)],[],H⟩ (rq (bJ fn.results) Q)=cq (fh sz H) λx3 h3=>Q (AV.pl x3) h3
 t3:∀C x0 x1 H Q,jg aU G0 C A hc (cR (cR b)) ⟨[(0,.av x0),(2,.av x1)],[],H⟩ (rq (bJ fn.results) Q)=cq (cJ sz bytes .dL x0 H) λx4 h4=>Q (AV.pl x4) h4
theorem It{e:Type}{c b:Nat}(h:b≠c):∀a:List (Nat×e),look b (lA c a)=look b a
 |[]=>rfl
 |(f,g)::a=>by
  simp only[lA];split;rename_i d;subst d;rw[It h a];grind[look];simp only[look];rw[It h a]
variable{cH:Oper -> Bool}
theorem sF.run{fn:Func}{bytes:Nat}(h:sF U fn cz rn cH N z bytes)(v:E.pl=E){r:AV}(k:Bool->Prop)
 (a5:∀(e:ar)(ai:Value),e.H=M++[.arr 0 z []]->R e E ai->∃B Y V,ai=.slice B Y V/\k B.isNone)(a9:k ad->r=.q (Z M+1) 0 0 0/\fq=(M++[.arr 0 z []])++[.arr 0 z []])(a4:k ab->cJ z bytes .dL E (M++[.arr 0 z []])=aa (r,fq))(a6:r.pl=r):
 jz aU G0 U [E] M r fq:=by
 have X:=h.ok;simp only[yg,ba,hv,decide_eq_true_eq]at X;let⟨⟨⟨_,aR⟩,a0⟩,W⟩:=X;rw[h.hb]at W;refine en.anV h.hf h.hb aR W a0 ?_;rw[h.sh];have e0:({env:=n0 0 [E],bx:=[],hp:=M}:AS)=WS.as {env:=o7 0 [E],bx:=[],hp:=M}:=by
  simp[WS.as,KN 0 [E] (by simp[v])]
 rw[e0];generalize g:(⟨[(0,.av E),(2,.av (.q (Z M) 0 0 0))],[],M++[.arr 0 z []]⟩:WS)=aj;have a3:jg aU G0 C rn cH (cL cz) {env:=o7 0 [E],bx:=[],hp:=M} (nq λc=>c=aj):=by
  rw[h.t0];apply aY (show fh z M=aa (.q (Z M) 0 0 0,M++[.arr 0 z []])from rfl);exact g
 apply en.Is (An:=Ac) wA AB yR a3;rintro c rfl;have az:look 0 c.as.env=aa E:=by rw[<-g];show aa (EV.val (.av E))=_;simp[EV.val,v]
 have aA:look 2 c.as.env=aa (.q (Z M) 0 0 0):=by rw[<-g]<;>rfl
 have D:c.as.hp=M++[.arr 0 z []]:=by rw[<-g]<;>rfl
 have aF:c.as.bx=[]:=by rw[<-g]<;>rfl
 have sub:∀{P:Code}{a:AS}{Q:fg->AS->Prop},look 0 a.env=aa E->look 2 a.env=aa (.q (Z M) 0 0 0)->a.hp=M++[.arr 0 z []]->en aU G0 P c.as Q->en aU G0 P a Q:=by
  intro P a Q o p s a2;refine en.sub (λbm b d=>?_) (λbm b d=>by rw[aF]at d;simp[look]at d) (D.trans s.symm) a2;rw[<-g]at d;simp only[WS.as,fR,ej,ns,look]at d;split at d;rename_i t;subst t;rw[o,<-d];simp[EV.val,v];split at d;rename_i t;subst t;rw[p,<-d]<;>rfl
  cases d
 refine en.anU (oQ:=λa=>k ab/\look 0 a.env=aa E/\look 2 a.env=aa (.q (Z M) 0 0 0)/\a.hp=M++[.arr 0 z []]) ?_ ?_;refine en.seq (oQ:=λa=>∃N,k N/\look 4 a.env=aa (.bool N)/\look 0 a.env=aa E/\look 2 a.env=aa (.q (Z M) 0 0 0)/\a.hp=M++[.arr 0 z []]) (en.region (rn:=rn) ?_) ?_;have n:=h.ops;generalize vg (cL (cL (cR cz)))=ac at n⊢;let⟨L,O,I⟩:∃L O,bJ ac=[L,O]:=by
  rcases I:bJ ac with _|⟨L,_|⟨O,_|⟨cl,ci⟩⟩⟩<;>rw[I]at n<;>simp at n
  grind
 rw[I]at n⊢;simp only[ej,ns,CF,and_true]at n;let⟨af,ah⟩:=n;simp only[BD,eG]at af ah;let⟨co,bv,bD,_⟩:=af;let⟨cb,x,cs,_⟩:=ah;apply xv.op (k:=λb i=>b=E/\i=c.as) (by simp[gh,bD]) (λe A j u=>⟨E,c.as,⟨rfl,rfl⟩,Pt (A:=rn) j u (by simp_all[aW,l])⟩);rintro b i ⟨rfl,rfl⟩;rw[bv];simp only[gn];have br:look 3 (put 3 b c.as.env)=aa b:=by rw[fQ]<;>rfl
 have o:look 0 (put 3 b c.as.env)=aa b:=by rw[fQ,if_neg (by decide)];exact az
 have p:look 2 (put 3 b c.as.env)=aa (.q (Z M) 0 0 0):=by rw[fQ,if_neg (by decide)];exact aA
 let⟨t,bb⟩:=h.un;refine xv.op (k:=λw i=>(∃N,k N/\w=.bool N)/\i={c.as with env:=put 3 b c.as.env}) (by grind[gh]) (λe A j u=>?_) ?_;have J:=j.env 3 b br;replace J:R e b (A.tmps.getD 3 undef):=J.resolve_right (by
  rintro⟨_,_,_,h,_⟩;subst h;cases v)
 let⟨B,Y,V,be,m⟩:=a5 e _ (j.hp.symm.trans D) J;exact⟨_,_,by grind,anW j u cb bb be⟩;rintro w i ⟨⟨tt,m,rfl⟩,rfl⟩;refine xv.nil ⟨tt,m,?_,?_,?_,by rw[x];exact D⟩;rw[x];simp only[gn,sW];rw[yf h.hA.1,fQ,if_pos rfl];rw[x];simp only[gn,sW];rw[yf h.hA.2.1,fQ,if_neg (by decide)];exact o;rw[x];simp only[gn,sW];rw[yf h.hA.2.2.1,fQ,if_neg (by decide)];exact p;rintro a ⟨tt,m,ce,o,p,s⟩
 apply en.cond (rn:=rn) (T:=tt) (by grind[l]);have am:look 0 (qA rn (.tmp 4) a).env=aa E:=by simp only[qA];rw[if_pos h.hA.2.2.2];exact(by grind[It])
 have au:look 2 (qA rn (.tmp 4) a).env=aa (.q (Z M) 0 0 0):=by simp only[qA];rw[if_pos h.hA.2.2.2];exact(by grind[It])
 have ax:(qA rn (.tmp 4) a).hp=M++[.arr 0 z []]:=by simp only[qA];rw[if_pos h.hA.2.2.2];exact s
 rcases tt with _|_;intro e A j u cc;exact wp_skip ⟨.norm,_,by grind,rfl,e,rfl,j,Fr.refl e,rfl,rfl⟩;apply sub am au ax;obtain⟨rfl,rfl⟩:=a9 m;have G:jg aU G0 C rn cH (cC (cR (cL (cR cz)))) c (rq (bJ fn.results) λb y=>b=.q (Z M+1) 0 0 0/\y=(M++[.arr 0 z []])++[.arr 0 z []]):=by
  rw[<-g,h.t2];apply aY (show fh z (M++[Obj.arr 0 z []])=aa (AV.q (Z (M++[Obj.arr 0 z []])) 0 0 0,(M++[Obj.arr 0 z []])++[Obj.arr 0 z []])from rfl);exact(by grind)
 apply en.mono (en.code (An:=Ac) wA AB yR G);rintro K i ⟨ak,rfl,f⟩;cases K with
 |norm=>exact f.elim
 |exit bi=>exact f.elim
 |ret=>
  simp only[rq]at f;obtain⟨b,d,rfl,F⟩:=zI (fn:=fn) f;exact .inr ⟨by simp,.inr rfl,d,F⟩
 rintro a ⟨m,o,p,s⟩;apply sub o p s;have G:jg aU G0 C rn cH (cR (cR cz)) c (rq (bJ fn.results) λb y=>b=r/\y=fq):=by
  rw[<-g,h.t3];exact aY (a4 m) ⟨a6,rfl⟩
 apply en.mono (en.code (An:=Ac) wA AB yR G);rintro K i ⟨ak,rfl,f⟩;cases K with
 |norm=>exact f.elim
 |exit bi=>exact f.elim
 |ret=>
  simp only[rq]at f;obtain⟨b,d,rfl,F⟩:=zI (fn:=fn) f;exact⟨.inr rfl,d,F⟩
theorem sF.nil{fn:Func}{bytes:Nat}(h:sF U fn cz rn cH N z bytes)(c:Bool)(a:List Obj):
 jz aU G0 U [.sl c []] a (.q (Z a+1) 0 0 0) (a++[.arr 0 z [],.arr 0 z []]):=by
 have d:a++[Obj.arr 0 z [],.arr 0 z []]=(a++[.arr 0 z []])++[.arr 0 z []]:=by simp
 rw[d];refine h.run rfl (λ_=>True) (λe s _ b=>?_) (by grind) (λ_=>?_) rfl;cases b with
 |jO _ f cap=>grind
 |sl _ _ cz r p cap g i j l m n cH o b k=>grind
 simp[cJ,h6,AV.isNil]
theorem sF.q{fn:Func}{bytes:Nat}(h:sF U fn cz rn cH N 1 bytes)(i:bytes=8){id g off:Nat}(a:M[id]?=aa (.arr g 1 b1))(m:off+z<=Z b1)(n:0<z)(o:z<=1000000):
 jz aU G0 U [.q id g off z] M (.q (Z M+1) 0 0 z) (M++[.arr 0 1 [],.arr 0 1 ((b1.drop off).take z)]):=by
 have b:M++[Obj.arr 0 1 [],.arr 0 1 ((b1.drop off).take z)]=(M++[.arr 0 1 []])++[.arr 0 1 ((b1.drop off).take z)]:=by simp
 have p:(M++[Obj.arr 0 1 []])[id]?=aa (.arr g 1 b1):=by rw[oG (fH.1 a).1];exact a
 rw[b];refine h.run rfl (λN=>N=ab) (λd r f c=>?_) (λh=>by cases h) (λ_=>?_) rfl;cases c with
 |q _ _ _ _ _ l e k j=>
  grind
 grind[h6,cJ,AV.isNil]
theorem anX:sF 118 Tryz.f118 (Tryz.f118.body.getD .skip) ⟨[0,2,4],[4],[],[(2,3)],[5],[]⟩ (pS []) 36 3 32 where
 hf:=Tryz.func118
 ok:=by kernel_rfl
 hb:=by kernel_rfl
 sh:=by kernel_rfl
 hA:=by decide
 un:=⟨93,by kernel_rfl⟩
 ops:=by kernel_rfl
 t0:=λ_ _ _ _=>by kernel_rfl
 t2:=λ_ _ _ _ _=>by kernel_rfl
 t3:=λ_ _ _ _ _=>by kernel_rfl
theorem YC:sF 124 Tryz.f124 (Tryz.f124.body.getD .skip) ⟨[0,2,4],[4],[],[(2,1)],[5],[]⟩ (pS []) 31 1 8 where
 hf:=Tryz.func124
 ok:=by kernel_rfl
 hb:=by kernel_rfl
 sh:=by kernel_rfl
 hA:=by decide
 un:=⟨3,by kernel_rfl⟩
 ops:=by kernel_rfl
 t0:=λ_ _ _ _=>by kernel_rfl
 t2:=λ_ _ _ _ _=>by kernel_rfl
 t3:=λ_ _ _ _ _=>by kernel_rfl
theorem anY:sF 267 Tryz.f267 (Tryz.f267.body.getD .skip) ⟨[0,2,4],[4],[],[(2,1)],[5],[]⟩ (pS []) 122 1 16 where
 hf:=Tryz.func267
 ok:=by kernel_rfl
 hb:=by kernel_rfl
 sh:=by kernel_rfl
 hA:=by decide
 un:=⟨9,by kernel_rfl⟩
 ops:=by kernel_rfl
 t0:=λ_ _ _ _=>by kernel_rfl
 t2:=λ_ _ _ _ _=>by kernel_rfl
 t3:=λ_ _ _ _ _=>by kernel_rfl
theorem anZ:sF 268 Tryz.f268 (Tryz.f268.body.getD .skip) ⟨[0,2,4],[4],[],[(2,2)],[5],[]⟩ (pS []) 128 2 16 where
 hf:=Tryz.func268
 ok:=by kernel_rfl
 hb:=by kernel_rfl
 sh:=by kernel_rfl
 hA:=by decide
 un:=by simp
 ops:=by kernel_rfl
 t0:=λ_ _ _ _=>by kernel_rfl
 t2:=λ_ _ _ _ _=>by kernel_rfl
 t3:=λ_ _ _ _ _=>by kernel_rfl
theorem an0:sF 271 Tryz.f271 (Tryz.f271.body.getD .skip) ⟨[0,2,4],[4],[],[(2,4)],[5],[]⟩ (pS []) 85 4 48 where
 hf:=Tryz.func271
 ok:=by kernel_rfl
 hb:=by kernel_rfl
 sh:=by kernel_rfl
 hA:=by decide
 un:=by simp
 ops:=by kernel_rfl
 t0:=λ_ _ _ _=>by kernel_rfl
 t2:=λ_ _ _ _ _=>by kernel_rfl
 t3:=λ_ _ _ _ _=>by kernel_rfl
theorem an1:sF 272 Tryz.f272 (Tryz.f272.body.getD .skip) ⟨[0,2,4],[4],[],[(2,9)],[5],[]⟩ (pS []) 89 9 112 where
 hf:=Tryz.func272
 ok:=by kernel_rfl
 hb:=by kernel_rfl
 sh:=by kernel_rfl
 hA:=by decide
 un:=⟨87,by kernel_rfl⟩
 ops:=by kernel_rfl
 t0:=λ_ _ _ _=>by kernel_rfl
 t2:=λ_ _ _ _ _=>by kernel_rfl
 t3:=λ_ _ _ _ _=>by kernel_rfl
theorem an2:sF 30 Tryz.f30 (Tryz.f30.body.getD .skip) ⟨[0,2,4],[4],[],[(2,3)],[5],[]⟩ (pS []) 28 3 40 where
 hf:=Tryz.func30
 ok:=by kernel_rfl
 hb:=by kernel_rfl
 sh:=by kernel_rfl
 hA:=by decide
 un:=⟨38,by kernel_rfl⟩
 ops:=by kernel_rfl
 t0:=λ_ _ _ _=>by kernel_rfl
 t2:=λ_ _ _ _ _=>by kernel_rfl
 t3:=λ_ _ _ _ _=>by kernel_rfl
theorem xw(b:Bool)(a:List Obj):C 30 [.sl b []] a (.q (Z a+1) 0 0 0) (a++[.arr 0 3 [],.arr 0 3 []]):=an2.nil b a
theorem an3(h:(U,N)∈wE)(b:Bool)(a:List Obj):jz aU G0 U [.sl b []] a (.q (Z a+1) 0 0 0) (a++[.arr 0 N [],.arr 0 N []]):=by
 simp only[wE,b6,eG,jN,or_false]at h;rcases h with⟨rfl,rfl⟩|⟨rfl,rfl⟩|⟨rfl,rfl⟩|⟨rfl,rfl⟩|⟨rfl,rfl⟩|⟨rfl,rfl⟩;exact anX.nil b a;exact YC.nil b a;exact anY.nil b a;exact anZ.nil b a;exact an0.nil b a;exact an1.nil b a
open Go Go.Lib
theorem uK:aU.underlying 28=aa (.slice 38):=by kernel_rfl
def zF:Value:=.agg #[.int .i64 0,.slice ae 0 0,.int .i64 0]
theorem YD:∃a,aU.info? 38=aa a/\a.size=3/\a.bytes=40/\a.zero=aa zF:=by
 have h:(aU.info? 38).map (λa=>(a.size,a.bytes,a.zero))=aa (3,40,aa zF):=by kernel_rfl
 simp_all
variable{oU:Program}
theorem Iu(w:World)(i t u elem:TypeId)(j:TypeInfo)(g c h n:Nat)(e:Addr)(l s f:Nat)(b:Array Value)(m:TypeId)(a:List Value)
 (B:oU.underlying i=aa (.slice elem))(v:oU.info? elem=aa j)
 (q:w.heap[g]?=aa (.cells b m (0,0)))(x:Nat.min l h=f)(z:Z a=f*j.size)
 (r:∀k d,a[k]?=aa d->w.cell? (e.add k)=aa d)(p:c+Z a<=b.size)(o:∀d∈a,d.oneCell'=ad):
 (Builtin.copy_ #[i,t] u #[.slice (aa ⟨g,c,ae⟩) h n,.slice (aa e) l s]).run oU w=
  .ok (goInt f) (w.setRow g ((bJ b).take c++a++(bJ b).drop (c+Z a)).toArray):=by
 have y:=run_loadCells_list (P:=oU) w e a r;have A:=run_storeCells_at oU g c m a 0 b w q (by simpa using p) o;simp_all[Builtin.copy_,run_underlying,Builtin.lenOf,Builtin.firstCells,sizeOf,typeInfo]
variable{eI:World}{bA:Value}
theorem YE{w:World}{a:Option Addr}{cap:Nat}(c:∀g,(Builtin.append_ #[28,28] g #[.slice a U cap,.slice (aa ⟨N,0,ae⟩) 1 z]).run aU w=.ok bA eI)(l:U<=cap)(f:a=ae->cap=0):
 Calls aU 121 #[.slice a U cap,.int .i64 U,.slice (aa ⟨N,0,ae⟩) 1 z] w λe h=>e=.returned bA/\h=eI:=by
 have m:=run_underlying uK
 go_enter Tryz.func121,Tryz.ntmps121
 cases a with
 |none=>
  have b:=f rfl;subst b;have b:U=0:=by omega
  subst b
  go_wp2_with (at_builtin;refine Lib.wpList_append_run _ rfl _ _ _ _ rfl _ _ rfl rfl _ _ (c _) ?_)
  go_ret;simp
 |some d=>
  obtain⟨i,j,k⟩:=d
  go_wp2_with (at_builtin;refine Lib.wpList_append_run _ rfl _ _ _ _ rfl _ _ rfl rfl _ _ (c _) ?_)
  all_goals(go_ret;simp)
variable{eJ:Array Value}
theorem EG{w:World}(b:w.heap[U]?=aa (.cells eJ u (0,0)))(a:Nat):w.cell? ⟨U,a,ae⟩=eJ[a]?:=by
 simp[World.cell?,b]
set_option maxHeartbeats 4000000 in
theorem an4{w:World}{cap:Nat}{c:Array Value}{vs:List Value}(T:z<N)(ac:N+1<=cap)(X:N+1<=9223372036854775807)(r:dp≠U)
 (g:w.heap[U]?=aa (.cells eJ u (0,0)))(am:cap*3<=eJ.size)(O:∀K∈(bJ eJ).take (N*3),K.oneCell'=ad)
 (i:w.heap[dp]?=aa (.cells c cu (0,0)))(aj:(bJ c).take 3=vs)(ai:Z vs=3)(x:∀o∈vs,o.oneCell'=ad):
 ∃a t:List Value,a=(bJ eJ).take ((z+1)*3)++((bJ eJ).take (N*3)).drop (z*3)++(bJ eJ).drop ((N+1)*3)/\t=a.take (z*3)++vs++a.drop (z*3+3)/\
 Calls aU 121 #[.slice (aa ⟨U,0,ae⟩) N cap,.int .i64 z,.slice (aa ⟨dp,0,ae⟩) 1 mK] w λf L=>
  f=.returned (.slice (aa ⟨U,0,ae⟩) (N+1) cap)/\L=(w.drew.setRow U a.toArray).setRow U t.toArray:=by
 refine⟨_,_,rfl,rfl,?_⟩;let⟨s,q,af,_,_⟩:=YD;have az:=run_underlying uK;have au:¬((z:Int)=(N:Int)):=by omega
 have M:∀w,(Go.sizeOf 38).run aU w=.ok 3 w:=by simp
 have I:w.shape? dp=aa (cu,c.size):=by simp[World.shape?,i]
 have J:w.shape? U=aa (u,eJ.size):=by simp[World.shape?,g]
 have G:∀l j m,(callFunc 180 #[.slice (aa ⟨dp,0,ae⟩) 1 mK,.slice (aa ⟨U,m,ae⟩) l j]).run aU w=.ok (.value (.bool ab)) w:=λl j m=>by
  rw[run_callFunc_extern Tryz.func180 (by kernel_rfl) (by kernel_rfl) (by kernel_rfl) (e:=Extern.SlicesOverlaps.overlaps #[28,28] #[4]) (by kernel_rfl),
   Lib.run_overlaps_apart w 28 4 38 uK 3 M ⟨dp,0,ae⟩ ⟨U,m,ae⟩ 1 mK l j r cu u c.size eJ.size I J (by omega) (by simp[World.frozen?,i]) (by simp[World.frozen?,i])]
  rfl
 generalize E:((bJ eJ).take (N*3)).drop (z*3)=d;have B:Z d=(N -z)*3:=by rw[<-E];simp;omega
 have C:∀b dc n,(Builtin.copy_ #[28,28] b #[.slice (aa ⟨U,(z+1)*3,ae⟩) (N -z) dc,.slice (aa ⟨U,z*3,ae⟩) (N+1 -z) n]).run aU w.drew=.ok (goInt ((N -z:Nat):Int)) (w.drew.setRow U ((bJ eJ).take ((z+1)*3)++d++(bJ eJ).drop ((N+1)*3)).toArray):=λb dc n=>by
  have f:=Iu (oU:=aU) w.drew 28 28 b 38 s U ((z+1)*3) (N -z) dc ⟨U,z*3,ae⟩ (N+1 -z) n (N -z) eJ u d uK q g (by grind) (by grind)
   (λk o F=>by
    rw[Addr.add_lit];rw[show w.drew.cell? ⟨U,z*3+k,ae⟩=eJ[z*3+k]? from EG (w:=w.drew) g _];grind)
   (by omega) (by grind)
  grind
 generalize H:(bJ eJ).take ((z+1)*3)++d++(bJ eJ).drop ((N+1)*3)=a at*;have Y:Z a=eJ.size:=by rw[<-H];simp[B];omega
 have D:∀(W:World),W.heap=(w.drew.setRow U a.toArray).heap->∀b dc,(Builtin.copy_ #[28,28] b #[.slice (aa ⟨U,z*3,ae⟩) (N+1 -z) dc,.slice (aa ⟨dp,0,ae⟩) 1 mK]).run aU W=.ok (goInt ((1:Nat):Int)) (W.setRow U (a.take (z*3)++vs++a.drop (z*3+3)).toArray):=λW p b dc=>by
  have y:W.heap[U]?=aa (.cells a.toArray u (0,0)):=by rw[p];exact setRow_heap _ _ _ _ _ _ g
  have A:W.heap[dp]?=aa (.cells c cu (0,0)):=by rw[p,setRow_other _ _ _ _ (λh=>r h)];exact i
  have f:=Iu (oU:=aU) W 28 28 b 38 s U (z*3) (N+1 -z) dc ⟨dp,0,ae⟩ 1 mK 1 a.toArray u vs uK q y (by grind) (by omega)
   (λk o F=>by
    rw[Addr.add_lit,e,EG A];grind)
   (by grind) x
  grind
 have ak:IntKind.i64.wrap ((z:Int)+(1:Int))=(z:Int)+(1:Int):=by rw[IntKind.wrap_i64];omega
 have P:(0:Int)<=(z:Int)+(1:Int):=by omega
 have V:z<=N:=by omega
 have ah:((z:Int)+(1:Int)).toNat=z+1:=by omega
 have Q:¬(cap=z+1):=by omega
 have R:(z:Int)<=(N:Int)+(1:Int):=by omega
 have S:¬(cap=z):=by omega
 go_enter Tryz.func121,Tryz.ntmps121
 go_wp2_with (simp only[G])
 have ax:aU.follows .mixedOrders=true:=by kernel_rfl
 go_region_law_o (refine step_copy_runI rfl _ _ 28 28 rfl _ _ (by simp[Act.eval,Act.put]) (by simp[Act.eval,Act.put]) (C _ _ _) ?_)
 go_wp2_with (at_builtin;refine wpList_copy_runI _ rfl _ _ 28 28 rfl _ _ rfl rfl (D _ rfl _ _) ?_)
 go_ret;simp
set_option maxHeartbeats 4000000 in
theorem an5{w:World}{cap:Nat}{o:Array Value}{vs:List Value}(a4:z<N)(a6:N<=cap)(bb:cap<N+1)(aF:(N+1)*40<=140737488355328)
 (q:w.heap[U]?=aa (.cells eJ u (0,0)))(bv:N*3<=eJ.size)(ak:∀ai∈(bJ eJ).take (N*3),ai.oneCell'=ad)
 (Y:w.heap[dp]?=aa (.cells o cu (0,0)))(bi:(bJ o).take 3=vs)(ac:Z vs=3)(G:∀n∈vs,n.oneCell'=ad):
 ∃(d:Nat)(a b E:List Value),N+1<=d/\Z a=d*3/\a.take (z*3)=(bJ eJ).take (z*3)/\b=a.take (z*3)++vs++a.drop (z*3+3)/\E=b.take ((z+1)*3)++((bJ eJ).take (N*3)).drop (z*3)++b.drop ((N+1)*3)/\
 Calls aU 121 #[.slice (aa ⟨U,0,ae⟩) N cap,.int .i64 z,.slice (aa ⟨dp,0,ae⟩) 1 mK] w λg aj=>
  g=.returned (.slice (aa ⟨w.heap.size,0,ae⟩) (N+1) d)/\aj=(((w.drew.alloc (.cells a.toArray 38)).setRow w.heap.size b.toArray).drew).setRow w.heap.size E.toArray:=by
 let⟨k,t,X,a0,cc⟩:=YD;have co:=run_underlying uK;have aR:U<w.heap.size:=(kZ.1 q).1;have bm:dp<w.heap.size:=(kZ.1 Y).1;have T:(Builtin.firstCells k.size z (.slice (aa ⟨U,0,ae⟩) z cap)).run aU w.drew=.ok ((bJ eJ).take (z*3)).toArray w.drew:=by
  rw[X];exact run_firstCells_some w.drew 3 z ⟨U,0,ae⟩ z cap ((bJ eJ).take (z*3)) (by grind) (λaf n R=>by
   rw[Addr.add_lit,e,EG (w:=w.drew) q];grind)
 have cl:aU.underlying 3=aa (.int .i64):=by kernel_rfl
 have S:(N:Int)+(1:Int) -(z:Int)=((N+1 -z:Nat):Int):=by omega
 have Q:z+(N+1 -z)=N+1:=by omega
 have A:∀c,(Builtin.append_ #[28,3] c #[.slice (aa ⟨U,0,ae⟩) z cap,.int .i64 ((N:Int)+(1:Int) -(z:Int))]).run aU w=
  .ok (.slice (aa ⟨w.heap.size,0,ae⟩) (N+1) (grownCap w (N+1) cap 38)) (w.drew.alloc (.cells (((bJ eJ).take (z*3)).toArray++Builtin.zeroCells zF.cells (N+1 -z)++Builtin.zeroCells zF.cells (grownCap w (N+1) cap 38 -(N+1))) 38)):=by grind[Lib.run_append_grow_zeros,uK,growslice_fits]
 have K:N+1<=grownCap w (N+1) cap 38:=grownCap_ge w _ _ _;have am:grownCap w (N+1) cap 38<=9223372036854775807:=by
  have:=grownCap_le_maxLen w (N+1) cap 38 (by unfold maxLen;omega);unfold maxLen at this;omega
 generalize J:grownCap w (N+1) cap 38=d at*;generalize i:(bJ eJ).take (z*3)++bJ (Builtin.zeroCells zF.cells (N+1 -z))++bJ (Builtin.zeroCells zF.cells (d -(N+1)))=a;have y:((bJ eJ).take (z*3)).toArray++Builtin.zeroCells zF.cells (N+1 -z)++Builtin.zeroCells zF.cells (d -(N+1))=a.toArray:=by
  rw[<-i];simp
 rw[y]at A;have B:∀l,(Builtin.zeroCells zF.cells l).size=l*3:=λl=>by rw[A6]<;>rfl
 have s:Z ((bJ eJ).take (z*3))=z*3:=by rw[h0,y5];omega
 have v:Z a=d*3:=by rw[<-i];simp only[gC,s,y5,B];omega
 have V:a.take (z*3)=(bJ eJ).take (z*3):=by rw[<-i,ht,E6 (by omega),gT (by omega)]
 refine⟨d,a,_,_,K,v,V,rfl,rfl,?_⟩;generalize r:((bJ eJ).take (N*3)).drop (z*3)=j;have L:Z j=(N -z)*3:=by rw[<-r];simp;omega
 have p:∀(W:World),W.heap=(w.drew.alloc (.cells a.toArray 38)).heap->W.heap[w.heap.size]?=aa (.cells a.toArray 38 (0,0))/\W.heap[U]?=aa (.cells eJ u (0,0))/\W.heap[dp]?=aa (.cells o cu (0,0)):=λW f=>by
  rw[f];refine⟨heap_alloc_new w.drew _,?_,?_⟩;show(w.heap.push _)[U]?=_;grind;show(w.heap.push _)[dp]?=_;grind
 have M:∀(W:World),W.heap=(w.drew.alloc (.cells a.toArray 38)).heap->∀c dc,(Builtin.copy_ #[28,28] c #[.slice (aa ⟨w.heap.size,z*3,ae⟩) (N+1 -z) dc,.slice (aa ⟨dp,0,ae⟩) 1 mK]).run aU W=.ok (goInt ((1:Nat):Int)) (W.setRow w.heap.size (a.take (z*3)++vs++a.drop (z*3+3)).toArray):=λW f c dc=>by
  let⟨m,D,C⟩:=p W f;have g:=Iu (oU:=aU) W 28 28 c 38 k w.heap.size (z*3) (N+1 -z) dc ⟨dp,0,ae⟩ 1 mK 1 a.toArray 38 vs uK t m (by grind) (by omega)
   (λaf n R=>by
    rw[Addr.add_lit,e,EG C];grind)
   (by grind) G
  grind
 generalize x:a.take (z*3)++vs++a.drop (z*3+3)=b at*;have a9:Z b=d*3:=by rw[<-x];simp[v,ac];omega
 have O:∀(W:World),W.heap=((w.drew.alloc (.cells a.toArray 38)).setRow w.heap.size b.toArray).heap->∀c dc h,(Builtin.copy_ #[28,28] c #[.slice (aa ⟨w.heap.size,(z+1)*3,ae⟩) (N -z) dc,.slice (aa ⟨U,z*3,ae⟩) (N -z) h]).run aU W=.ok (goInt ((N -z:Nat):Int)) (W.setRow w.heap.size (b.take ((z+1)*3)++j++b.drop ((N+1)*3)).toArray):=λW f c dc h=>by
  let⟨m,D,C⟩:=p _ rfl;have ah:W.heap[w.heap.size]?=aa (.cells b.toArray 38 (0,0)):=by rw[f];exact setRow_heap _ _ _ _ _ _ m
  have ce:W.heap[U]?=aa (.cells eJ u (0,0)):=by rw[f,setRow_other _ _ _ _ (by omega)];exact D
  have g:=Iu (oU:=aU) W 28 28 c 38 k w.heap.size ((z+1)*3) (N -z) dc ⟨U,z*3,ae⟩ (N -z) h (N -z) b.toArray 38 j uK t ah (by grind) (by grind)
   (by grind[Addr.add_lit,EG])
   (by grind) (by grind)
  rw[L,show(z+1)*3+(N -z)*3=(N+1)*3 by omega]at g;exact g
 have bD:¬((z:Int)=(N:Int)):=by omega
 have cb:(cap:Int)<(N:Int)+(1:Int):=by omega
 have au:¬(d=z):=by omega
 have ax:¬(d=z+1):=by omega
 have a2:¬(cap=z):=by omega
 have br:IntKind.i64.wrap ((z:Int)+(1:Int))=(z:Int)+(1:Int):=by rw[IntKind.wrap_i64];omega
 have az:(0:Int)<=(z:Int)+(1:Int):=by omega
 have a5:z<=N:=by omega
 have be:((z:Int)+(1:Int)).toNat=z+1:=by omega
 have aA:(z:Int)<=(N:Int):=by omega
 have ci:aU.follows .mixedOrders=true:=by kernel_rfl
 clear S Q T J i x y B s r
 go_enter Tryz.func121,Tryz.ntmps121
 have H:((w.alloc (.cells a.toArray 38)).drew).heap=(w.drew.alloc (.cells a.toArray 38)).heap:=rfl;have I:((((w.alloc (.cells a.toArray 38)).drew).setRow w.heap.size b.toArray).drew).heap=((w.drew.alloc (.cells a.toArray 38)).setRow w.heap.size b.toArray).heap:=rfl;have a3:=λc dc=>M _ H c dc;have P:=λc dc h=>O _ I c dc h
 go_wp2_with (at_builtin;refine Lib.wpList_append_run _ rfl _ _ _ _ rfl _ _ rfl rfl _ _ (A _) ?_)
 go_region_law_o (refine step_copy_runI rfl _ _ 28 28 rfl _ _ (by simp[Act.eval,Act.put]) (by simp[Act.eval,Act.put]) (P _ _ _) ?_)
 go_wp2
 go_ret;exact⟨rfl,by rw[ht]<;>rfl⟩
end AM
end Go
