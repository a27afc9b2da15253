/- SnapshotMatchesReference, 6 of 11 -/
import Derived.Test.YtmkbfepnleajhaaGreatDoorXe
set_option maxRecDepth 100000
open List renaming length->Z,any_cons->TD,any_nil->Kq,getElem_set->ale,map_const'->KB,perm_append_comm_assoc->mi,perm_middle->alf
open Option renaming some->T,none->D,map_none->zW
open Bool renaming true->ab,false->aa,and_self->alg
open Decidable renaming decide->S
open Array renaming toList->bU
open Go.Proofs.Tryz renaming prog->a1
open List.Pairwise renaming imp_of_mem->anz
open List.Perm renaming append_left->kJ
open Nat renaming min_le_left->TR
namespace Go
namespace AM
open Go.Law
variable{U O:Nat}
variable{N:List Obj}{jV:Nat -> Nat}
variable{y:Nat}
variable{p:aN}
variable{V F:Bool}
variable{bp:Bool}
variable{b2:Bool}
variable{hv:AV -> Prop}
variable{ed pN:Bool}
variable{Y:AV}
variable{x:List k}{bz:List aO}{bH:k}
variable{fL:List k}{iZ:aO}
variable{eR:k -> Int}
variable{H:aX}
variable{c0:aw}
variable{X:List aw}
variable{aU c1:Int}
variable{dF:bM}
variable{bm:aN}
variable{E:AV}
variable{z:Type}
variable{b3:aM}
variable{gA ir lr:aN}
variable{pO:z -> aN -> Prop}{mW:List aM}{dD m4:z}
variable{c2 jW:Nat}{P:Lit}{bg:List AV}
variable{M:aj}
variable{pJ:aM}
variable{u:aG}
variable{cn:Type}
variable{mT:aX}
variable{hz:Nat × Obj}
section
variable{α:Type}{i3 i4 i5 i10 i16 i18 mv me:Nat}{b:Bool}{A:α->aN->Prop}{wv ev:AV}{Y Xe:aN}{r:aG}{o:List Nat}
theorem ahL{e j:α}(J:O<1000)(z:nR C 116 (I ((O+1:Nat):Int)::u6 i3 i4 i5 i10 i16 i18) mv me A (Y++(jG i3 i4 i5 i10 i16 i18 mv me wv ev b r o++Xe)) H e j):
 nR C 118 [.ptr i18 0 0 0,.ptr U 0 0 0] mv me A (Y++((U,.arr 0 1 [[I (O:Int)]])::(jG i3 i4 i5 i10 i16 i18 mv me wv ev b r o++Xe))) H e j:=by
 intro d c h g f a m E B i;refine YO.hq ?_;have x:=i.get (U:=i18) (iX:=.arr 0 1 [[.fn 116 [] (u6 i3 i4 i5 i10 i16 i18)]]) (by simp[jG]);have y:=i.get (U:=U) (iX:=.arr 0 1 [[I (O:Int)]]) (by simp);have l:∀(k:List AV),[k][0]?=T k:=λ_=>rfl;simp only[cr x (l _),cr y (l _),cv,Q,ba (show O<4611686018427387904 by omega)];refine bj (dD:=116) (b:=I ((O+1:Nat):Int)::u6 i3 i4 i5 i10 i16 i18) rfl ?_
 have F:(ew mv me g f H c h++(d++((Y++((U,Obj.arr 0 1 [[I (O:Int)]])::(jG i3 i4 i5 i10 i16 i18 mv me wv ev b r o++Xe)))++a))).Perm (ew mv me g f H c h++(d++((Y++(jG i3 i4 i5 i10 i16 i18 mv me wv ev b r o++Xe))++((U,.arr 0 1 [[I (O:Int)]])::a)))):=by
  refine kJ _ (kJ _ ?_);rw[fH Y,fH Y];refine kJ _ ?_;exact(mi [(U,Obj.arr 0 1 [[I (O:Int)]])] (jG i3 i4 i5 i10 i16 i18 mv me wv ev b r o++Xe) a)
 refine cY (z d c h g f _ m E B (i.perm F)) rfl ?_;rintro K G ⟨p,n,t,s,q,u,v,w⟩;refine⟨p,n,t,s,q,u,v,w.perm ?_⟩;refine kJ _ (kJ _ ?_);rw[fH Y,fH Y];refine kJ _ ?_;exact(mi [(U,Obj.arr 0 1 [[I (O:Int)]])] (jG i3 i4 i5 i10 i16 i18 mv me wv ev b r o++Xe) a).symm
theorem ahM{G:List AV}(j:B5 M r X bz)(b4:px wv Y (cW b V F bp M X))(d2:lC ev [.agg (cM mv me)]=T (U,G))(d3:G.map AV.pl=G)
 (m:α->aX->α)(a4:List aX)(u:α)(d4:∀pre h p,a4=pre++h::p->nR C U G mv me A Xe h (pre.foldl m u) (m (pre.foldl m u) h))(f3:Z o<=100)(d:Bool):
 ∀{done:List Nat}{t:List k}{v:List Nat},Seq r.ae done t v->∀(a:List Nat)(e:aX)(pre p:List aX),o=a++v->zG M r bz done t e->a4=pre++(kY M X r.ae v e++p)->
  nR C 116 (I (Z a:Int)::u6 i3 i4 i5 i10 i16 i18) mv me A (Y++(jG i3 i4 i5 i10 i16 i18 mv me wv ev d r o++Xe)) e (pre.foldl m u) ((kY M X r.ae v e).foldl m (pre.foldl m u)):=by
 intro done t v i;have l:∀(bb:List AV),[bb][0]?=T bb:=λ_=>rfl;have co:∀{c:List Obj}{a3:aN},w c (a3)->(∀h∈jG i3 i4 i5 i10 i16 i18 mv me wv ev d r o,h∈a3)->c[i10]?=T (.arr 0 1 [[eS aa cN o]])/\c[i5]?=T (.arr 0 1 [[ev]])/\c[i16]?=T (.arr 0 2 [cM mv me])/\c[i3]?=T (.arr 0 1 [[wv]])/\c[i4]?=T (.arr 0 9 [aP d r]):=λi j=>
  ⟨i.get (j _ (by simp[jG])),i.get (j _ (by simp[jG])),i.get (j _ (by simp[jG])),i.get (j _ (by simp[jG])),i.get (j _ (by simp[jG]))⟩
 have ci:∀c:List Obj,c[i16]?=T (.arr 0 2 [cM mv me])->aR 2 ab (.ptr i16 0 0 0) c=T (.agg (cM mv me)):=λc g=>kV g rfl rfl;induction i with
 |nil out t=>
  intro a e pre p R ax bv B y N K H q s ar aq au;refine MY.hq ?_;refine bj (obO_1 (Y:=I (Z a:Int)) rfl) ?_;have n:=au.alloc (.arr 0 1 [[I (Z a:Int)]]);generalize s++[Obj.arr 0 1 [[I (Z a:Int)]]]=c at*;generalize Z s=f at*;have ak:=n.get (U:=f) (iX:=.arr 0 1 [[I (Z a:Int)]]) (by simp);obtain⟨ac,ah,ad,bf,af⟩:=co n (by simp_all);have aB:(Z a:Int)=Z o:=by rw[R];simp
  simp only[cr ak (l _),cr ac (l _),cr ah (l _),ci _ ad,cv,Q,a8,c9,yM];refine a7 (bj d2 ?_) (by simp[aB]);have bi:=(d4 pre e p (by grind[kY])).frame (Y++jG i3 i4 i5 i10 i16 i18 mv me wv ev d r o);rw[fH]at bi;refine cY (bi B y N K H _ c ar aq n.toEnd) d3 ?_;rintro e2 a0 ⟨E,z,O,L,J,S,be,W⟩;exact⟨E,z,O,L,J,S,be,W.Sd.tail⟩
 |cons out t aQ x ce P d9 bw i eq=>
  intro a e pre p R ax bv B y N K H q s ar aq au;refine MY.hq ?_;refine bj (obO_1 (Y:=I (Z a:Int)) rfl) ?_;have n:=au.alloc (.arr 0 1 [[I (Z a:Int)]]);generalize s++[Obj.arr 0 1 [[I (Z a:Int)]]]=c at*;generalize Z s=f at*;have ak:=n.get (U:=f) (iX:=.arr 0 1 [[I (Z a:Int)]]) (by simp);obtain⟨ac,ah,ad,bf,af⟩:=co n (by simp_all);have d6:Z a<Z o:=by rw[R];simp
  have d7:o[Z a]=aQ:=by subst R;simp
  have aB:((Z a:Int)==Z o)=false:=by simp;omega
  obtain⟨d5,d8⟩:=e6.1 P;have cs:(aP d r)[0+7]?=T (eS d (a5 d) r.ae):=rfl;simp only[cr ak (l _),cr ac (l _),cr ah (l _),cr bf (l _),eb af,cr af (l _),cs,ci _ ad,cv,Q,a8,c9,yM];refine bq ?_ aB;rw[aC d6 (Og _)];simp only[Q,aH,Oh,d7];rw[aC d5 (h9 _ _)];simp only[Q,l1,d8,yN];have d1:kY M X r.ae (aQ::x) e=(e5 M X e ce).flatMap (kY M X r.ae x):=by rw[kY,P]
  rw[d1]at bv⊢;have ds:=ahK (z:=α) (ed:=d) (U:=mv) (O:=me) (pO:=A) (E:=.fn 118 [] [.ptr i18 0 0 0,.ptr f 0 0 0]) (bm:=(f,.arr 0 1 [[I (Z a:Int)]])::(jG i3 i4 i5 i10 i16 i18 mv me wv ev d r o++Xe)) (dD:=pre.foldl m u) b4 (ax.lit j P d9 bw) (y:=118) (bg:=[.ptr i18 0 0 0,.ptr f 0 0 0]) rfl rfl rfl rfl (λa9 h=>(kY M X r.ae x h).foldl m a9) ?_
  ·have d0:w c (ew mv me K H e y N++(B++((Y++((f,.arr 0 1 [[I (Z a:Int)]])::(jG i3 i4 i5 i10 i16 i18 mv me wv ev d r o++Xe)))++q))):=by
    refine n.toEnd.perm (kJ _ (kJ _ ?_));rw[fH Y,fH Y];refine kJ _ ?_;exact(mi [(f,Obj.arr 0 1 [[I (Z a:Int)]])] (jG i3 i4 i5 i10 i16 i18 mv me wv ev d r o++Xe) q).symm
   refine cY (ds B y N K H q c ar aq d0) (by simp[b4.pl]) ?_;rintro e2 a0 ⟨E,z,O,L,J,S,be,W⟩;refine⟨E,z,O,L,J,S,?_,?_⟩
   ·grind[JC]
   ·have dl:w a0 (ew mv me L J e z O++(E++((Y++(jG i3 i4 i5 i10 i16 i18 mv me wv ev d r o++Xe))++((f,.arr 0 1 [[I (Z a:Int)]])::q)))):=by
     refine W.perm (kJ _ (kJ _ ?_));rw[fH Y,fH Y];refine kJ _ ?_;exact(mi [(f,Obj.arr 0 1 [[I (Z a:Int)]])] (jG i3 i4 i5 i10 i16 i18 mv me wv ev d r o++Xe) q)
    exact dl.Sd.tail
  ·intro ex h fd el
   have em:h∈e5 M X e ce:=by rw[el];simp
   have br:=eq (a++[aQ]) h (pre++ex.flatMap (kY M X r.ae x)) (fd.flatMap (kY M X r.ae x)++p) (by grind) (ax.next j P bw em) (by grind);rw[vj,JC]at br;rw[fb,gz]at br;grind[ahL]
end
def rH(c:Nat)(a:Nat->Bool):List (List AV):=(List.range c).map λb=>cB (a b)
theorem Se(a:Nat->Bool)(b:O<U):(rH U a)[O]?=T (cB (a O)):=by simp[rH,b]
theorem ahN(a:Nat->Bool)(c b:Nat)(d:Bool):(rH c a).set b (cB d)=rH c (Go.Law.b6 a b d):=by
 refine wI λe=>?_;grind[Go.Law.b6,rH]
def rI(d:AV)(a:List Nat)(c:aN):Prop:=(a=[]/\d=.ai/\c=[])\/∃id g b,d=.q id g 0 (Z a)/\Z a<=Z b/\b.take (Z a)=a.map cN/\c=[(id,.arr g 1 b)]
def wx(a:Nat×List Nat):List AV:=[.q a.1 0 0 (Z a.2)]
def B6(a:Nat×List Nat):Nat×Obj:=(a.1,.arr 0 1 (a.2.map cN))
def u7(e:AV)(c:List (List Nat))(d:aN):Prop:=∃a b,c=a.map Prod.snd/\bA e wx 1 a b/\d=b++a.map B6
variable{bu:List Nat}
theorem rI.pl(a:rI Y bu p):Y.pl=Y/\Y.bP=true:=by
 rcases a with⟨-,rfl,-⟩|⟨id,g,b,rfl,-⟩<;>exact⟨rfl,rfl⟩
variable{im:List (List Nat)}
theorem u7.pl(a:u7 Y im p):Y.pl=Y/\Y.bP=true:=by
 obtain⟨b,c,-,a,-⟩:=a;exact⟨a.pl,a.cell⟩
structure rJ where
 c:Nat
 x:Nat
 jx:Nat
 l:Nat
 jl:Nat
 o:Nat
 jo:Nat
 s:Nat
 n:Nat
 v:Nat
 u:Nat
 e:Nat
 je:Nat
def one(a:AV):Obj:=.arr 0 1 [[a]]
def pt(a:Nat):AV:=.ptr a 0 0 0
def rJ.Fj(a:rJ):List AV:=[pt a.c,pt a.x,pt a.l,pt a.o,pt a.s,pt a.n,pt a.v,pt a.u,pt a.e]
def dd(a:rJ)(b:Nat)(f:Nat->List Nat)(d:TS)(j i:AV)(h g:aN):aN:=
 (a.c,one (I (d.count:Int)))::(a.x,one (.q a.jx 0 0 b))::(a.jx,.arr 0 1 (fV b d.aQ))::(a.l,one (.q a.jl 0 0 b))::(a.jl,.arr 0 1 (fV b d.b4))::(a.o,one (.q a.jo 0 0 b))::(a.jo,.arr 0 1 (rH b d.eo))::
  (a.s,one j)::(a.n,one (eS aa cG ((List.range b).map f)))::(a.v,one (.fn 165 [] a.Fj))::(a.u,one i)::(a.e,one (.q a.je 0 0 b))::(a.je,.arr 0 1 (fV b d.of))::(h++g)
section
variable{d:rJ}{n:Nat}{G:Nat->List Nat}{s:TS}{sv ov:AV}{PS PO F:aN}{H:List Obj}
theorem u9(b:w H (dd d n G s sv ov PS PO++F)){a:AV}(c:(U,one a)∈dd d n G s sv ov PS PO):aR 1 aa (pt U) H=T a:=gm (b.get (iX:=one a) (by grind)) rfl
theorem JD(a:w H (dd d n G s sv ov PS PO++F)):aR 1 aa (pt d.c) H=T (I (s.count:Int)):=u9 a (by simp[dd])
theorem Fk(a:w H (dd d n G s sv ov PS PO++F)):aR 1 aa (pt d.x) H=T (.q d.jx 0 0 n):=u9 a (by simp[dd])
theorem B7(a:w H (dd d n G s sv ov PS PO++F)):aR 1 aa (pt d.l) H=T (.q d.jl 0 0 n):=u9 a (by simp[dd])
theorem zH(a:w H (dd d n G s sv ov PS PO++F)):aR 1 aa (pt d.o) H=T (.q d.jo 0 0 n):=u9 a (by simp[dd])
theorem JE(a:w H (dd d n G s sv ov PS PO++F)):aR 1 aa (pt d.s) H=T sv:=u9 a (by simp[dd])
theorem ahO(a:w H (dd d n G s sv ov PS PO++F)):aR 1 aa (pt d.n) H=T (eS aa cG ((List.range n).map G)):=u9 a (by simp[dd])
theorem Sf(a:w H (dd d n G s sv ov PS PO++F)):aR 1 aa (pt d.v) H=T (.fn 165 [] d.Fj):=u9 a (by simp[dd])
theorem JF(a:w H (dd d n G s sv ov PS PO++F)):aR 1 aa (pt d.u) H=T ov:=u9 a (by simp[dd])
theorem Sg(a:w H (dd d n G s sv ov PS PO++F)):aR 1 aa (pt d.e) H=T (.q d.je 0 0 n):=u9 a (by simp[dd])
theorem JG(a:w H (dd d n G s sv ov PS PO++F)):H[d.jx]?=T (.arr 0 1 (fV n s.aQ)):=a.get (by simp[dd])
theorem JH(a:w H (dd d n G s sv ov PS PO++F)):H[d.jl]?=T (.arr 0 1 (fV n s.b4)):=a.get (by simp[dd])
theorem JI(a:w H (dd d n G s sv ov PS PO++F)):H[d.jo]?=T (.arr 0 1 (rH n s.eo)):=a.get (by simp[dd])
theorem JJ(a:w H (dd d n G s sv ov PS PO++F)):H[d.je]?=T (.arr 0 1 (fV n s.of)):=a.get (by simp[dd])
theorem zI{f a:AV}{b c:aN}(d:w H (b++(U,one f)::c))(e:a.pl=a/\a.bP=ab):df 1 (pt U) a H=T (H.set U (one a))/\w (H.set U (one a)) (b++(U,one a)::c):=
 ⟨k1 (d.get (iX:=one f) (by simp)) rfl (by omega) e.1 e.2,w.qF d _⟩
theorem ahP(e:w H (dd d n G s sv ov PS PO++F))(b:Nat):∃a,df 1 (pt d.c) (I (b:Int)) H=T a/\w a (dd d n G {s with count:=b} sv ov PS PO++F):=
 ⟨_,zI (b:=[]) e ⟨rfl,rfl⟩⟩
theorem Sh(c:w H (dd d n G s sv ov PS PO++F)){a:AV}(e:a.pl=a/\a.bP=ab):∃b,df 1 (pt d.s) a H=T b/\w b (dd d n G s a ov PS PO++F):=
 ⟨_,zI (b:=[_,_,_,_,_,_,_]) c e⟩
theorem ahQ(c:w H (dd d n G s sv ov PS PO++F)){a:AV}(e:a.pl=a/\a.bP=ab):∃b,df 1 (pt d.u) a H=T b/\w b (dd d n G s sv a PS PO++F):=
 ⟨_,zI (b:=[_,_,_,_,_,_,_,_,_,_]) c e⟩
theorem ahR(c:w H (dd d n G s sv ov PS PO++F))(e:U<n)(a:Nat):∃b,df 1 (.ptr d.jx 0 U 0) (I (a:Int)) H=T b/\w b (dd d n G {s with aQ:=Go.Law.b6 s.aQ U a} sv ov PS PO++F):=
 ⟨_,BZ a (JG c) e,w.qF (p:=[_,_]) c _⟩
theorem JK(c:w H (dd d n G s sv ov PS PO++F))(e:U<n)(a:Nat):∃b,df 1 (.ptr d.jl 0 U 0) (I (a:Int)) H=T b/\w b (dd d n G {s with b4:=Go.Law.b6 s.b4 U a} sv ov PS PO++F):=
 ⟨_,BZ a (JH c) e,w.qF (p:=[_,_,_,_]) c _⟩
theorem ahS(c:w H (dd d n G s sv ov PS PO++F))(e:U<n)(a:Nat):∃b,df 1 (.ptr d.je 0 U 0) (I (a:Int)) H=T b/\w b (dd d n G {s with of:=Go.Law.b6 s.of U a} sv ov PS PO++F):=
 ⟨_,BZ a (JJ c) e,w.qF (p:=[_,_,_,_,_,_,_,_,_,_,_,_]) c _⟩
theorem Si(c:w H (dd d n G s sv ov PS PO++F))(e:U<n)(a:Bool):∃b,df 1 (.ptr d.jo 0 U 0) (.bool a) H=T b/\w b (dd d n G {s with eo:=Go.Law.b6 s.eo U a} sv ov PS PO++F):=by
 refine⟨_,?_,w.qF (p:=[_,_,_,_,_,_]) c _⟩;rw[BR (JI c) (Se _ e) (by simp[cB]) rfl rfl];have:(cB (s.eo U)).set 0 (.bool a)=cB a:=rfl;rw[this,ahN]
theorem va(a:w H (dd d n G s sv ov PS PO++F))(b:U<n):bY 1 (.q d.jx 0 0 n) (I (U:Int)) H=T (.ptr d.jx 0 U 0)/\aR 1 aa (.ptr d.jx 0 U 0) H=T (I (s.aQ U:Int)):=⟨e3 (JG a) b,zB (JG a) b⟩
theorem vb(a:w H (dd d n G s sv ov PS PO++F))(b:U<n):bY 1 (.q d.jl 0 0 n) (I (U:Int)) H=T (.ptr d.jl 0 U 0)/\aR 1 aa (.ptr d.jl 0 U 0) H=T (I (s.b4 U:Int)):=⟨e3 (JH a) b,zB (JH a) b⟩
theorem ahT(a:w H (dd d n G s sv ov PS PO++F))(b:U<n):bY 1 (.q d.je 0 0 n) (I (U:Int)) H=T (.ptr d.je 0 U 0):=e3 (JJ a) b
theorem Fl(a:w H (dd d n G s sv ov PS PO++F))(b:U<n):bY 1 (.q d.jo 0 0 n) (I (U:Int)) H=T (.ptr d.jo 0 U 0)/\aR 1 aa (.ptr d.jo 0 U 0) H=T (.bool (s.eo U)):=⟨e3 (JI a) b,by rw[cr (JI a) (Se _ b)]<;>rfl⟩
theorem ahU(c:U<n)(H:List Obj):bY 1 (eS aa cG ((List.range n).map G)) (I (U:Int)) H=T (.aK aa (cG (G U)) 0):=by
 have:=aC (V:=false) (a2:=cG) (o:=(List.range n).map G) (U:=U) (N:=H) (O:=1) (by grind) rfl;grind
end
theorem ahV(h:rI Y bu p)(c:w N (p++bm))(a:Nat)(i:Z bu<1000000):
 ∃f e d,cx 1 8 Y (.sl aa [cN a]) N=T (f,d)/\rI f (bu++[a]) e/\w d (e++bm):=by
 rcases h with⟨rfl,rfl,rfl⟩|⟨id,g,b,rfl,j,l,rfl⟩
 ·refine⟨_,_,_,nu rfl rfl (by simp),.inr ⟨Z N,0,[cN a],rfl,by simp,by simp,rfl⟩,w.alloc c _⟩
 ·have k:=c.get (U:=id) (iX:=.arr g 1 b) (by simp)
  refine⟨.q id (g+1) 0 (Z bu+1),[(id,.arr (g+1) 1 (b.take (Z bu)++[cN a]))],N.set id (.arr (g+1) 1 (b.take (Z bu)++[cN a])),?_,.inr ⟨id,g+1,_,by simp,by simp;omega,?_,rfl⟩,w.set c _⟩
  ·have m:hQ N 1 (.sl aa [cN a])=T [cN a]:=rfl
   grind[cx,AV.isNil]
  grind
theorem ahW(e:rI Y bu p)(b:w N (p++bm)):aI N .cm Y (eS ab cN bu):=by
 rcases e with⟨rfl,rfl,rfl⟩|⟨id,g,a,rfl,f,d,rfl⟩
 ·exact .ai _ _
 ·have c:=b.get (U:=id) (iX:=.arr g 1 a) (by simp)
  refine .vq id g 0 (Z bu) 1 a _ c (by omega) ?_;rw[jR,d];have:n9 (bu.map cN):=by
   clear b c f d;induction bu with
   |nil=>exact .nil
   |cons i bu h=>exact .cons _ _ (Of i) h
  exact this.snap
theorem ahX(a:Bool)(b:List Nat):eS a cN b=eS a cI (b.map λ(c:Nat)=>(c:Int)):=by
 simp_all[eS,cN,cI]
theorem ahY(b:U∈bu):bN (λf:Int=>((U:Int)==f)) (bu.map λ(e:Nat)=>(e:Int))=(bu.idxOf U:Nat):=by
 have i:=ala b;refine sU (by grind) (λd h c=>?_) ?_
 ·rw[wH,beq_eq_false_iff_ne]
  intro a;have a:U=bu[d]'(by omega):=by omega
  have g:=List.not_of_lt_findIdx c;grind
 ·simp
theorem ahZ(a:rI Y bu p)(c:w N (p++bm))(d:U∈bu)(h:Z bu<1000000)(e:hv (I (bu.idxOf U:Nat))):cp C 166 [Y,I (U:Int)] N hv:=by
 have b:=Ni (V:=true) (bu.map λ(f:Nat)=>(f:Int)) (U:Int) (by grind[Sm]);rw[ahY d,<-ahX]at b;refine ea _ b ?_ (.int _ _) e;simp only[eJ,oL,a.pl.1];exact .ck (ahW a c) (.ck (.int _ _ _) (.nil _))
def zJ(a:rJ)(b:Nat)(f:Nat->List Nat)(d:TS)(h g:AV):aN:=
 [(a.c,one (I (d.count:Int))),(a.x,one (.q a.jx 0 0 b)),(a.jx,.arr 0 1 (fV b d.aQ)),(a.l,one (.q a.jl 0 0 b)),(a.jl,.arr 0 1 (fV b d.b4)),(a.o,one (.q a.jo 0 0 b)),(a.jo,.arr 0 1 (rH b d.eo)),
  (a.s,one h),(a.n,one (eS aa cG ((List.range b).map f))),(a.v,one (.fn 165 [] a.Fj)),(a.u,one g),(a.e,one (.q a.je 0 0 b)),(a.je,.arr 0 1 (fV b d.of))]
section
variable{d:rJ}{n:Nat}{G:Nat->List Nat}{s:TS}{sv ov:AV}{PS PO F:aN}{H:List Obj}
theorem Fm:dd d n G s sv ov PS PO++F=zJ d n G s sv ov++(PS++(PO++F)):=by
 have:dd d n G s sv ov PS PO=zJ d n G s sv ov++(PS++PO):=rfl;rw[this,fH,fH]
theorem Fo(a:w H (dd d n G s sv ov PS PO++F)):w H (PS++(zJ d n G s sv ov++(PO++F))):=by
 grind[Fm,w.swap]
theorem ah0(a:w H (PS++(zJ d n G s sv ov++(PO++F)))):w H (dd d n G s sv ov PS PO++F):=by
 rw[Fm];exact w.swap a
theorem Sj(a:w H (dd d n G s sv ov PS PO++F)):w H (PO++(zJ d n G s sv ov++(PS++F))):=by
 rw[Fm]at a;exact a.perm (by grind[List.perm_append_comm_assoc,trans])
theorem ah1(a:w H (PO++(zJ d n G s sv ov++(PS++F)))):w H (dd d n G s sv ov PS PO++F):=by
 rw[Fm];exact a.perm (by grind[List.perm_append_comm_assoc,trans])
end
def dM(a:List Nat):List Nat:=(List.range (a.foldl max 0+1)).filter λb=>S (b∈a)
theorem ah2:∀{b a:Nat},a<=b\/a∈bu->a<=bu.foldl max b:=by
 induction bu with
 |nil=>grind
 |cons e bu c=>
  intro b a d;rw[oJ];refine c ?_;grind
theorem zK(a:List Nat)(b:Nat):b∈dM a<->b∈a:=by
 simp only[dM,tF,la,decide_eq_true_eq];grind[ah2]
theorem Sk(a:List Nat):(dM a).Pairwise (· <·):=Km.sublist FA
theorem ah3{a:List Nat}(d:a.Perm bu)(b:bu.Nodup)(e:a.Pairwise (· <=·)):a=dM bu:=by
 refine Iu ?_ (Sk bu) (by grind[zK]);have c:=d.symm.nodup b;exact(e.and c).imp λf=>by omega
structure B8(C:eD):Prop where
 ah4:∀{H:List Obj}{id g off m:Nat}{es:List (List AV)},H[id]?=T (.arr g 1 es)->off+m<=Z es->0<m->m<=1000000->C 167 [.q id g off m] H (.q (Z H+1) 0 0 m) (H++[.arr 0 1 [],.arr 0 1 ((es.drop off).take m)])
def JL(j:rJ)(b:Nat)(h:Nat->List Nat)(a:TS)(g:aN)(k:AV)(i:List Obj):Prop:=
 k=.aE []/\a.count+a.mh b<=b/\∃f e d c,rI f a.bw d/\u7 e a.out c/\w i (dd j b h a f e d c++g)
variable{bS:List (List AV)}
theorem ah5(a:bS.take (Z bu)=bu.map cN):(bS.drop U).take (Z bu -U)=(bu.drop U).map cN:=by
 rw[Ku,<-a,Tv]
theorem Sl(a:U∈bu):bu.idxOf U<Z bu:=by grind
theorem ah6(a:List Nat):a.map cN=fV (Z a) (λb=>a.getD b 0):=by
 grind[List.ext_getElem,fV,List.length_map,List.getD]
theorem ah7(a:Nat->Nat)(b:Nat):fV b a=(k6 a b).map cN:=by simp_all[fV,k6]
theorem ah8(a:List Nat):k6 (λb=>a.getD b 0) (Z a)=a:=by
 refine sH (by simp[k6]) λe c d=>?_;grind[k6]
theorem ah9(f c d:Nat×Obj)(e a b:aN):(f::(e++(a++d::c::b))).Perm (f::((e++[c])++(a++d::b))):=by
 rw[fH];exact .cons _ (kJ _ (((List.Perm.swap c d b).append_left a).trans alf))
variable{dH:Nat -> List Nat}{fr:TS}
theorem aia(d3:B8 C){h:rJ}(i3:U<=1000)(a4:O∈fr.bw)(i8:∀af∈fr.bw,af<U)(i4:fr.bw.Nodup)(eq:Z (fr.bw.drop (fr.bw.idxOf O))<=12)(i5:Z fr.out<=1000)(i2:Z fr.bw<=1000)
 (fs:fr.count+fr.mh U<=U){H:List Obj}(J:rI Y fr.bw bm)(b4:u7 E fr.out gA)(B:w H (dd h U dH fr Y E bm gA++p))(aq:AV->List Obj->Prop)(fn:∀ae ak,JL h U dH (fr.pop dM O) p ae ak->aq ae ak):
 bd (aR 1 aa (pt h.s) H) λgM=>
 cp C 166 [gM,I (O:Int)] H λcs=>
 bd (aR 1 aa (pt h.s) H) λgN=>
 bd (dV (.sl 1) gN (T cs) D H) λha=>
 ch C 167 [ha] H λM S=>
 bd (aR 1 aa (pt h.s) S) λhe=>
 bd (dV (.sl 1) he D (T cs) S) λhg=>
 bd (df 1 (pt h.s) hg S) λa0=>
 bd (fX .sl M a0) λhh=>
 iC (λP r Es=>
 bd (aS .s .lss (g P 0) hh) λhj=>
 dY hj (
 bd (bY 1 M (g P 0) r) λhl=>
 bd (aR 1 aa hl r) λdl=>
 bd (aR 1 aa (pt h.e) r) λhm=>
 bd (aR 1 aa (pt h.o) r) λds=>
 bd (aR 1 aa (pt h.u) r) λhn=>
 bd (fX .sl hn r) λho=>
 bd (bY 1 hm dl r) λhs=>
 bd (df 1 hs ho r) λV=>
 (
 bd (aR 1 aa (pt h.o) V) λhu=>
 ob hu ds)/\(
 bd (bY 1 ds dl V) λgh=>
 bd (df 1 gh ff V) λd9=>
 bd (aS .s .add (g P 0) (I 1)) λgi=>
 Es [gi] d9)) (
 ch C 168 [M] r λi9 aB=>
 bd (aR 1 aa (pt h.u) aB) λgj=>
 bd (fw 1 [.ai] 1 [(0,M)]) λgo=>
 cc (cx 1 24 gj go aB) λgt el=>
 bd (df 1 (pt h.u) gt el) λem=>
 aq (.aE []) em)) [(I 0)] a0:=by
 rw[JE B,Q];refine ahZ J (Fo B) a4 (by omega) ?_;rw[Q];have it:=Sl a4;obtain⟨id,g,j,rfl,i1,f9,rfl⟩:∃id g j,Y=.q id g 0 (Z fr.bw)/\Z fr.bw<=Z j/\j.take (Z fr.bw)=fr.bw.map cN/\bm=[(id,.arr g 1 j)]:=by
  rcases J with⟨ip,-,-⟩|J
  ·grind
  ·exact J
 have ce:=(Fo B).get (U:=id) (iX:=.arr g 1 j) (by simp);rw[Er ce (y:=fr.bw.idxOf O) (by omega),Q];generalize f3:Z fr.bw -fr.bw.idxOf O=m;have bv:Z (fr.bw.drop (fr.bw.idxOf O))=m:=by simp;omega
 have a9:=d3.ah4 (H:=H) (id:=id) (g:=g) (off:=fr.bw.idxOf O) (m:=m) ce (by omega) (by omega) (by omega);refine⟨_,_,a9,?_⟩;have bb:(j.drop (fr.bw.idxOf O)).take m=(fr.bw.drop (fr.bw.idxOf O)).map cN:=by rw[<-f3];exact ah5 f9
 rw[bb];generalize f0:fr.bw.drop (fr.bw.idxOf O)=c at bv eq bb⊢;generalize f1:Z H+1=i;have au:H++[Obj.arr 0 1 [],Obj.arr 0 1 (c.map cN)]=(H++[.arr 0 1 []])++[.arr 0 1 (c.map cN)]:=by simp
 have F:w ((H++[.arr 0 1 []])++[.arr 0 1 (c.map cN)]) (dd h U dH fr (.q id g 0 (Z fr.bw)) E [(id,.arr g 1 j)] gA++((i,.arr 0 1 (c.map cN))::p)):=by
  have:=w.alloc (B.app [.arr 0 1 []]) (.arr 0 1 (c.map cN));simp only[fb,gz,f1]at this;exact(by grind[w.front,dd])
 rw[au];clear a9 au;generalize(H++[Obj.arr 0 1 []])++[Obj.arr 0 1 (c.map cN)]=hw at F⊢;dsimp only;rw[JE F,Q];have f4:=(Fo F).get (U:=id) (iX:=.arr g 1 j) (by simp);rw[Pc f4 (y:=fr.bw.idxOf O) (by omega),Q];obtain⟨d0,d4,es⟩:=Sh F (a:=.q id g 0 (fr.bw.idxOf O)) ⟨rfl,rfl⟩;rw[d4,Q,nj,Q];have f7:rI (.q id g 0 (fr.bw.idxOf O)) (fr.bw.take (fr.bw.idxOf O)) [(id,.arr g 1 j)]:=by
  refine .inr ⟨id,g,j,?_,?_,?_,rfl⟩
  ·grind
  ·grind
  ·grind[List.length_take,Nat.min_eq_left,List.map_take]
 have i0:∀af∈c,af<U:=by grind
 refine bB (z:=Nat×List Obj) (λn=>[I (n.1:Int)]) (λn=>n.2) (λn=>m -n.1) (λn=>n.1<=m/\w n.2 (dd h U dH {fr with of:=λd=>if d∈c.take n.1 then Z fr.out else fr.of d,eo:=λd=>if d∈c.take n.1 then aa else fr.eo d} (.q id g 0 (fr.bw.idxOf O)) E [(id,.arr g 1 j)] gA++((i,.arr 0 1 (c.map cN))::p))) (0,d0) ⟨by simp,by simpa using es⟩ ?_;rintro⟨f,h3⟩ ⟨f2,l⟩ ii ci;simp only at f2 l ci⊢;simp only[G,A,Q,a]
 refine b (λad=>?_) (λX=>?_)
 ·have ad:f<m:=by simpa using ad
  have bf:f<Z c:=by omega
  have be:=l.get (U:=i) (iX:=.arr 0 1 (c.map cN)) (by simp);rw[e3 be (show f<m from ad),Q,cr be (bg:=cN c[f]) (by simp[bf])];rw[show(cN c[f])[0]?=T (I (c[f]:Int))from rfl,Q,Sg l,Q,zH l,Q,JF l,Q];obtain⟨k,d2,W,ac,a3⟩:=b4;have K:c[f]<U:=by simp_all
  have bi:Z k=Z fr.out:=by rw[W];simp
  rw[ac.ln,Q,ahT l K,Q,bi];obtain⟨d1,d5,t⟩:=ahS l K (Z fr.out);rw[d5,Q,zH t,Q];refine⟨rfl,?_⟩;rw[(Fl t K).1,Q];obtain⟨N,R,v⟩:=Si t K aa;rw[R,Q,ba,Q];refine ci (f+1,N) ⟨by omega,?_⟩ (by omega);have ax:∀{ah:Type}(L:ah)(x:Nat->ah),Go.Law.b6 (λd=>if d∈c.take f then L else x d) c[f] L=λd=>if d∈c.take (f+1)then L else x d:=by
   intro ah L x
   funext d
   rw[hX bf];simp only[Go.Law.b6,c5,lV];by_cases ar:d=c[f]
   ·simp[ar]
   ·simp[ar]
  simp only at v⊢;rw[ax,ax]at v;exact v
 ·have X:f=m:=by simp at X;omega
  subst X;rw[fW (by omega)]at l;rw[ah6 c,bv]at l;have f6:=ahm (id:=i) (g:=0) (U:=f) (jV:=λgc=>c.getD gc 0) (p:=dd h U dH {fr with of:=λd=>if d∈c then Z fr.out else fr.of d,eo:=λd=>if d∈c then aa else fr.eo d} (.q id g 0 (fr.bw.idxOf O)) E [(id,.arr g 1 j)] gA++p) (by omega) (w.back l);refine cY f6 rfl ?_;rintro ae d1 ⟨rfl,d8,i6,i7,t⟩;have fI:c.Nodup:=by grind
  have br:k6 d8 f=dM c:=by
   refine ah3 ?_ fI ?_
   ·grind[ah8]
   ·grind[k6,List.Pairwise.imp_of_mem,List.pairwise_lt_range]
  have f8:Z (dM c)=f:=by rw[<-br];simp[k6]
  rw[ah7,br]at t;have aQ:=w.front (p:=dd h U dH {fr with of:=λd=>if d∈c then Z fr.out else fr.of d,eo:=λd=>if d∈c then aa else fr.eo d} (.q id g 0 (fr.bw.idxOf O)) E [(id,.arr g 1 j)] gA) t;rw[JF aQ,Q];rw[show fw 1 [.ai] 1 [(0,.q i 0 0 f)]=T (.sl aa [wx (i,dM c)])by rw[wx,f8]<;>rfl,Q];obtain⟨k,d2,W,ac,a3⟩:=b4;have bi:Z k=Z fr.out:=by rw[W];simp
  have v:=Sj aQ;rw[a3,fH]at v;obtain⟨z,y,N,R,ex⟩:=bA.app (bytes:=24) ac v (i,dM c) rfl (by omega);refine bj R ?_;have e2:w N (dd h U dH {fr with of:=λd=>if d∈c then Z fr.out else fr.of d,eo:=λd=>if d∈c then aa else fr.eo d} (.q id g 0 (fr.bw.idxOf O)) E [(id,.arr g 1 j)] ((z,.arr y 1 ((k++[(i,dM c)]).map wx))::(k++[(i,dM c)]).map B6)++p):=by
   refine ah1 ?_;refine ex.perm ?_;rw[ht (f:=B6)];exact(by grind[ah9,B6,dM])
  obtain⟨h4,d6,fd⟩:=ahQ e2 (a:=.q z y 0 (Z (k++[(i,dM c)]))) ⟨rfl,rfl⟩;rw[d6,Q];have d7:fr.pop dM O={fr with bw:=fr.bw.take (fr.bw.idxOf O),eo:=λd=>if d∈c then aa else fr.eo d,of:=λd=>if d∈c then Z fr.out else fr.of d,out:=fr.out++[dM c]}:=by
   rw[TS.pop,f0]
  have f5:u7 (.q z y 0 (Z (k++[(i,dM c)]))) (fr.out++[dM c]) ((z,.arr y 1 ((k++[(i,dM c)]).map wx))::(k++[(i,dM c)]).map B6):=
   ⟨k++[(i,dM c)],[(z,.arr y 1 ((k++[(i,dM c)]).map wx))],by grind,bA.of,rfl⟩
  refine fn _ _ ?_;rw[d7];exact⟨rfl,fs,_,_,_,_,f7,f5,fd⟩
theorem Sn(b:Inv dH U fr bu):fr.bw.Nodup/\(∀a∈fr.bw,a<U)/\Z fr.bw<=U:=by
 have d:fr.bw.Nodup:=b.fC.imp (by grind);have e:∀a∈fr.bw,a<U:=λa c=>b.lt a (b.jF a c);simp_all[CU]
def wy(a:List (List Nat)):Prop:=∀g∈a,g.Pairwise (· <·)/\g≠[]
structure So(d:rJ)(n:Nat)(G:Nat->List Nat)(F:aN)(f:Nat)(s0:TS)(gr:List Nat)(a:Nat)(dl:Nat)(i:Nat)(t:TS)(sv ov:AV)(PS PO:aN)(H:List Obj):Prop where
 le:i<=Z (G a)
 ci:oH G n s0 t gr a ((G a).take i)
 eq:rF dM G f a (G a) (s0.enter a)=rF dM G f a ((G a).drop i) t
 wh:t.mh n<=f
 cw:t.count+t.mh n<=n
 ol:Z t.out+(dl+1)<=t.count
 ok:wy t.out
 st:rI sv t.bw PS
 ou:u7 ov t.out PO
 hH:w H (dd d n G t sv ov PS PO++F)
theorem aib(ha:B8 C){q:rJ}(h3:U<=1000)(ex:∀E,E<U->∀O∈dH E,O<U)(hl:∀E,Z (dH E)<=100000)(hj:∀ah:List Nat,ah.Nodup->(∀E∈ah,∀O∈ah,gK dH E O)->Z ah<=12):
 ∀(k d:Nat)(i:TS)(z:List Nat)(dl:Nat)(ak N:AV)(W K:aN)(S:List Obj),Inv dH U i z->i.aQ d=0->d<U->(∀g∈z,gK dH g d)->i.mh U<=k->i.count+i.mh U<=U->Z i.out+dl<=i.count->wy i.out->rI ak i.bw W->u7 N i.out K->
  w S (dd q U dH i ak N W K++p)->HR C 165 [I (d:Int),pt q.c,pt q.x,pt q.l,pt q.o,pt q.s,pt q.n,pt q.v,pt q.u,pt q.e] S (λR V=>JL q U dH (ih dM dH k d i) p R V/\Z (ih dM dH k d i).out+dl<=(ih dM dH k d i).count/\wy (ih dM dH k d i).out):=by
 intro k;induction k with
 |zero=>
  intro d i z dl ak N W K S ae X r bi i6;have:=E9 (fr:=i) r X;omega
 |succ k i8=>
  intro d i z dl ak N W K S ae X r bi i6 lc lw ip i3 ii m;have mp:=E9 (fr:=i) r X;have hn:=RG ae X r bi;have ho:i.count+1+(i.enter d).mh U<=U:=by omega
  obtain⟨lt,lm,md⟩:=Sn ae;refine Xu.hq ?_;rw[JD m,Q,ba,Q];obtain⟨f9,d6,H⟩:=ahP m (i.count+1);rw[d6,Q,Fk H,Q,B7 H,Q,zH H,Q,JD H,Q,Q,(va H r).1,Q];obtain⟨gc,d7,L⟩:=ahR H r (i.count+1);rw[d7,Q];refine⟨by rw[JD L,Q]<;>rfl,by rw[zH L,Q]<;>rfl,by rw[B7 L,Q]<;>rfl,?_⟩;rw[(vb L r).1,Q];obtain⟨ge,d8,Y⟩:=JK L r (i.count+1);rw[d8,Q];refine⟨by rw[zH Y,Q]<;>rfl,?_⟩;rw[(Fl Y r).1,Q];obtain⟨gi,d9,bb⟩:=Si Y r ab
  rw[d9,Q,JE bb,Q,Bo,Q];obtain⟨f7,d5,gj,el,f2,es⟩:=ahV i3 (Fo bb) d (by omega);refine bj el ?_;obtain⟨d4,em,ac⟩:=Sh (ah0 es) f2.pl;rw[em,Q];replace ac:w d4 (dd q U dH (i.enter d) f7 N d5 K++p):=ac;clear H L Y bb es d6 d7 d8 d9 el em f9 gc ge gi gj;rw[ahO ac,Q,ahU r,Q,aH,show(cG (dH d))[0]?=T (eS aa cN (dH d))from rfl,Q,a8,Q]
  refine bB (z:=Nat×TS×AV×AV×aN×aN×List Obj) (λy=>[I (y.1:Int)]) (λy=>y.2.2.2.2.2.2) (λy=>Z (dH d) -y.1) (λy=>So q U dH p k i z d dl y.1 y.2.1 y.2.2.1 y.2.2.2.1 y.2.2.2.2.1 y.2.2.2.2.2.1 y.2.2.2.2.2.2) (0,i.enter d,f7,N,d5,K,d4) ⟨by simp,by simpa using hn,by simp,by simp only;omega,by simp only;exact ho,by simp only;show Z i.out+(dl+1)<=i.count+1;omega,ip,f2,ii,ac⟩ ?_
  rintro⟨j,f,d2,d0,aB,au,go⟩ h kl f6;simp only at h f6⊢;simp only[G,A,Q,a];have li:=h.le;refine b (λce=>?_) (λhu=>?_)
  ·have fI:j<Z (dH d):=by simpa using ce
   have P:(dH d)[j]∈dH d:=bs fI;have B:=ex d r _ P;have co:(dH d).take (j+1)=(dH d).take j++[(dH d)[j]]:=by simp
   have bf:(dH d).drop j=(dH d)[j]::(dH d).drop (j+1):=by simp
   have fn:=hl d;refine nQ (λf8 t=>f8=[I ((dH d)[j]:Int)]/\∃d3 d1 ds ax ar,So q U dH p k i z d dl (j+1) d3 d1 ds ax ar t) (λmt bv=>?_) ?_
   ·have m:=h.hH
    rw[aC (a2:=cN) (O:=1) fI rfl,Q,aH,show(cN (dH d)[j])[0]?=T (I ((dH d)[j]:Int))from rfl,Q,Fk m,Q,(va m B).1,Q,(va m B).2,Q,c9,Q];refine b (λJ=>?_) (λJ=>?_)
    ·have F:f.aQ (dH d)[j]=0:=by simpa using J
     have fs:∀g∈z++[d],gK dH g (dH d)[j]:=by
      intro g br;rcases c5.1 br with t|t
      ·exact(bi g t).trans (.gP P)
      ·simp at t;subst t;exact .gP P
     have f5:=Fa zK ex k _ f (z++[d]) h.ci.inv F B fs h.wh;rw[Sf m,Q];refine bj (dD:=165) (b:=[I ((dH d)[j]:Int),pt q.c,pt q.x,pt q.l,pt q.o,pt q.s,pt q.n,pt q.v,pt q.u,pt q.e]) rfl ?_;refine cY (i8 _ f (z++[d]) (dl+1) d2 d0 aB au go h.ci.inv F B fs h.wh h.cw h.ol h.ok h.st h.ou m) rfl ?_;rintro R ke ⟨⟨-,hs,jp,i9,gN,gM,i4,io,M⟩,i0,it⟩
     rw[B7 M,Q,Q,(vb M r).1,Q,(vb M r).2,Q,Q,(vb M B).1,Q,(vb M B).2,Q,I9,Q,Q];rw[show min ((ih dM dH k (dH d)[j] f).b4 d:Int) ((ih dM dH k (dH d)[j] f).b4 (dH d)[j]:Int)=((min ((ih dM dH k (dH d)[j] f).b4 d) ((ih dM dH k (dH d)[j] f).b4 (dH d)[j]):Nat):Int)by omega];obtain⟨gt,a4,be⟩:=JK M r (min ((ih dM dH k (dH d)[j] f).b4 d) ((ih dM dH k (dH d)[j] f).b4 (dH d)[j]));rw[a4,Q]
     refine bv _ _ ⟨rfl,{ih dM dH k (dH d)[j] f with b4:=Go.Law.b6 (ih dM dH k (dH d)[j] f).b4 d (min ((ih dM dH k (dH d)[j] f).b4 d) ((ih dM dH k (dH d)[j] f).b4 (dH d)[j]))},jp,i9,gN,gM,⟨by omega,?_,?_,?_,hs,i0,it,i4,io,be⟩⟩
     ·rw[co];exact RK h.ci P F f5
     ·rw[h.eq,bf,rF,if_pos F]
     ·exact iU (RF (fr:=f) (λE cs=>f5.ext.jF cs)) h.wh
    ·have F:f.aQ (dH d)[j]≠0:=by simpa using J
     rw[zH m,Q,(Fl m B).1,Q,(Fl m B).2,Q];refine b (λaf=>?_) (λaf=>?_)
     ·simp only[B7 m,(vb m r).1,(vb m r).2,(va m B).1,(va m B).2,Q,I9]
      rw[show min (f.b4 d:Int) (f.aQ (dH d)[j]:Int)=((min (f.b4 d) (f.aQ (dH d)[j]):Nat):Int)by omega];obtain⟨gt,a4,be⟩:=JK m r (min (f.b4 d) (f.aQ (dH d)[j]));rw[a4,Q];refine bv _ _ ⟨rfl,{f with b4:=Go.Law.b6 f.b4 d (min (f.b4 d) (f.aQ (dH d)[j]))},d2,d0,aB,au,⟨by omega,?_,?_,h.wh,h.cw,h.ol,h.ok,h.st,h.ou,be⟩⟩
      ·rw[co];exact RI h.ci P F af
      ·rw[h.eq,bf,rF,if_neg F,if_pos af]
     ·have f1:¬f.eo (dH d)[j]=true:=by rw[af];decide
      refine bv _ _ ⟨rfl,f,d2,d0,aB,au,⟨by omega,?_,?_,h.wh,h.cw,h.ol,h.ok,h.st,h.ou,m⟩⟩
      ·rw[co];exact RJ h.ci F f1
      ·rw[h.eq,bf,rF,if_neg F,if_neg f1]
   ·rintro f8 t ⟨rfl,d3,d1,ds,ax,ar,i2⟩
    rw[ba,Q];exact f6 (j+1,d3,d1,ds,ax,ar,t) i2 (by omega)
  ·have hw:j=Z (dH d):=by simp at hu;omega
   subst hw;have m:=h.hH;have ad:oH dH U i f z d (dH d):=by have:=h.ci;grind
   have f4:rF dM dH k d (dH d) (i.enter d)=f:=by rw[h.eq,nU,rF]
   rw[B7 m,Q,(vb m r).1,Q,(vb m r).2,Q,Fk m,Q,(va m r).1,Q,(va m r).2,Q,cd,Q];refine b (λJ=>?_) (λJ=>?_)
   ·have id:¬f.b4 d=f.aQ d:=by simp at J;omega
    have a9:ih dM dH (k+1) d i=f:=by
     simp only[ih];rw[f4,if_neg id]
    rw[a9];have:=h.ol;exact⟨⟨rfl,h.cw,_,_,_,_,h.st,h.ou,m⟩,by omega,h.ok⟩
   ·have fd:f.b4 d=f.aQ d:=by simp at J;omega
    have a9:ih dM dH (k+1) d i=f.pop dM d:=by
     simp only[ih];rw[f4,if_pos fd]
    have i1:=RN (G:=dH) (n:=U) zK ae ad fd;obtain⟨ne,i5,-⟩:=ad.bw;have e2:d∈f.bw:=by rw[i5];simp
    obtain⟨h4,ce,mk⟩:=Sn ad.inv;have fn:Z (f.bw.drop (f.bw.idxOf d))<=12:=by
     refine hj _ (by grind) λE cs O i7=>?_;have f3:∀aq∈f.bw.drop (f.bw.idxOf d),(f.pop dM d).gh aq/\(f.pop dM d).of aq=Z f.out:=by
      intro aq ms;refine⟨⟨ad.inv.jF aq (by grind),?_⟩,?_⟩
      ·grind[TS.pop]
      ·grind[TS.pop]
     obtain⟨he,hg⟩:=f3 E cs;obtain⟨a0,a3⟩:=f3 O i7;exact((i1.inv.scc E O he a0).1 (hg.trans a3.symm)).1
    have kx:=h.cw;have l0:=h.ol;have a0:Z f.out<=1000:=by omega
    have a3:Z f.bw<=1000:=by omega
    refine aia ha h3 e2 ce h4 fn a0 a3 h.cw h.st h.ou m (λR V=>JL q U dH (ih dM dH (k+1) d i) p R V/\Z (ih dM dH (k+1) d i).out+dl<=(ih dM dH (k+1) d i).count/\wy (ih dM dH (k+1) d i).out) ?_;intro R V hm;rw[a9];refine⟨hm,?_,?_⟩
    rotate_left
    ·intro g br
     rcases c5.1 br with t|t
     ·exact h.ok g t
     ·rw[lV]at t
      subst t;refine⟨Sk _,λhh=>?_⟩;have f0:d∈f.bw.drop (f.bw.idxOf d):=by
       have ls:=Sl e2;rw[List.mem_drop_iff_getElem];exact⟨0,by omega,by simp⟩
      rw[<-zK,hh]at f0;simp at f0
    show Z (f.out++[dM (f.bw.drop (f.bw.idxOf d))])+dl<=f.count;simp;omega
def jH(b:List (Int×Int))(c:Nat):List Nat:=(b.filter λa=>a.1==(c:Int)).map λa=>a.2.toNat
def gw(a:aj)(b:Nat):List Nat:=jH ((kv a).map (·.1)) b
theorem aic(b:List (Int×Int))(c:Int×Int)(a:Nat):jH (b++[c]) a=if c.1=(a:Int)then jH b a++[c.2.toNat]else jH b a:=by
 grind[jH]
theorem Sp(a:List (Int×Int))(b:Nat):Z (jH a b)<=Z a:=by
 grind[jH]
theorem bA.aid(a:bA Y cN 1 bu p)(b:w N (p++bm)):aI N .res Y (eS aa cN bu):=by
 rcases a with⟨rfl,rfl,rfl⟩|⟨id,g,rfl,rfl⟩
 ·exact .ai _ _
 ·exact fx (U:=1) (b.get (by simp)) (by simp)
theorem aie{a:Nat->aN}(g:w N (p++(flat a U++bm)))(f:O<U):∃b,w N (a O++b):=by
 obtain⟨c,d,e⟩:=BY a f;have h:flat a U=c++(a O++d):=by rw[<-e,E5]
 grind[w,List.append_assoc,w.sub]
theorem Sq{b:Nat->AV}:∀{a:List Nat},(∀j∈a,aI N .res (b j) (eS aa cN (dH j)))->eX N .res (a.map λj=>[b j]) (a.map λj=>cG (dH j))
 |[],_=>.nil _
 |j::a,c=>.ck (.ck (c j (by simp)) (.nil _)) (Sq (by grind))
theorem aif(e:aj)(L:ky e):PR C 164 [.agg (cP V F e)] (eS aa cG ((List.range (Z e.d)).map (gw e))):=by
 have b4:=L.2.2;refine aak.pr ?_;rw[dS,Q,a6,Q,aH,aJ,iy,Q,a8,Q];refine bj (qj (by omega) (by omega)) ?_;rw[fQ,Q];refine f (Rr e L) ?_;simp only[ef,cv,dk,Q,a8,c3,de];generalize K:(kv e).map (·.1)=g;have bw:Z g<=10000:=by rw[<-K];simpa using Jm L
 have aq:∀n∈g,∃h m:Nat,n=((h:Int),(m:Int))/\h<Z e.d/\m<Z e.d:=by
  intro n x;rw[<-K,du]at x;obtain⟨z,E,rfl⟩:=x;obtain⟨⟨bi,N⟩,O,J⟩:=Bv z E;exact⟨z.1.1.toNat,z.1.2.toNat,by grind,by omega,by omega⟩
 refine bB (z:=Nat×(Nat->AV)×(Nat->aN)×List Obj) (λl=>[I (l.1:Int)]) (λl=>l.2.2.2) (λl=>Z g -l.1) (λl=>l.1<=Z g/\(∀c,bA (l.2.1 c) cN 1 (jH (g.take l.1) c) (l.2.2.1 c))/\w l.2.2.2 ((0,.arr 0 1 (ct (Z e.d) λc=>[l.2.1 c]))::flat l.2.2.1 (Z e.d))) (0,λ_=>.ai,λ_=>[],[.arr 0 1 (List.replicate (Z e.d) [.ai])]) ⟨by simp,λc=>by simpa[jH]using bA.nil cN 1,?_⟩ ?_
 ·have:(ct (Z e.d) λ_=>[AV.ai])=List.replicate (Z e.d) [.ai]:=by
   unfold ct;rw[KB];simp
  simp only[Jn,this];exact⟨by simp,λz E=>by simp at E;subst E;rfl⟩
 rintro⟨k,j,t,s⟩ ⟨ah,B,u⟩ bb R;simp only at ah B u R⊢;simp only[G,A,Q,a];have H:=u.get (U:=0) (iX:=.arr 0 1 (ct (Z e.d) λc=>[j c])) (by simp);refine b (λy=>?_) (λaf=>?_)
 ·have y:k<Z g:=by simpa using y
  obtain⟨h,m,x,v,bv⟩:=aq _ (bs y);have ax:g.take (k+1)=g.take k++[g[k]]:=hX y;have U:∀n:Int×Int,dh 2 (.agg (bX n))=T [I n.1,I n.2]:=λ_=>rfl;have aQ:∀n:Int×Int,aR 2 ab (.aK aa (bX n) 0) s=T (.agg (bX n)):=λ_=>rfl;rw[aC (a2:=bX) (O:=2) y (r1 _),Q,aQ,Q,U,Q];simp only[x,G,i];rw[u2 H v,Q,ya H v (a:=j h) rfl,Q,Bo,Q];obtain⟨p,r,P⟩:=BY t v;have ae:flat t (Z e.d)=p++(t h++r):=by rw[<-P,E5]
  rw[ae]at u;have au:=Sp (g.take k) h;rw[gb]at au;have N:w s (t h++(((0,.arr 0 1 (ct (Z e.d) λc=>[j c]))::p)++r)):=w.swap (p:=(0,.arr 0 1 (ct (Z e.d) λc=>[j c]))::p) (by simpa using u);obtain⟨id,o,S,W,O⟩:=bA.app (bytes:=8) (B h) N m rfl (by omega);refine bj W ⟨rfl,trivial,?_⟩
  have J:w S ((0,.arr 0 1 (ct (Z e.d) λc=>[j c]))::((id,.arr o 1 ((jH (g.take k) h++[m]).map cN))::(p++r))):=O.perm (List.Perm.swap _ _ _);have M:=J.get (U:=0) (iX:=.arr 0 1 (ct (Z e.d) λc=>[j c])) (by simp);rw[u2 M v,Q];refine aD (E4 M v (g:=j h) rfl (a:=.q id o 0 (Z (jH (g.take k) h++[m]))) rfl rfl) ?_;rw[ba,Q]
  have Y:=w.set J (.arr 0 1 (ct (Z e.d) (bK (λc=>[j c]) h [.q id o 0 (Z (jH (g.take k) h++[m]))])));refine R (k+1,bK j h (.q id o 0 (Z (jH (g.take k) h++[m]))),bK t h [(id,.arr o 1 ((jH (g.take k) h++[m]).map cN))],_) ⟨by omega,λc=>?_,?_⟩ (by omega)
  ·simp only
   rw[ax,aic,x];by_cases n:c=h
   ·subst n
    simp only[if_true,ej];grind[bK,jH,cN,bA.of]
   grind[bK,jH,cN]
  ·simp only
   have X:(ct (Z e.d) (bK (λc=>[j c]) h [.q id o 0 (Z (jH (g.take k) h++[m]))]))=ct (Z e.d) λc=>[bK j h (.q id o 0 (Z (jH (g.take k) h++[m]))) c]:=by
    refine BW λc _=>?_;unfold bK;grind
   rw[P,<-X];refine Y.perm (List.Perm.cons _ ?_);exact(alf (l₁:=p) (l₂:=r)).symm
 ·have ak:k=Z g:=by simp at af;omega
  subst ak;rw[dB]at B;have ad:gw e=jH g:=by funext z;rw[gw,K]
  rw[ad];have:=Sq (N:=s) (b:=j) (dH:=jH g) (a:=List.range (Z e.d)) λc ar=>by
   obtain⟨r,ac⟩:=aie (p:=[(0,.arr 0 1 (ct (Z e.d) λc=>[j c]))]) (bm:=[]) (by simpa using u) (la.1 ar);exact(B c).aid ac
  have br:aI s .res (.q 0 0 0 (Z e.d)) (.sl aa ((List.range (Z e.d)).map λc=>cG (jH g c))):=by
   refine .na 0 0 0 _ 1 (ct (Z e.d) λc=>[j c]) _ H (by rw[RC];omega) ?_;rw[jR,fW (by simp[RC])];exact this
  have be:eS aa cG ((List.range (Z e.d)).map (jH g))=.sl aa ((List.range (Z e.d)).map λc=>cG (jH g c)):=by
   rw[eS,wG]<;>rfl
  simp_all
theorem JM:∀{a b:List Nat},a.Nodup->(∀x∈a,x∈b)->Z a<=Z b
 |[],b,_,_=>Nat.zero_le _
 |x::a,b,c,f=>by
  obtain⟨d,e,rfl⟩:=Cn (f x (by simp));rw[kf]at c;have:=JM (a:=a) (b:=d++e) c.2 (by grind);grind
theorem aih:∀c∈kv M,∃a∈M.ah,c.1.1=a.aq:=by
 have h:∀(a:aG)(j:a∈M.ah)(b:List Lit)(d:List Edge),(∀c∈d,∃a∈M.ah,c.1.1=a.aq)->∀c∈b.foldl (jD M a) d,∃a∈M.ah,c.1.1=a.aq:=by
  intro a j b;induction b with
  |nil=>grind
  |cons k b g=>
   grind[jD]
 have i:∀(b:List aG)(f:∀a∈b,a∈M.ah)(d:List Edge),(∀c∈d,∃a∈M.ah,c.1.1=a.aq)->∀c∈b.foldl (pd M) d,∃a∈M.ah,c.1.1=a.aq:=by
  intro b;induction b with
  |nil=>grind
  |cons a b g=>exactλf d e=>g (by grind) _ (h a (f a (by simp)) a.ae d e)
 exact i M.ah (λ_ e=>e) [] (by simp)
theorem yd:O∈gw M U<->sd M U O=true:=by
 rw[E6];simp only[gw,jH,du,tF,beq_iff_eq];constructor
 ·rintro⟨c,⟨⟨b,a,rfl⟩,d⟩,rfl⟩
  refine⟨b,a,?_⟩;have:=(Bv b a).2.1;grind
 grind
theorem JN(a:sd M U O=ab):U<Z M.d/\O<Z M.d:=by
 rw[E6,du]at a;obtain⟨c,b,a⟩:=a;have:=Bv c b;grind
theorem Sr:gK (gw M) U O<->U=O\/nD (sd M) U O:=by
 constructor
 ·intro h
  induction h with
  |refl b=>omega
  |step b d e h _ a=>
   rcases a with rfl|a
   ·exact .inr (.gP _ _ (yd.1 h))
   ·exact .inr (.step _ _ _ (yd.1 h) a)
 ·rintro(rfl|h)
  ·exact .refl _
  ·induction h with
   |gP U O h=>exact .gP (yd.2 h)
   |step U c O h _ a=>exact .step _ _ _ (yd.2 h) a
theorem aii(i:Z M.ah<=12)(b:List Nat)(h:b.Nodup)(l:∀a∈b,∀c∈b,gK (gw M) a c):Z b<=12:=by
 by_cases q:Z b<=1
 ·omega
 have e:∀a∈b,a∈M.ah.map λf=>f.aq.toNat:=by
  intro a e;have:∃c∈b,c≠a:=yl λr=>by
   have:∀c∈b,c=a:=by grind
   have:=JM (b:=[a]) h (by grind);grind
  obtain⟨c,p,s⟩:=this;have o:∃g,g∈gw M a:=by
   cases l a e c p with
   |refl=>omega
   |step _ g _ d _=>grind
  obtain⟨g,d⟩:=o;have d:=yd.1 d;rw[E6,du]at d;obtain⟨j,m,n⟩:=d;obtain⟨f,i,k⟩:=aih j m;refine du.2 ⟨f,i,?_⟩;rw[<-k,n];simp
 have:=JM h e;grind
theorem aij(q:fr=kb dM (gw M) (Z M.d) (List.range (Z M.d)) TS.init)(h:wy fr.out):rf (Z M.d) (iF M) fr.out fr.of:=by
 have m:∀e,e<Z M.d->∀i∈gw M e,i<Z M.d:=λe _ i r=>(JN (yd.1 r)).2;obtain⟨-,u,k,l⟩:=ahf (n:=Z M.d) zK m (Z M.d) (di _) fr q;refine⟨λa b=>?_,λs o a=>⟨λp=>?_,λ⟨b,t⟩=>?_⟩,λa f b n=>?_,λg c=>(h g c).1,λg c=>(h g c).2⟩
 ·grind
 ·exact k s _ (bC o) a p
 ·grind
 ·rw[l a f b n,Sr,Sr,eY]
  simp only[kg,beq_iff_eq,bG,iF,OE (λa f j=>JN j)];grind
theorem aik(a i h g f d m k l j e b c:z):[a,i,h,g,f,d,m,k,l,j,e,b,c].Perm [i,m,k,l,j,f,d,g,e,a,h,b,c]:=
 (List.Perm.swap i a _).trans (.cons i ((mi [a,h,g,f,d] [m,k,l,j] [e,b,c]).trans (.append_left [m,k,l,j] ((mi [a,h,g] [f,d] [e,b,c]).trans (.append_left [f,d] (mi [a,h] [g,e] [b,c]))))))
structure JO(p:aj)(x4 x6 x7 x8:AV)(H:List Obj):Prop where
 ex:∃kn ke kl kx je jl jx:Nat,x4=pt kn/\x6=pt ke/\x7=pt kl/\x8=pt kx/\
  w H [(kx,one (.q jx 0 0 (Z p.d))),(jx,.arr 0 1 (List.replicate (Z p.d) [I 0])),(kl,one (.q jl 0 0 (Z p.d))),(jl,.arr 0 1 (List.replicate (Z p.d) [I 0])),(kn,one (eS aa cG ((List.range (Z p.d)).map (gw p)))),
   (ke,one (.q je 0 0 (Z p.d))),(je,.arr 0 1 (List.replicate (Z p.d) [I 0]))]
theorem ail(a:Nat):fV a (λ_=>0)=List.replicate a [I 0]:=by
 simp[fV,KB,cN]
theorem aim(a:Nat):rH a (λ_=>aa)=List.replicate a [ff]:=by
 simp[rH,KB,cB]
theorem ain(f:u7 Y im p)(c:w N (p++bm)):aI N .res Y (eS aa cG im):=by
 obtain⟨b,k,rfl,h,rfl⟩:=f;rcases h with⟨rfl,rfl,-⟩|⟨id,g,rfl,rfl⟩
 ·exact .ai _ _
 ·have d:=c.get (U:=id) (iX:=.arr g 1 (b.map wx)) (by simp)
  refine .na id g 0 (Z b) 1 (b.map wx) _ d (by simp) ?_;rw[jR,fW (by simp)];have e:∀a∈b,N[a.1]?=T (.arr 0 1 (a.2.map cN)):=λa e=>c.get (U:=a.1) (iX:=.arr 0 1 (a.2.map cN)) (by
   simp only[fm,c3,cf,c5,du];exact .inr (.inl ⟨a,e,rfl⟩))
  clear d c;induction b with
  |nil=>exact .nil _
  |cons a b l=>
   refine .ck (.ck ?_ (.nil _)) (by grind);simp_all[fx]
structure Ss(d:rJ)(n:Nat)(G:Nat->List Nat)(i:Nat)(t:TS)(sv ov:AV)(PS PO:aN)(H:List Obj):Prop where
 le:i<=n
 iv:Inv G n t []
 eq:kb dM G n (List.range n) TS.init=kb dM G n ((List.range n).drop i) t
 cw:t.count+t.mh n<=n
 ol:Z t.out<=t.count
 ok:wy t.out
 st:rI sv t.bw PS
 ou:u7 ov t.out PO
 hH:w H (dd d n G t sv ov PS PO)
variable{aL cJ jd:AV}
theorem Su(f2:B8 C)(d6:ky M)(gt:Z M.ah<=12){es e2:AV}(d1:JO M cJ jd es e2 N):
 Ha C Y E aL cJ (I (Z M.d:Int)) jd es e2 N (λd9 p=>∃(P:List (List Nat))(of:Nat->Nat),aI p .res d9 (.aE [eS aa cN ((List.range (Z M.d)).map of),eS aa cG P])/\P=(kb dM (gw M) (Z M.d) (List.range (Z M.d)) TS.init).out/\of=(kb dM (gw M) (Z M.d) (List.range (Z M.d)) TS.init).of/\wy P/\Z P<=Z M.d):=by
 have ge:=d6.2.2;have d2:∀y,y<Z M.d->∀fd∈gw M y,fd<Z M.d:=λy _ fd he=>(JN (yd.1 he)).2;have f4:∀y,Z (gw M y)<=100000:=λy=>by
  have R:=Sp ((kv M).map (·.1)) y;have ar:=Jm d6;simp only[kd]at R;unfold gw;omega
 obtain⟨a4,U,a3,X,aB,hg,L,rfl,rfl,rfl,rfl,d3⟩:=d1.ex;generalize Z M.d=h at*;unfold Ha;refine bj (qj (by omega) (by omega)) ?_;have R:=w.alloc d3 (.arr 0 1 (List.replicate h [ff]));generalize Z N=a0 at*;generalize N++[Obj.arr 0 1 (List.replicate h [ff])]=z at*;refine bj (show km 1 [.ai] z=T (pt (Z z),z++[one .ai])from rfl) ?_;have ar:=w.alloc R (one .ai);generalize Z z=V at*
 generalize z++[one .ai]=fs at*;obtain⟨b4,co⟩:=zI (b:=[]) ar (a:=.q a0 0 0 h) ⟨rfl,rfl⟩;refine aD b4 ?_;generalize fs.set V (one (.q a0 0 0 h))=B at*;refine bj (show km 1 [.ai] B=T (pt (Z B),B++[one .ai])from rfl) ?_;have cs:=w.alloc co (one .ai);generalize Z B=a9 at*;generalize B++[one .ai]=F at*;refine bj (show km 1 [.ai] F=T (pt (Z F),F++[one .ai])from rfl) ?_;have dl:=w.alloc cs (one .ai)
 generalize Z F=W at*;generalize F++[one .ai]=H at*;refine bj (show km 1 [I 0] H=T (pt (Z H),H++[one (I 0)])from rfl) ?_;have ds:=w.alloc dl (one (I 0));generalize Z H=S at*;generalize H++[one (I 0)]=fI at*;obtain⟨ce,d0⟩:=zI (b:=[]) ds (a:=I 0) ⟨rfl,rfl⟩;refine aD ce ?_;generalize fI.set S (one (I 0))=J at*;refine bj (show km 1 [.gO] J=T (pt (Z J),J++[one .gO])from rfl) ?_
 have au:=w.alloc d0 (one .gO);generalize Z J=O at*;generalize J++[one .gO]=bv at*;obtain⟨ci,f3⟩:=zI (b:=[]) au (a:=.fn 165 [] [pt S,pt X,pt a3,pt V,pt a9,pt a4,pt O,pt W,pt U]) ⟨rfl,rfl⟩;refine aD ci ?_;generalize bv.set O (one (.fn 165 [] [pt S,pt X,pt a3,pt V,pt a9,pt a4,pt O,pt W,pt U]))=bw at*;clear R ar co cs dl ds d0 au b4 ce ci d3 d1;let j:rJ:=⟨S,X,L,a3,hg,V,a0,a9,a4,O,W,U,aB⟩
 have f5:w bw (dd j h (gw M) TS.init .ai .ai [] []):=by
  have:=f3.perm (aik _ _ _ _ _ _ _ _ _ _ _ _ _);rw[<-ail,<-aim]at this;exact this
 refine bB (z:=Nat×TS×AV×AV×aN×aN×List Obj) (λk=>[I (k.1:Int)]) (λk=>k.2.2.2.2.2.2) (λk=>h -k.1) (λk=>Ss j h (gw M) k.1 k.2.1 k.2.2.1 k.2.2.2.1 k.2.2.2.2.1 k.2.2.2.2.2.1 k.2.2.2.2.2.2) (0,TS.init,.ai,.ai,[],[],bw) ⟨by simp,RO,by simp,?_,by simp[TS.init],λg f7=>by simp[TS.init]at f7,.inl ⟨rfl,rfl,rfl⟩,⟨[],[],rfl,.inl ⟨rfl,rfl,rfl⟩,rfl⟩,f5⟩ ?_
 ·have:TS.init.mh h<=h:=iU (vh _ _) (by simp)
  show 0+TS.init.mh h<=h;omega
 rintro⟨i,m,be,ac,af,ad,p⟩ f hm d8;simp only at f d8⊢;simp only[G,A,Q,a];have h3:=f.le;have r:w p (dd j h (gw M) m be ac af ad++[]):=by rw[rP];exact f.hH
 refine b (λgc=>?_) (λf8=>?_)
 ·have t:i<h:=by simpa using gc
  have d4:(List.range h).drop i=i::(List.range h).drop (i+1):=by
   rw[mQ (by simpa using t)];simp
  refine nQ (λel aq=>el=[I (i:Int)]/\∃bi bf bb ak ae,Ss j h (gw M) (i+1) bi bf bb ak ae aq) (λid d5=>?_) ?_
  ·rw[show aR 1 aa (pt X) p=T (.q L 0 0 h)from Fk r,Q,show bY 1 (.q L 0 0 h) (I (i:Int)) p=T (.ptr L 0 i 0)from(va r t).1,Q,show aR 1 aa (.ptr L 0 i 0) p=T (I (m.aQ i:Int))from(va r t).2,Q,c9,Q]
   refine b (λax=>?_) (λax=>?_)
   ·have K:m.aQ i=0:=by simpa using ax
    have d7:m.mh h<=h:=iU (vh _ _) (by simp);have ha:=Fa zK d2 h i m [] f.iv K t (by simp) d7;rw[show aR 1 aa (pt O) p=T (.fn 165 [] j.Fj)from Sf r,Q];refine bj (dD:=165) (b:=[I (i:Int),pt j.c,pt j.x,pt j.l,pt j.o,pt j.s,pt j.n,pt j.v,pt j.u,pt j.e]) rfl ?_;refine cY (aib f2 (p:=[]) ge d2 f4 (aii gt) h i m [] 0 be ac af ad p f.iv K t (by simp) d7 f.cw f.ol f.ok f.st f.ou r) rfl ?_
    rintro d9 bv ⟨⟨-,f6,hj,hh,f1,f0,gM,gh,au⟩,gj,gi⟩;refine d5 _ _ ⟨rfl,_,hj,hh,f1,f0,⟨t,ha.inv,?_,f6,gj,gi,gM,gh,by grind⟩⟩;rw[f.eq,d4,kb,if_pos K]
   ·have K:¬m.aQ i=0:=by simpa using ax
    refine d5 _ _ ⟨rfl,m,be,ac,af,ad,⟨t,f.iv,?_,f.cw,f.ol,f.ok,f.st,f.ou,f.hH⟩⟩;rw[f.eq,d4,kb,if_neg K]
  ·rintro el aq ⟨rfl,bi,bf,bb,ak,ae,go⟩
   rw[ba,Q];exact d8 (i+1,bi,bf,bb,ak,ae,aq) go (by omega)
 ·have f9:i=h:=by simp at f8;omega
  subst f9;have gN:kb dM (gw M) i (List.range i) TS.init=m:=by
   rw[f.eq,List.drop_of_length_le (by simp),kb]
  rw[gN,show aR 1 aa (pt U) p=T (.q aB 0 0 i)from Sg r,Q,show aR 1 aa (pt W) p=T ac from JF r,Q];have hw:=f.cw;have h4:=f.ol;refine⟨m.out,m.of,.aE _ _ _ (.ck ?_ (.ck ?_ (.nil _))),rfl,rfl,f.ok,by omega⟩
  ·have:=fx (a2:=cN) (o:=(List.range i).map m.of) (id:=aB) (U:=1) (O:=0) (N:=p) (by rw[wG];exact JJ r) (by simp)
   simp_all
  ·rw[f.ou.pl.1]
   exact ain f.ou (Sj r)
open Go.Proofs
variable{cq:Code}{K:AS}{lk:eN -> AS -> Prop}{lf:Code}{n:WS}{hx:WS -> Prop}
section
variable{P:Program}{G:Nat->Option (List AV)}{An:Nat->bQ}{X:eD}{A:bQ}{hc:Oper->Bool}
theorem dP.mono{c:eN->AS->Prop}(h:dP P G cq K lk)(r:∀a b,lk a b->c a b):dP P G cq K c:=λd e l i j=>by
 have:=h d e l i j;cases cq
 case loop n=>
  intro f k g;obtain⟨o,m,t,⟨a,b,p,q⟩,s⟩:=this f k g;grind
 all_goals exact wp_mono this (by grind)
theorem dP.Fp(l:P.follows .mixedOrders=ab)(k:∀d args a e b,X d args a e b->jz P G d args a e b)(j:∀d g a e b,C d g a e b->jK P G An X d g a e b)
 (i:h7 P G C A hc cq n (nq hx))(p:∀c,hx c->dP P G lf c.as lk):dP P G (.seq cq lf) n.as lk:=by
 refine dP.seq (mV:=λo=>∃c,o=c.as/\hx c) (dP.mono (dP.code l k j i) ?_) ?_
 ·rintro m r ⟨h,rfl,f⟩
  cases m with
  |norm=>exact⟨rfl,h,rfl,f⟩
  |exit q=>exact f.elim
  |ret=>exact f.elim
 grind
end
theorem aio(a:aj)(b:ky a)(g:∀c:AV,hx ⟨[(0,.av (.agg (cP V F a))),(1,.av c),(2,.av .ai),(3,.av .ai),(4,.av (pt 0)),(5,.av (I (Z a.d:Int)))],[],[one (eS aa cG ((List.range (Z a.d)).map (gw a)))]⟩):
 DI C (.agg (cP V F a)) [] hx:=by
 unfold DI;rw[dS,Q,fQ,Q];refine f (aif a b) ?_;refine bj (show km 1 [.ai] []=T (pt 0,[one .ai])from rfl) ?_;refine aD (show df 1 (pt 0) (eS aa cG ((List.range (Z a.d)).map (gw a))) [one .ai]=T [one (eS aa cG ((List.range (Z a.d)).map (gw a)))]from k1 (bg:=[.ai]) rfl rfl (by omega) rfl rfl) ?_
 rw[show aR 1 aa (pt 0) [one (eS aa cG ((List.range (Z a.d)).map (gw a)))]=T (eS aa cG ((List.range (Z a.d)).map (gw a)))from gm rfl rfl,Q,a8,Q];grind
theorem Sv:∀{f:List AV}{c d:Nat}{e:AV},look d (fP (nh c f))=T e->∃b,∃a:b<Z f,d=c+b/\e=(f[b]).pl
 |[],c,d,e,a=>by simp[nh,fP,look]at a
 |x::f,c,d,e,a=>by
  simp only[nh,fP,eJ,look]at a;split at a
  ·rename_i g
   simp only[eK]at a;exact⟨0,by simp,by omega,a.symm⟩
  ·obtain⟨b,j,h,i⟩:=Sv a
   exact⟨b+1,by grind,by omega,by grind⟩
theorem aip:Tryz.f105.body.getD .skip=.seq (cL (Tryz.f105.body.getD .skip)) (.seq (cL (cR (Tryz.f105.body.getD .skip))) (.seq (cL (cR (cR (Tryz.f105.body.getD .skip)))) (.seq (.region 3 (sZ (cL (cR (cR (cR (Tryz.f105.body.getD .skip)))))) ab) (cR (cR (cR (cR (Tryz.f105.body.getD .skip)))))))):=by kernel_rfl
theorem aiq:Tryz.f105.body=T (Tryz.f105.body.getD .skip):=by kernel_rfl
theorem air:yW Tryz.f105 1=true:=by kernel_rfl
theorem wz{f:Nat->bQ}:∀d c a e b,C d c a e b->jK a1 G0 f C d c a e b:=λ_ _ _ _ _ g=>.vv _ _ _ _ _ g
theorem ye:∀d c a e b,C d c a e b->jz a1 G0 d c a e b:=λ_ _ _ _ _ f=>f
abbrev Ac:Nat->bQ:=λ_=>uo
theorem ais(X:B8 C)(L:ky M)(a0:Z M.ah<=12):
 jz a1 G0 105 [.agg (cP V F M)] [] (.aE [eS aa cN ((List.range (Z M.d)).map (kb dM (gw M) (Z M.d) (List.range (Z M.d)) TS.init).of),eS aa cG (kb dM (gw M) (Z M.d) (List.range (Z M.d)) TS.init).out]) []:=by
 have o:=air;simp only[yW,bG,jt,decide_eq_true_eq]at o;obtain⟨⟨⟨-,ad⟩,ae⟩,af⟩:=o;refine dP.fn Tryz.func105 aiq ad af ae ?_;rw[aip];have e0:({env:=mq 0 [.agg (cP V F M)],bx:=[],hp:=[]}:AS)=WS.as {env:=nh 0 [.agg (cP V F M)],bx:=[],hp:=[]}:=rfl;rw[e0];have ci:=L.2.2
 let U:WS->Prop:=λW=>∃i,W=⟨[(0,.av (.agg (cP V F M))),(1,.av i),(2,.av .ai),(3,.av .ai),(4,.av (pt 0)),(5,.av (I (Z M.d:Int)))],[],[one (eS aa cG ((List.range (Z M.d)).map (gw M)))]⟩;have E:DI C (.agg (cP V F M)) [] U:=by grind[aio]
 rw[ab6]at E;refine dP.Fp (An:=Ac) ui ye wz E λbv ak=>?_;refine dP.Fp (An:=Ac) ui ye wz ak λbw aq=>?_;refine dP.Fp (An:=Ac) ui ye wz aq ?_;rintro b4 ⟨i,rfl⟩;generalize l:WS.as ⟨[(0,.av (.agg (cP V F M))),(1,.av i),(2,.av .ai),(3,.av .ai),(4,.av (pt 0)),(5,.av (I (Z M.d:Int)))],[],[one (eS aa cG ((List.range (Z M.d)).map (gw M)))]⟩=h;have a4:look 1 h.env=T i.pl:=by rw[<-l]<;>rfl
 have a9:look 2 h.env=T .ai:=by rw[<-l]<;>rfl
 have bb:look 3 h.env=T .ai:=by rw[<-l]<;>rfl
 have be:look 4 h.env=T (pt 0):=by rw[<-l]<;>rfl
 have O:look 5 h.env=T (I (Z M.d:Int)):=by rw[<-l]<;>rfl
 have aQ:h.hp=[one (eS aa cG ((List.range (Z M.d)).map (gw M)))]:=by rw[<-l]<;>rfl
 refine dP.seq (mV:=λp=>∃q r s t v,JO M q r s t v/\p.hp=v/\(∀f k,look f (fP (nh 1 [i,.ai,.ai,q,I (Z M.d:Int),r,s,t]))=T k->look f p.env=T k)) (dP.Cz (A:=uo) ui λa3 au=>?_) ?_
 ·obtain⟨m,id,done,b,c,aB⟩:=acf (A:=uo) O (by omega) rfl a3 [] (λ_=>0) h au (J.start h _ _)
  refine⟨m,⟨pt 0,pt (id 3),pt (id 4),pt (id 5),m.hp,?_,rfl,?_⟩,aB⟩
  ·have y:=b.al 0 (by omega) (c 6 (by omega))
   have z:=b.al 1 (by omega) (c 7 (by omega));have A:=b.al 2 (by omega) (c 8 (by omega));have bf:=b.ms 0 (by omega) (c 1 (by omega));have P:=b.ms 1 (by omega) (c 3 (by omega));have Q:=b.ms 2 (by omega) (c 5 (by omega));simp only[c 9 (by omega),c 10 (by omega),c 11 (by omega),if_true,fo,Nat.reduceAdd]at y z A bf P Q;have w:∀a,a<6->oj done a:=λa e=>by
    by_cases B:a<3
    ·exact .inl (by grind)
    ·exact .inr (by grind)
   have co:∀j a,j<6->a<6->j≠a->id j≠id a:=λj a H e B Y=>B (b.inj j a H e (w j H) (w a e) Y);have ce:∀a,a<6->1<=id a:=λa e=>by
    have:=(b.ge a e (w a e)).1;grind
   have ac:m.hp[0]?=T (one (eS aa cG ((List.range (Z M.d)).map (gw M)))):=by rw[b.Ba 0 (by grind),aQ]<;>rfl
   refine⟨0,id 3,id 4,id 5,id 0,id 1,id 2,rfl,rfl,rfl,rfl,?_,λdl N=>?_⟩
   ·simp only[eJ,oL,kf,cf,iW,or_false,not_or,not_false_eq_true,vi,and_true]
    grind
   ·simp only[cf,iW,or_false]at N
    rcases N with rfl|rfl|rfl|rfl|rfl|rfl|rfl
    ·exact A.2
    ·exact Q.2
    ·exact z.2
    ·exact P.2
    ·exact ac
    ·exact y.2
    grind
  ·intro f k n
   obtain⟨a,e,rfl,rfl⟩:=Sv n;have g:∀f,f∈uo.mj->look f (qR uo m).env=look f m.env:=λf o=>vG o _;simp only[iJ,de]at e;have:a=0\/a=1\/a=2\/a=3\/a=4\/a=5\/a=6\/a=7:=by omega
   rcases this with rfl|rfl|rfl|rfl|rfl|rfl|rfl|rfl
   ·rw[g _ (by decide),b.env _ (by omega) (by omega) (by omega) (by omega)];exact a4
   ·rw[g _ (by decide),b.env _ (by omega) (by omega) (by omega) (by omega)];exact a9
   ·rw[g _ (by decide),b.env _ (by omega) (by omega) (by omega) (by omega)];exact bb
   ·rw[g _ (by decide),b.env _ (by omega) (by omega) (by omega) (by omega)];exact be
   ·rw[g _ (by decide),b.env _ (by omega) (by omega) (by omega) (by omega)];exact O
   ·rw[g _ (by decide)];exact(b.al 0 (by omega) (c 6 (by omega))).1
   ·rw[g _ (by decide)];exact(b.al 1 (by omega) (c 7 (by omega))).1
   ·rw[g _ (by decide)];exact(b.al 2 (by omega) (c 8 (by omega))).1
 ·rintro p ⟨q,r,s,t,v,ar,rfl,ax⟩
  have G:=Su X L a0 (Y:=i) (E:=.ai) (aL:=.ai) ar;rw[NG]at G;refine dP.sub (j:=WS.as {env:=nh 1 [i,.ai,.ai,q,I (Z M.d:Int),r,s,t],bx:=[],hp:=p.hp}) ax (by grind[WS.as,look]) rfl ?_;refine dP.mono (dP.code (An:=Ac) ui ye wz G) ?_;rintro bi m ⟨br,rfl,K⟩;cases bi with
  |exit j=>grind
  |norm=>
   obtain⟨k,n,S,of,x,rfl,rfl,-⟩:=xl K;exact⟨.inl rfl,k,n,x⟩
  |ret=>
   obtain⟨k,n,S,of,x,rfl,rfl,-⟩:=xl K;exact⟨.inr rfl,k,n,x⟩
variable{r:Array Oper}{mV:AS -> Prop}{B:Oper}{lx:List Oper}{pG:bQ}{c:Operand}{ey:List Obj}{L:l}{s:Act}{t cK lj:TypeId}
section
variable{P:Program}{G:Nat->Option (List AV)}
def vc(P:Program)(G:Nat->Option (List AV))(c:Array Oper)(j:List Oper)(k:AS)(m:AS->Prop):Prop:=
 ∀(a:l)(b:Act)(e:Exit->Act->World->Prop)(d:List Nat),fO c d=j->(∀i∈d,i<c.size)->St a k b.tmps->dC G a->tO b.tmps.size c=ab->(∀g f h,m g->mu a g b f h->e .normal f h)->wpOps P c e d b a.w
theorem vc.nil(c:mV K):vc P G r [] K mV:=λa b h i e f g _ _ d=>by
 have:=K9 e f;subst this;exact d K b a.w c ⟨a,rfl,g,Fr.refl a,rfl,rfl⟩
theorem vc.op{j:AV->AS->Prop}(A:fu r K B=T ab)(o:∀(c:l)(d:Act),St c K d.tmps->dC G c->∃b a,j b a/\cj P B d c b a)(H:∀b a,j b a->vc P G r lx (fD B.dst (b,a)) mV):vc P G r (B::lx) K mV:=λc d m S s u e g w p=>by
 obtain⟨R,I,rfl,h,t⟩:=Aq s u;have C:=Ap e A;have q:=(yx w h).1;obtain⟨b,a,F,U,N,k,y,v,z,M,f⟩:=o c d e g;simp only[wpOps,h,C,if_true];refine .inl ?_;have L:=M.Ao (ez:=B.dst) z q;have i:=H b a F k (d.put B.dst N) m I t (by grind) L (g.mono f e.b1) (by grind[sL])
  (λJ n O E x=>p J n O E (x.trans f (sL _ _ _) (Am _ _ _)))
 unfold Oper.wp;rw[y];rcases v with rfl|⟨rfl,rfl⟩
 ·exact i
 ·exact i
theorem dP.region{id:Nat}(k:vc P G r (bU r) K λa=>mV (qR pG a)):dP P G (.region id r aa) K λl m=>l=.norm/\mV m:=λb d n h p=>by
 refine wp_region ?_;refine k b d _ (List.range r.size) (Gi r) (by grind) n h (by grind[gk]) ?_;intro a o q j i;obtain⟨c,e,f,g⟩:=i;exact⟨.norm,_,⟨rfl,j⟩,rfl,c,e,f.mj _ _,g⟩
theorem dP.cond(g:ay G K c=.bool V)(f:dP P G (if V then cq else lf) (oQ pG c K) lk):dP P G (.cond c cq lf) K lk:=λj e d b a=>by
 simp only[gk,bG]at a;have h:=R.wW (g▸dU d b c);refine wp_cond h ?_;have i:gk e.tmps.size (if V then cq else lf)=true:=by cases V;exact a.2;exact a.1
 exact f.wp (d.drop pG c) b i
theorem dP.ait(m:dP P G cq K λb a=>(b=.norm/\mV a)\/(b≠.norm/\lk b a))(n:∀a,mV a->dP P G lf a lk):dP P G (.seq cq lf) K lk:=λs t k i j=>by
 simp only[gk,bG]at j;refine wp_seq (wp_mono (m.wp k i j.1) ?_);rintro l u w1 ⟨b,a,o,rfl,h,rfl,g,c,f,e⟩;rcases o with⟨rfl,q⟩|⟨w,d⟩
 ·refine wp_mono ((n a q).wp g (i.mono c k.b1) (by grind)) ?_
  rintro l v x ⟨b,r,d,rfl,p⟩;cases b<;>exact⟨_,r,d,rfl,p.trans c f e⟩
 ·cases b with
  |norm=>grind
  |exit id=>exact⟨_,a,d,rfl,h,rfl,g,c,f,e⟩
  |ret=>exact⟨_,a,d,rfl,h,rfl,g,c,f,e⟩
theorem dP.aiu{fn:Func}{args:List AV}{f:AV}(l:P.funcs[U]?=T fn)(k:fn.body=T cq)(u:(fn.name== "runtime.NumGoroutine")=aa)(C:gk fn.ntmps cq=ab)(B:Z args<=fn.ntmps)
 (p:dP P G cq {env:=mq 0 args,bx:=[],hp:=N} λe b=>(e=.norm\/e=.ret)/\vu P fn b=T f/\b.hp=ey):jz P G U args N f ey:=by
 refine⟨⟨fn,cq,l,k,u⟩,λn c g A r j q=>?_⟩;refine calls_of_wp l k ?_;have F:(c.toArray++Array.replicate (fn.ntmps -c.toArray.size) undef).size=fn.ntmps:=by
  have:=j.length;simp;omega
 have m:=Ge g j fn.ntmps;rw[r]at m;refine wp_mono (p.wp (a:={tmps:=c.toArray++Array.replicate (fn.ntmps -c.toArray.size) undef,defers:=[]}) m q (by grind)) ?_;rintro z i w1 ⟨e,b,⟨v,x,rfl⟩,rfl,a,rfl,h,o,E,t⟩;obtain⟨d,y,s⟩:=Gd h x;have hp:i.defers=[]/\∃d,(results fn i.tmps).run P a.w=.ok d a.w/\Ar n b.hp f (.returned d) a.w:=⟨t,d,y,a,rfl,o,h.b1,h.hp.symm,s⟩;rcases v with rfl|rfl<;>exact hp
theorem aiv(e:St L K s.tmps)(f:dC G L)(b:B.op=.binOp .eql t c (.const (.slice D 0 0)) cK)(h:P.underlying t=T (.slice lj)){a:Option Addr}(d:s.eval c=.slice a U O):cj P B s L (.bool a.isNone) K:=by
 refine cj.still e (bL:=.bool a.isNone) ?_ (.inl (.bool _));have g:(eqGuard .eql t c (.const (.slice D 0 0)) (.slice a U O) (.slice D 0 0)).run P L.w=.ok () L.w:=by simp[eqGuard]
 simp only[execOp,b,d];rw[show s.eval (.const (.slice D 0 0))=.slice D 0 0 from rfl];simp_all[Sem.run_bind,Result.andThen_ok,binOp,run_equal_slice_nil]
end
def cC:Code->Code|.cond _ a _=>a|c=>c
def rq(d:List ResultVar)(a:AV->List Obj->Prop):eN->WS->Prop:=λc b=>match c with|.ret=>AF a1 d b a|_=>False
structure rK(f:Nat)(fn:Func)(b:Code)(A:bQ)(hc:Oper->Bool)(t sz bytes:Nat):Prop where
 hf:a1.funcs[f]?=T fn
 ok:yW fn 1=ab
 hb:fn.body=T b
 sh:b=.seq (cL b) (.seq (.seq (.region 1 (sZ (cL (cL (cR b)))) aa) (.cond (.tmp 4) (cC (cR (cL (cR b)))) .skip)) (cR (cR b)))
 hA:4∈A.mj/\0∈A.mj/\2∈A.mj/\4∈A.cs
 un:∃e,a1.underlying t=T (.slice e)
 ops:(bU (sZ (cL (cL (cR b))))).map y3=[(.move (.tmp 0),T 3,D,[]),(.binOp .eql t (.tmp 3) (.const (.slice D 0 0)) t,T 4,D,[0])]
 t0:∀C x0 H M,h7 a1 G0 C A hc (cL b) {env:=nh 0 [x0],bx:=[],hp:=H} (nq M)=cc (eA sz H) λx1 h1=>M ⟨[(0,.av x0),(2,.av x1)],[],h1⟩
 t2:∀C x0 x1 H Q,h7 a1 G0 C A hc (cC (cR (cL (cR b)))) ⟨[(0,.av x0),(2,.av x1)],[],H⟩ (rq (bU fn.results) Q)=cc (eA sz H) λx3 h3=>Q (AV.pl x3) h3
 t3:∀C x0 x1 H Q,h7 a1 G0 C A hc (cR (cR b)) ⟨[(0,.av x0),(2,.av x1)],[],H⟩ (rq (bU fn.results) Q)=cc (cx sz bytes .dI x0 H) λx4 h4=>Q (AV.pl x4) h4
theorem Fq{O U:Nat}(b:O≠U):∀a:List (Nat×z),look O (nX U a)=look O a
 |[]=>rfl
 |(d,e)::a=>by
  simp only[nX];split
  ·rename_i c
   subst c;rw[Fq b a];grind[look]
  ·simp only[look];rw[Fq b a]
variable{cg:Oper -> Bool}
theorem rK.run{fn:Func}{bytes:Nat}(b:rK U fn cq pG cg O y bytes)(u:Y.pl=Y)(k:Bool->Prop)
 (bi:∀(f:l)(ah:Value),f.H=N++[.arr 0 y []]->R f Y ah->∃z ac V,ah=.slice z ac V/\k z.isNone)(bv:k ab->E=.q (Z N+1) 0 0 0/\ey=(N++[.arr 0 y []])++[.arr 0 y []])(bf:k aa->cx y bytes .dI Y (N++[.arr 0 y []])=T (E,ey))(br:E.pl=E):
 jz a1 G0 U [Y] N E ey:=by
 have X:=b.ok;simp only[yW,bG,jt,decide_eq_true_eq]at X;obtain⟨⟨⟨-,a4⟩,a9⟩,W⟩:=X;rw[b.hb]at W;refine dP.aiu b.hf b.hb a4 W a9 ?_;rw[b.sh];have e0:({env:=mq 0 [Y],bx:=[],hp:=N}:AS)=WS.as {env:=nh 0 [Y],bx:=[],hp:=N}:=by
  simp[WS.as,G9 0 [Y] (by simp[u])]
 rw[e0];generalize h:(⟨[(0,.av Y),(2,.av (.q (Z N) 0 0 0))],[],N++[.arr 0 y []]⟩:WS)=aq;have be:h7 a1 G0 C pG cg (cL cq) {env:=nh 0 [Y],bx:=[],hp:=N} (nq λd=>d=aq):=by
  rw[b.t0];refine bj (show eA y N=T (.q (Z N) 0 0 0,N++[.arr 0 y []])from rfl) ?_;exact h
 refine dP.Fp (An:=Ac) ui ye wz be ?_;rintro d rfl;have aQ:look 0 d.as.env=T Y:=by rw[<-h];show T (EV.val (.av Y))=_;simp[EV.val,u]
 have a0:look 2 d.as.env=T (.q (Z N) 0 0 0):=by rw[<-h]<;>rfl
 have A:d.as.hp=N++[.arr 0 y []]:=by rw[<-h]<;>rfl
 have a3:d.as.bx=[]:=by rw[<-h]<;>rfl
 have sub:∀{M:Code}{a:AS}{P:eN->AS->Prop},look 0 a.env=T Y->look 2 a.env=T (.q (Z N) 0 0 0)->a.hp=N++[.arr 0 y []]->dP a1 G0 M d.as P->dP a1 G0 M a P:=by
  intro M a P o p r bb;refine dP.sub (λci c e=>?_) (λci c e=>by rw[a3]at e;simp[look]at e) (A.trans r.symm) bb;rw[<-h]at e;simp only[WS.as,fP,eJ,oL,look]at e;split at e
  ·rename_i s;subst s
   rw[o,<-e];simp[EV.val,u]
  ·split at e
   ·rename_i s;subst s
    rw[p,<-e]<;>rfl
   ·cases e
 refine dP.ait (mV:=λa=>k aa/\look 0 a.env=T Y/\look 2 a.env=T (.q (Z N) 0 0 0)/\a.hp=N++[.arr 0 y []]) ?_ ?_
 ·refine dP.seq (mV:=λa=>∃O,k O/\look 4 a.env=T (.bool O)/\look 0 a.env=T Y/\look 2 a.env=T (.q (Z N) 0 0 0)/\a.hp=N++[.arr 0 y []]) (dP.region (pG:=pG) ?_) ?_
  ·have n:=b.ops
   generalize sZ (cL (cL (cR cq)))=ad at n⊢;obtain⟨K,L,G⟩:∃K L,bU ad=[K,L]:=by
    rcases G:bU ad with _|⟨K,_|⟨L,_|⟨d3,d2⟩⟩⟩<;>rw[G]at n<;>simp at n
    grind
   rw[G]at n⊢;simp only[eJ,oL,Cp,and_true]at n;obtain⟨ae,af⟩:=n;simp only[y3,eC]at ae af;obtain⟨d4,cs,dl,-⟩:=ae;obtain⟨ds,v,d0,-⟩:=af;refine vc.op (j:=λc i=>c=Y/\i=d.as) (by simp[fu,dl]) (λf x j t=>⟨Y,d.as,⟨rfl,rfl⟩,K4 (A:=pG) j t (by simp_all[aT,ay])⟩) ?_;rintro c i ⟨rfl,rfl⟩;rw[cs];simp only[fD];have co:look 3 (put 3 c d.as.env)=T c:=by rw[fc]<;>rfl
   have o:look 0 (put 3 c d.as.env)=T c:=by rw[fc,if_neg (by decide)];exact aQ
   have p:look 2 (put 3 c d.as.env)=T (.q (Z N) 0 0 0):=by rw[fc,if_neg (by decide)];exact a0
   obtain⟨s,bw⟩:=b.un;refine vc.op (j:=λak i=>(∃O,k O/\ak=.bool O)/\i={d.as with env:=put 3 c d.as.env}) (by simp[fu,d0]) (λf x j t=>?_) ?_
   ·have I:=j.env 3 c co
    replace I:R f c (x.tmps.getD 3 undef):=I.resolve_right (by
     rintro⟨_,_,_,b,_⟩;subst b;cases u)
    obtain⟨z,ac,V,b4,m⟩:=bi f _ (j.hp.symm.trans A) I;exact⟨_,_,by grind,aiv j t ds bw b4⟩
   ·rintro ak i ⟨⟨tt,m,rfl⟩,rfl⟩
    refine vc.nil ⟨tt,m,?_,?_,?_,by rw[v];exact A⟩
    ·rw[v];simp only[fD,qR]
     rw[vG b.hA.1,fc,if_pos rfl]
    ·rw[v];simp only[fD,qR]
     rw[vG b.hA.2.1,fc,if_neg (by decide)];exact o
    ·rw[v];simp only[fD,qR]
     rw[vG b.hA.2.2.1,fc,if_neg (by decide)];exact p
  ·rintro a ⟨tt,m,k4,o,p,r⟩
   refine dP.cond (pG:=pG) (V:=tt) (by grind[ay]) ?_;have au:look 0 (oQ pG (.tmp 4) a).env=T Y:=by simp only[oQ];rw[if_pos b.hA.2.2.2];exact(by grind[Fq])
   have ax:look 2 (oQ pG (.tmp 4) a).env=T (.q (Z N) 0 0 0):=by simp only[oQ];rw[if_pos b.hA.2.2.2];exact(by grind[Fq])
   have aB:(oQ pG (.tmp 4) a).hp=N++[.arr 0 y []]:=by simp only[oQ];rw[if_pos b.hA.2.2.2];exact r
   cases tt with
   |true=>
    refine sub au ax aB ?_;obtain⟨rfl,rfl⟩:=bv m;have F:h7 a1 G0 C pG cg (cC (cR (cL (cR cq)))) d (rq (bU fn.results) λc w=>c=.q (Z N+1) 0 0 0/\w=(N++[.arr 0 y []])++[.arr 0 y []]):=by
     rw[<-h,b.t2];refine bj (show eA y (N++[Obj.arr 0 y []])=T (AV.q (Z (N++[Obj.arr 0 y []])) 0 0 0,(N++[Obj.arr 0 y []])++[Obj.arr 0 y []])from rfl) ?_;exact(by grind)
    refine dP.mono (dP.code (An:=Ac) ui ye wz F) ?_;rintro J i ⟨ar,rfl,g⟩;cases J with
    |norm=>exact g.elim
    |exit ce=>exact g.elim
    |ret=>
     simp only[rq]at g;obtain⟨c,e,rfl,B⟩:=xl (fn:=fn) g;exact .inr ⟨by simp,.inr rfl,e,B⟩
   |false=>
    intro f x j t d1;exact wp_skip ⟨.norm,_,by grind,rfl,f,rfl,j,Fr.refl f,rfl,rfl⟩
 ·rintro a ⟨m,o,p,r⟩
  refine sub o p r ?_;have F:h7 a1 G0 C pG cg (cR (cR cq)) d (rq (bU fn.results) λc w=>c=E/\w=ey):=by
   rw[<-h,b.t3];exact bj (bf m) ⟨br,rfl⟩
  refine dP.mono (dP.code (An:=Ac) ui ye wz F) ?_;rintro J i ⟨ar,rfl,g⟩;cases J with
  |norm=>exact g.elim
  |exit ce=>exact g.elim
  |ret=>
   simp only[rq]at g;obtain⟨c,e,rfl,B⟩:=xl (fn:=fn) g;exact⟨.inr rfl,e,B⟩
theorem rK.nil{fn:Func}{bytes:Nat}(e:rK U fn cq pG cg O y bytes)(c:Bool)(a:List Obj):
 jz a1 G0 U [.sl c []] a (.q (Z a+1) 0 0 0) (a++[.arr 0 y [],.arr 0 y []]):=by
 have d:a++[Obj.arr 0 y [],.arr 0 y []]=(a++[.arr 0 y []])++[.arr 0 y []]:=by simp
 rw[d];refine e.run rfl (λ_=>True) (λf s _ b=>?_) (by grind) (λ_=>?_) rfl
 ·cases b with
  |h5 _ g cap=>grind
  |sl _ _ cq r p cap h i j l m n cg o b k=>grind
 ·simp[cx,hQ,AV.isNil]
theorem rK.q{fn:Func}{bytes:Nat}(a:rK U fn cq pG cg O 1 bytes)(i:bytes=8){id g off:Nat}(b:N[id]?=T (.arr g 1 bS))(m:off+y<=Z bS)(n:0<y)(o:y<=1000000):
 jz a1 G0 U [.q id g off y] N (.q (Z N+1) 0 0 y) (N++[.arr 0 1 [],.arr 0 1 ((bS.drop off).take y)]):=by
 have c:N++[Obj.arr 0 1 [],.arr 0 1 ((bS.drop off).take y)]=(N++[.arr 0 1 []])++[.arr 0 1 ((bS.drop off).take y)]:=by simp
 have p:(N++[Obj.arr 0 1 []])[id]?=T (.arr g 1 bS):=by rw[lU (e6.1 b).1];exact b
 rw[c];refine a.run rfl (λO=>O=aa) (λe r h d=>?_) (λa=>by cases a) (λ_=>?_) rfl
 ·cases d with
  |q _ _ _ _ _ l f k j=>
   grind
 grind[hQ,cx,AV.isNil]
theorem aiw:rK 126 Tryz.f126 (Tryz.f126.body.getD .skip) ⟨[0,2,4],[4],[],[(2,3)],[5],[]⟩ (qV []) 46 3 32 where
 hf:=Tryz.func126
 ok:=by kernel_rfl
 hb:=by kernel_rfl
 sh:=by kernel_rfl
 hA:=by decide
 un:=⟨64,by kernel_rfl⟩
 ops:=by kernel_rfl
 t0:=λ_ _ _ _=>by kernel_rfl
 t2:=λ_ _ _ _ _=>by kernel_rfl
 t3:=λ_ _ _ _ _=>by kernel_rfl
theorem Sw:rK 167 Tryz.f167 (Tryz.f167.body.getD .skip) ⟨[0,2,4],[4],[],[(2,1)],[5],[]⟩ (qV []) 29 1 8 where
 hf:=Tryz.func167
 ok:=by kernel_rfl
 hb:=by kernel_rfl
 sh:=by kernel_rfl
 hA:=by decide
 un:=⟨3,by kernel_rfl⟩
 ops:=by kernel_rfl
 t0:=λ_ _ _ _=>by kernel_rfl
 t2:=λ_ _ _ _ _=>by kernel_rfl
 t3:=λ_ _ _ _ _=>by kernel_rfl
theorem aix:rK 218 Tryz.f218 (Tryz.f218.body.getD .skip) ⟨[0,2,4],[4],[],[(2,1)],[5],[]⟩ (qV []) 53 1 16 where
 hf:=Tryz.func218
 ok:=by kernel_rfl
 hb:=by kernel_rfl
 sh:=by kernel_rfl
 hA:=by decide
 un:=⟨9,by kernel_rfl⟩
 ops:=by kernel_rfl
 t0:=λ_ _ _ _=>by kernel_rfl
 t2:=λ_ _ _ _ _=>by kernel_rfl
 t3:=λ_ _ _ _ _=>by kernel_rfl
theorem aiy:rK 219 Tryz.f219 (Tryz.f219.body.getD .skip) ⟨[0,2,4],[4],[],[(2,2)],[5],[]⟩ (qV []) 73 2 16 where
 hf:=Tryz.func219
 ok:=by kernel_rfl
 hb:=by kernel_rfl
 sh:=by kernel_rfl
 hA:=by decide
 un:=by simp
 ops:=by kernel_rfl
 t0:=λ_ _ _ _=>by kernel_rfl
 t2:=λ_ _ _ _ _=>by kernel_rfl
 t3:=λ_ _ _ _ _=>by kernel_rfl
theorem aiz:rK 222 Tryz.f222 (Tryz.f222.body.getD .skip) ⟨[0,2,4],[4],[],[(2,4)],[5],[]⟩ (qV []) 30 4 48 where
 hf:=Tryz.func222
 ok:=by kernel_rfl
 hb:=by kernel_rfl
 sh:=by kernel_rfl
 hA:=by decide
 un:=by simp
 ops:=by kernel_rfl
 t0:=λ_ _ _ _=>by kernel_rfl
 t2:=λ_ _ _ _ _=>by kernel_rfl
 t3:=λ_ _ _ _ _=>by kernel_rfl
theorem aiA:rK 223 Tryz.f223 (Tryz.f223.body.getD .skip) ⟨[0,2,4],[4],[],[(2,9)],[5],[]⟩ (qV []) 33 9 112 where
 hf:=Tryz.func223
 ok:=by kernel_rfl
 hb:=by kernel_rfl
 sh:=by kernel_rfl
 hA:=by decide
 un:=⟨62,by kernel_rfl⟩
 ops:=by kernel_rfl
 t0:=λ_ _ _ _=>by kernel_rfl
 t2:=λ_ _ _ _ _=>by kernel_rfl
 t3:=λ_ _ _ _ _=>by kernel_rfl
theorem aiB(c:(U,O)∈um)(b:Bool)(a:List Obj):jz a1 G0 U [.sl b []] a (.q (Z a+1) 0 0 0) (a++[.arr 0 O [],.arr 0 O []]):=by
 simp only[um,cf,eC,iW,or_false]at c;rcases c with⟨rfl,rfl⟩|⟨rfl,rfl⟩|⟨rfl,rfl⟩|⟨rfl,rfl⟩|⟨rfl,rfl⟩|⟨rfl,rfl⟩
 ·exact aiw.nil b a
 ·exact Sw.nil b a
 ·exact aix.nil b a
 ·exact aiy.nil b a
 ·exact aiz.nil b a
 ·exact aiA.nil b a
open Go Go.Lib
theorem sE:a1.underlying 28=T (.slice 72):=by kernel_rfl
def zF:Value:=.agg #[.int .i64 0,.slice D 0 0,.int .i64 0]
theorem Sx:∃a,a1.info? 72=T a/\a.size=3/\a.bytes=40/\a.zero=T zF:=by
 have b:(a1.info? 72).map (λa=>(a.size,a.bytes,a.zero))=T (3,40,T zF):=by kernel_rfl
 simp_all
variable{pD:Program}
theorem Fs(b:World)(j u v elem:TypeId)(k:TypeInfo)(g d i o:Nat)(f:Addr)(m t h:Nat)(c:Array Value)(n:TypeId)(a:List Value)
 (B:pD.underlying j=T (.slice elem))(w:pD.info? elem=T k)
 (r:b.heap[g]?=T (.cells c n (0,0)))(x:Nat.min m i=h)(z:Z a=h*k.size)
 (s:∀l e,a[l]?=T e->b.cell? (f.add l)=T e)(q:d+Z a<=c.size)(p:∀e∈a,e.oneCell'=ab):
 (Builtin.copy_ #[j,u] v #[.slice (T ⟨g,d,D⟩) i o,.slice (T f) m t]).run pD b=
  .ok (goInt h) (b.setRow g ((bU c).take d++a++(bU c).drop (d+Z a)).toArray):=by
 have y:=run_loadCells_list (P:=pD) b f a s;have A:=run_storeCells_at pD g d n a 0 c b r (by simpa using q) p;simp_all[Builtin.copy_,run_underlying,Builtin.lenOf,Builtin.firstCells,sizeOf,typeInfo]
variable{e pM:World}{bL:Value}
theorem Sy{a:Option Addr}{cap:Nat}(c:∀i,(Builtin.append_ #[28,28] i #[.slice a U cap,.slice (T ⟨O,0,D⟩) 1 y]).run a1 e=.ok bL pM)(n:U<=cap)(h:a=D->cap=0):
 Calls a1 134 #[.slice a U cap,.int .i64 U,.slice (T ⟨O,0,D⟩) 1 y] e λg j=>g=.returned bL/\j=pM:=by
 have o:=run_underlying sE
 go_enter Tryz.func134,Tryz.ntmps134
 cases a with
 |none=>
  have b:=h rfl;subst b;have b:U=0:=by omega
  subst b
  go_wp2_with (at_builtin;refine Lib.wpList_append_run _ rfl _ _ _ _ rfl _ _ rfl rfl _ _ (c _) ?_)
  go_ret;simp
 |some d=>
  obtain⟨k,l,m⟩:=d
  go_wp2_with (at_builtin;refine Lib.wpList_append_run _ rfl _ _ _ _ rfl _ _ rfl rfl _ _ (c _) ?_)
  all_goals(go_ret;simp)
variable{fq:Array Value}
theorem B9(b:e.heap[U]?=T (.cells fq t (0,0)))(a:Nat):e.cell? ⟨U,a,D⟩=fq[a]?:=by
 simp[World.cell?,b]
set_option maxHeartbeats 4000000 in
theorem aiC{cap:Nat}{c:Array Value}{vs:List Value}(V:y<O)(ad:O+1<=cap)(Y:O+1<=9223372036854775807)(p:c2≠U)
 (g:e.heap[U]?=T (.cells fq t (0,0)))(ar:cap*3<=fq.size)(N:∀J∈(bU fq).take (O*3),J.oneCell'=ab)
 (h:e.heap[c2]?=T (.cells c cK (0,0)))(ak:(bU c).take 3=vs)(ah:Z vs=3)(v:∀m∈vs,m.oneCell'=ab):
 ∃a r:List Value,a=(bU fq).take ((y+1)*3)++((bU fq).take (O*3)).drop (y*3)++(bU fq).drop ((O+1)*3)/\r=a.take (y*3)++vs++a.drop (y*3+3)/\
 Calls a1 134 #[.slice (T ⟨U,0,D⟩) O cap,.int .i64 y,.slice (T ⟨c2,0,D⟩) 1 jW] e λf K=>
  f=.returned (.slice (T ⟨U,0,D⟩) (O+1) cap)/\K=(e.drew.setRow U a.toArray).setRow U r.toArray:=by
 refine⟨_,_,rfl,rfl,?_⟩;obtain⟨q,o,ae,-,-⟩:=Sx;have aB:=run_underlying sE;have au:¬((y:Int)=(O:Int)):=by omega
 have L:∀e,(Go.sizeOf 72).run a1 e=.ok 3 e:=by simp
 have H:e.shape? c2=T (cK,c.size):=by simp[World.shape?,h]
 have I:e.shape? U=T (t,fq.size):=by simp[World.shape?,g]
 have F:∀j cb k,(callFunc 200 #[.slice (T ⟨c2,0,D⟩) 1 jW,.slice (T ⟨U,k,D⟩) j cb]).run a1 e=.ok (.value (.bool aa)) e:=λj cb k=>by
  rw[run_callFunc_extern Tryz.func200 (by kernel_rfl) (by kernel_rfl) (by kernel_rfl) (e:=Extern.SlicesOverlaps.overlaps #[28,28] #[4]) (by kernel_rfl),
   Lib.run_overlaps_apart e 28 4 72 sE 3 L ⟨c2,0,D⟩ ⟨U,k,D⟩ 1 jW j cb p cK t c.size fq.size H I (by omega) (by simp[World.frozen?,h]) (by simp[World.frozen?,h])]
  rfl
 generalize C:((bU fq).take (O*3)).drop (y*3)=d;have z:Z d=(O -y)*3:=by rw[<-C];simp;omega
 have A:∀b dc l,(Builtin.copy_ #[28,28] b #[.slice (T ⟨U,(y+1)*3,D⟩) (O -y) dc,.slice (T ⟨U,y*3,D⟩) (O+1 -y) l]).run a1 e.drew=.ok (goInt ((O -y:Nat):Int)) (e.drew.setRow U ((bU fq).take ((y+1)*3)++d++(bU fq).drop ((O+1)*3)).toArray):=λb dc l=>by
  have f:=Fs (pD:=a1) e.drew 28 28 b 72 q U ((y+1)*3) (O -y) dc ⟨U,y*3,D⟩ (O+1 -y) l (O -y) fq t d sE o g (by grind) (by grind)
   (λi m E=>by
    rw[Addr.add_lit];rw[show e.drew.cell? ⟨U,y*3+i,D⟩=fq[y*3+i]? from B9 (e:=e.drew) g _];grind)
   (by omega) (by grind)
  grind
 generalize G:(bU fq).take ((y+1)*3)++d++(bU fq).drop ((O+1)*3)=a at*;have ac:Z a=fq.size:=by rw[<-G];simp[z];omega
 have B:∀(W:World),W.heap=(e.drew.setRow U a.toArray).heap->∀b dc,(Builtin.copy_ #[28,28] b #[.slice (T ⟨U,y*3,D⟩) (O+1 -y) dc,.slice (T ⟨c2,0,D⟩) 1 jW]).run a1 W=.ok (goInt ((1:Nat):Int)) (W.setRow U (a.take (y*3)++vs++a.drop (y*3+3)).toArray):=λW n b dc=>by
  have w:W.heap[U]?=T (.cells a.toArray t (0,0)):=by rw[n];exact setRow_heap _ _ _ _ _ _ g
  have x:W.heap[c2]?=T (.cells c cK (0,0)):=by rw[n,setRow_other _ _ _ _ (λu=>p u)];exact h
  have f:=Fs (pD:=a1) W 28 28 b 72 q U (y*3) (O+1 -y) dc ⟨c2,0,D⟩ 1 jW 1 a.toArray t vs sE o w (by grind) (by omega)
   (λi m E=>by
    rw[Addr.add_lit,aJ,B9 x];grind)
   (by grind) v
  grind
 have aq:IntKind.i64.wrap ((y:Int)+(1:Int))=(y:Int)+(1:Int):=by rw[IntKind.wrap_i64];omega
 have P:(0:Int)<=(y:Int)+(1:Int):=by omega
 have X:y<=O:=by omega
 have af:((y:Int)+(1:Int)).toNat=y+1:=by omega
 have Q:¬(cap=y+1):=by omega
 have R:(y:Int)<=(O:Int)+(1:Int):=by omega
 have S:¬(cap=y):=by omega
 go_enter Tryz.func134,Tryz.ntmps134
 go_wp2_with (simp only[F])
 have ax:a1.follows .mixedOrders=true:=by kernel_rfl
 go_region_law_o (refine step_copy_runI rfl _ _ 28 28 rfl _ _ (by simp[Act.eval,Act.put]) (by simp[Act.eval,Act.put]) (A _ _ _) ?_)
 go_wp2_with (at_builtin;refine wpList_copy_runI _ rfl _ _ 28 28 rfl _ _ rfl rfl (B _ rfl _ _) ?_)
 go_ret;simp
set_option maxHeartbeats 4000000 in
theorem aiD{cap:Nat}{o:Array Value}{vs:List Value}(bf:y<O)(br:O<=cap)(bw:cap<O+1)(a3:(O+1)*40<=140737488355328)
 (q:e.heap[U]?=T (.cells fq t (0,0)))(cs:O*3<=fq.size)(ar:∀ah∈(bU fq).take (O*3),ah.oneCell'=ab)
 (ad:e.heap[c2]?=T (.cells o cK (0,0)))(ce:(bU o).take 3=vs)(ae:Z vs=3)(I:∀j∈vs,j.oneCell'=ab):
 ∃(d:Nat)(a b G:List Value),O+1<=d/\Z a=d*3/\a.take (y*3)=(bU fq).take (y*3)/\b=a.take (y*3)++vs++a.drop (y*3+3)/\G=b.take ((y+1)*3)++((bU fq).take (O*3)).drop (y*3)++b.drop ((O+1)*3)/\
 Calls a1 134 #[.slice (T ⟨U,0,D⟩) O cap,.int .i64 y,.slice (T ⟨c2,0,D⟩) 1 jW] e λg ak=>
  g=.returned (.slice (T ⟨e.heap.size,0,D⟩) (O+1) d)/\ak=(((e.drew.alloc (.cells a.toArray 72)).setRow e.heap.size b.toArray).drew).setRow e.heap.size G.toArray:=by
 obtain⟨l,u,ac,a9,d0⟩:=Sx;have d3:=run_underlying sE;have a4:U<e.heap.size:=(oI.1 q).1;have ci:c2<e.heap.size:=(oI.1 ad).1;have X:(Builtin.firstCells l.size y (.slice (T ⟨U,0,D⟩) y cap)).run a1 e.drew=.ok ((bU fq).take (y*3)).toArray e.drew:=by
  rw[ac];exact run_firstCells_some e.drew 3 y ⟨U,0,D⟩ y cap ((bU fq).take (y*3)) (by grind) (λC j v=>by
   rw[Addr.add_lit,aJ,B9 (e:=e.drew) q];grind)
 have d2:a1.underlying 3=T (.int .i64):=by kernel_rfl
 have V:(O:Int)+(1:Int) -(y:Int)=((O+1 -y:Nat):Int):=by omega
 have S:y+(O+1 -y)=O+1:=by omega
 have A:∀c,(Builtin.append_ #[28,3] c #[.slice (T ⟨U,0,D⟩) y cap,.int .i64 ((O:Int)+(1:Int) -(y:Int))]).run a1 e=
  .ok (.slice (T ⟨e.heap.size,0,D⟩) (O+1) (grownCap e (O+1) cap 72)) (e.drew.alloc (.cells (((bU fq).take (y*3)).toArray++Builtin.zeroCells zF.cells (O+1 -y)++Builtin.zeroCells zF.cells (grownCap e (O+1) cap 72 -(O+1))) 72)):=by grind[Lib.run_append_grow_zeros,sE,growslice_fits]
 have M:O+1<=grownCap e (O+1) cap 72:=grownCap_ge e _ _ _;have au:grownCap e (O+1) cap 72<=9223372036854775807:=by
  have:=grownCap_le_maxLen e (O+1) cap 72 (by unfold maxLen;omega);unfold maxLen at this;omega
 generalize L:grownCap e (O+1) cap 72=d at*;generalize i:(bU fq).take (y*3)++bU (Builtin.zeroCells zF.cells (O+1 -y))++bU (Builtin.zeroCells zF.cells (d -(O+1)))=a;have z:((bU fq).take (y*3)).toArray++Builtin.zeroCells zF.cells (O+1 -y)++Builtin.zeroCells zF.cells (d -(O+1))=a.toArray:=by
  rw[<-i];simp
 rw[z]at A;have B:∀m,(Builtin.zeroCells zF.cells m).size=m*3:=λm=>by rw[CG]<;>rfl
 have s:Z ((bU fq).take (y*3))=y*3:=by rw[gb,yh];omega
 have w:Z a=d*3:=by rw[<-i];simp only[fb,s,yh,B];omega
 have Y:a.take (y*3)=(bU fq).take (y*3):=by rw[<-i,fH,Ck (by omega),fW (by omega)]
 refine⟨d,a,_,_,M,w,Y,rfl,rfl,?_⟩;generalize r:((bU fq).take (O*3)).drop (y*3)=k;have N:Z k=(O -y)*3:=by rw[<-r];simp;omega
 have p:∀(W:World),W.heap=(e.drew.alloc (.cells a.toArray 72)).heap->W.heap[e.heap.size]?=T (.cells a.toArray 72 (0,0))/\W.heap[U]?=T (.cells fq t (0,0))/\W.heap[c2]?=T (.cells o cK (0,0)):=λW f=>by
  rw[f];refine⟨heap_alloc_new e.drew _,?_,?_⟩
  ·show(e.heap.push _)[U]?=_;grind
  ·show(e.heap.push _)[c2]?=_;grind
 have P:∀(W:World),W.heap=(e.drew.alloc (.cells a.toArray 72)).heap->∀c dc,(Builtin.copy_ #[28,28] c #[.slice (T ⟨e.heap.size,y*3,D⟩) (O+1 -y) dc,.slice (T ⟨c2,0,D⟩) 1 jW]).run a1 W=.ok (goInt ((1:Nat):Int)) (W.setRow e.heap.size (a.take (y*3)++vs++a.drop (y*3+3)).toArray):=λW f c dc=>by
  obtain⟨n,E,F⟩:=p W f;have g:=Fs (pD:=a1) W 28 28 c 72 l e.heap.size (y*3) (O+1 -y) dc ⟨c2,0,D⟩ 1 jW 1 a.toArray 72 vs sE u n (by grind) (by omega)
   (λC j v=>by
    rw[Addr.add_lit,aJ,B9 F];grind)
   (by grind) I
  grind
 generalize x:a.take (y*3)++vs++a.drop (y*3+3)=b at*;have bv:Z b=d*3:=by rw[<-x];simp[w,ae];omega
 have Q:∀(W:World),W.heap=((e.drew.alloc (.cells a.toArray 72)).setRow e.heap.size b.toArray).heap->∀c dc h,(Builtin.copy_ #[28,28] c #[.slice (T ⟨e.heap.size,(y+1)*3,D⟩) (O -y) dc,.slice (T ⟨U,y*3,D⟩) (O -y) h]).run a1 W=.ok (goInt ((O -y:Nat):Int)) (W.setRow e.heap.size (b.take ((y+1)*3)++k++b.drop ((O+1)*3)).toArray):=λW f c dc h=>by
  obtain⟨n,E,F⟩:=p _ rfl;have k4:W.heap[e.heap.size]?=T (.cells b.toArray 72 (0,0)):=by rw[f];exact setRow_heap _ _ _ _ _ _ n
  have af:W.heap[U]?=T (.cells fq t (0,0)):=by rw[f,setRow_other _ _ _ _ (by omega)];exact E
  have g:=Fs (pD:=a1) W 28 28 c 72 l e.heap.size ((y+1)*3) (O -y) dc ⟨U,y*3,D⟩ (O -y) h (O -y) b.toArray 72 k sE u k4 (by grind) (by grind)
   (λC j v=>by
    rw[Addr.add_lit,B9 af];grind)
   (by grind) (by grind)
  rw[N,show(y+1)*3+(O -y)*3=(O+1)*3 by omega]at g;exact g
 have dl:¬((y:Int)=(O:Int)):=by omega
 have ds:(cap:Int)<(O:Int)+(1:Int):=by omega
 have ax:¬(d=y):=by omega
 have aB:¬(d=y+1):=by omega
 have bb:¬(cap=y):=by omega
 have co:IntKind.i64.wrap ((y:Int)+(1:Int))=(y:Int)+(1:Int):=by rw[IntKind.wrap_i64];omega
 have aQ:(0:Int)<=(y:Int)+(1:Int):=by omega
 have bi:y<=O:=by omega
 have b4:((y:Int)+(1:Int)).toNat=y+1:=by omega
 have a0:(y:Int)<=(O:Int):=by omega
 have d1:a1.follows .mixedOrders=true:=by kernel_rfl
 clear V S X L i x z B s r
 go_enter Tryz.func134,Tryz.ntmps134
 have J:((e.alloc (.cells a.toArray 72)).drew).heap=(e.drew.alloc (.cells a.toArray 72)).heap:=rfl;have K:((((e.alloc (.cells a.toArray 72)).drew).setRow e.heap.size b.toArray).drew).heap=((e.drew.alloc (.cells a.toArray 72)).setRow e.heap.size b.toArray).heap:=rfl;have be:=λc dc=>P _ J c dc;have R:=λc dc h=>Q _ K c dc h
 go_wp2_with (at_builtin;refine Lib.wpList_append_run _ rfl _ _ _ _ rfl _ _ rfl rfl _ _ (A _) ?_)
 go_region_law_o (refine step_copy_runI rfl _ _ 28 28 rfl _ _ (by simp[Act.eval,Act.put]) (by simp[Act.eval,Act.put]) (R _ _ _) ?_)
 go_wp2
 go_ret;exact⟨rfl,by rw[fH]<;>rfl⟩
variable{gD:List Value}
theorem aiE{vs a c b e:List Value}(h:Z gD=U)(k:Z vs=3)(i:Z a=O)(d:List Value)(j:Z d=3)(f:b=(gD++d)++a++c)(g:e=b.take U++vs++b.drop (U+3)):e=gD++vs++a++c:=by
 grind
variable{fM:l}
theorem Sz{d vs:List Value}(c:∀b∈bS,Z b=3)(t:U<=Z bS)(r:Z bS*3<=Z gD)(k:Fr L fM)(g:Good L)
 (o:RL L bS.flatten (gD.take (Z bS*3)))(m:∀a∈gD.take (Z bS*3),a.oneCell'=ab)(q:Z bg=3)(p:RL L bg vs)(n:∀a∈vs,a.oneCell'=ab)(f:d.take ((Z bS+1)*3)=gD.take (U*3)++vs++(gD.take (Z bS*3)).drop (U*3)):
 (∀b∈bS.take U++bg::bS.drop U,Z b=3)/\RL fM (bS.take U++bg::bS.drop U).flatten (d.take (Z (bS.take U++bg::bS.drop U)*3))/\∀a∈d.take (Z (bS.take U++bg::bS.drop U)*3),a.oneCell'=true:=by
 have e:Z (bS.take U++bg::bS.drop U)=Z bS+1:=by simp;omega
 rw[e,f];have h:(bS.take U).flatten=bS.flatten.take (U*3):=by
  have:=tR 0 U c;simpa using this
 have i:(bS.drop U).flatten=bS.flatten.drop (U*3):=by
  have:=tR U (Z bS -U) c;rw[fW (by simp)]at this;rw[this,fW];rw[py,CA c];omega
 have j:gD.take (U*3)=(gD.take (Z bS*3)).take (U*3):=by rw[Tu];congr 1;omega
 refine⟨λb s=>?_,?_,λa c=>?_⟩
 ·grind
 ·grind[List.flatten_append,List.flatten_cons,List.append_assoc,RL.append,RL.mono,RL.take,RL.drop]
 grind
theorem SA{id g:Nat}{a:List (List AV)}{cap:Nat}(j:Good L)(i:L.H[id]?=T (.arr g 3 bS))(K:Z a=U)(z:c7 L.w e (λO=>∃E,L.h id=T (O,E)))(f:e.heap[O]?=T (.cells gD.toArray t (0,0)))
 (N:(∃F,L.h id=T (O,F))\/L.w.heap.size<=O)(s:U<=cap)(J:cap*3<=Z gD)(y:bL=.slice (T ⟨O,0,D⟩) U cap)
 (x:∀d:l,Fr L d->(∀k∈a,Z k=3)/\RL d a.flatten (gD.take (Z a*3))/\∀C∈gD.take (Z a*3),C.oneCell'=ab):
 Ar L (L.H.set id (.arr (g+1) 3 a)) (.q id (g+1) 0 U) (.returned bL) e:=by
 have u:=(e6.1 i).1;have M:=(oI.1 f).1;obtain⟨b,p⟩:=l.vw j z i (k:=.arr (g+1) 3 a) (f:=T (O,Z gD)) (by simp[iK])
  (by grind)
  (λb=>by
   obtain⟨r,G,I⟩:=x _ b;refine⟨r,by grind[l.b6]⟩)
 refine⟨_,rfl,b,p,rfl,?_⟩;have v:(L.b6 e id (.arr (g+1) 3 a) (T (O,Z gD))).H[id]?=T (.arr (g+1) 3 a):=by simp[l.b6,u]
 refine .q id (g+1) 0 _ bL (by grind) (by grind) (λQ A B c=>?_) λA B c=>?_
 ·grind
 ·rw[v]at c
  injection c with m;injection m with _ n o;subst n;subst o;exact⟨_,cap,y,s,by omega,.inr ⟨O,Z gD,by simp[l.b6],by simp,by omega⟩⟩
theorem SB:CP a1 134:=⟨Tryz.f134,Tryz.f134.body.getD .skip,Tryz.func134,by kernel_rfl,by kernel_rfl⟩
theorem SD:sO a1 28=T (3,[.int .i64 0,.ai,.int .i64 0],40):=by kernel_rfl
theorem SE(g:Good L)(f:L.H[U]?=T (.arr 0 3 [bg]))(b:R L (.q U 0 0 1) bL):
 ∃c e a d,bL=.slice (T ⟨c,0,D⟩) 1 e/\L.h U=T (c,a.size)/\L.w.heap[c]?=T (.cells a d (0,0))/\Z bg=3/\Z ((bU a).take 3)=3/\RL L bg ((bU a).take 3)/\∀k∈(bU a).take 3,k.oneCell'=true:=by
 obtain⟨j,i⟩:=g.iw U _ f;have t:=j bg (by simp);rcases i with⟨b,-⟩|⟨c,a,d,n,o,p,r,s⟩
 ·cases b
 cases b with
 |q _ _ _ _ _ _ m u b=>
  grind
theorem aiF{id g:Nat}(o:N[id]?=T (.arr g 3 bS))(d1:Z bS=O)(au:N[U]?=T (.arr 0 3 [bg]))(d3:id≠U)(ah:y<=O)(bv:(O+1)*40<=2^47):
 jz a1 G0 134 [.q id g 0 O,.int .i64 y,.q U 0 0 1] N (.q id (g+1) 0 (O+1)) (N.set id (.arr (g+1) 3 (bS.take y++bg::bS.drop y))):=by
 refine⟨SB,λa f0 gd f4 bb be X=>?_⟩;subst bb;obtain⟨s,V,rfl,K,Y⟩:∃s V,f0=[s,.int .i64 y,V]/\R a (.q id g 0 O) s/\R a (.q U 0 0 1) V:=by
  cases be with
  |cons _ a4 _ _ B p=>cases p with
   |cons _ b _ _ J p=>cases p with
    |cons _ f2 _ _ f3 p=>cases p with
     |nil=>cases J;grind
 obtain⟨aQ,l,a0,f7,rfl,co,ad,ae,d,ac,C⟩:=SE gd au Y;have d5:=(gd.iw id _ o).2;have ar:=(gd.iw id _ o).1;by_cases cs:y=O
 ·subst cs
  have fs:St a {env:=[],bx:=[],hp:=a.H} (#[]:Array Value):=⟨gd,rfl,by grind[look],by grind[look]⟩;have bi:cx 3 40 (.q id g 0 y) (.q U 0 0 1) a.H=T (.q id (g+1) 0 (y+1),a.H.set id (.arr (g+1) 3 (bS.take y++[bg]))):=by
   have ex:hQ a.H 3 (.q U 0 0 1)=T [bg]:=by simp[hQ,au]
   simp only[cx,ex,AV.isNil,cZ,if_false,o];rw[if_pos ⟨trivial,by omega,trivial,by simpa using bv⟩]<;>rfl
  obtain⟨b4,-,-,-⟩:=GX (K:={env:=[],bx:=[],hp:=a.H}) SD (by decide) bi;have eq:=λr=>F4 (s:=⟨#[],[]⟩) (lj:=r) fs (.inl K) (.inl Y) (cK:=28) (by simp_all[pT]) b4;have ce:bS.drop y=[]:=by grind
  have P:∃v cap,s=.slice v y cap/\y<=cap/\(v=D->cap=0):=by
   cases K with
   |q _ _ _ _ _ _ B ci f=>
    grind
  obtain⟨v,cap,rfl,ds,d4⟩:=P;obtain⟨fI,u,d8,bf,aB,n⟩:=eq 28;have E:∀r,(Builtin.append_ #[28,28] r #[.slice v y cap,.slice (T ⟨aQ,0,D⟩) 1 l]).run a1 a.w=.ok fI u.w:=λr=>d8;refine(Sy E ds d4).mono ?_;rintro x a3 ⟨rfl,rfl⟩;refine⟨u,rfl,n,aB.b1,?_,bf⟩;rw[ce];exact aB.hp.symm
 ·have ak:y<O:=by omega
  rcases d5 with⟨f,-⟩|⟨b,c,A,Q,S,fd,k4,F⟩
  ·grind
  have P:∃cap,s=.slice (T ⟨b,0,D⟩) O cap/\O<=cap/\cap*3<=c.size:=by
   cases K with
   |q _ _ _ _ _ _ B ci f=>
    grind
  obtain⟨cap,rfl,d2,bw⟩:=P;have es:aQ≠b:=λx=>d3 (gd.kL id U b _ _ Q (x▸co));subst d1;have af:Z (bS.take y++bg::bS.drop y)=Z bS+1:=by simp;omega
  have M:Z bS*3<=Z (bU c):=by simpa using fd
  have e:Z ((bU c).take (y*3))=y*3:=by rw[gb];omega
  have i:Z (((bU c).take (Z bS*3)).drop (y*3))=(Z bS -y)*3:=by rw[py,gb];omega
  by_cases aq:Z bS+1<=cap
  ·obtain⟨j,k,z,m,L⟩:=aiC (e:=a.w) (y:=y) (jW:=l) ak aq (by omega) es S bw F ad rfl d C
   have E:k=(bU c).take (y*3)++(bU a0).take 3++((bU c).take (Z bS*3)).drop (y*3)++(bU c).drop ((Z bS+1)*3):=by
    refine aiE e d i (((bU c).drop (y*3)).take 3) (by grind) ?_ m;rw[z]
    congr 2
    grind
   have em:Z k=c.size:=by rw[E];simp only[fb,e,d,i,py,yh];simp at M;omega
   refine L.mono ?_;rintro x a3 ⟨rfl,rfl⟩;have br:(a.w.drew.setRow b j.toArray).heap[b]?=T (.cells j.toArray A (0,0)):=setRow_heap _ _ _ _ _ _ S;refine SA (gD:=k) (t:=A) (O:=b) (cap:=cap) gd o af ?_ (setRow_heap _ _ _ _ _ _ br) (.inl ⟨_,Q⟩) aq (by omega) rfl ?_
   ·exact((c7.drew _ _).trans (by grind[c7.setRow])).trans (c7.setRow _ _ _ _ ⟨_,Q⟩)
   ·intro u n
    refine Sz (gD:=bU c) ar ah M n gd k4 F ae ac C ?_;rw[E,Ck (by simp only[fb,e,d,i];omega),fW (by simp only[fb,e,d,i];omega)]
  ·obtain⟨I,G,j,k,X,d6,d7,z,m,L⟩:=aiD (e:=a.w) (y:=y) (jW:=l) ak d2 (by omega) (by omega) S (by omega) F ad rfl d C
   have d9:Z j=I*3:=by rw[z];simp only[fb,gb,py,d6,d]at*;omega
   have el:j.take ((y+1)*3)=(bU c).take (y*3)++(bU a0).take 3:=by
    rw[z,d7,Ck (by simp only[fb,e,d];omega),fW (by simp only[fb,e,d];omega)]
   rw[el]at m;have em:Z k=I*3:=by rw[m];simp only[fb,e,d,i,py,d9];omega
   refine L.mono ?_;rintro x a3 ⟨rfl,rfl⟩;have B:(a.w.drew.alloc (.cells G.toArray 72)).heap[a.w.heap.size]?=T (.cells G.toArray 72 (0,0)):=heap_alloc_new a.w.drew _;have J:=setRow_heap (a.w.drew.alloc (.cells G.toArray 72)) a.w.heap.size _ j.toArray _ _ B;refine SA (gD:=k) (t:=72) (O:=a.w.heap.size) (cap:=I) gd o af ?_ (setRow_heap _ _ _ _ _ _ J) (.inr (di _)) X (by omega) rfl ?_
   ·have fn:c7 a.w (a.w.drew.alloc (.cells G.toArray 72)) (λb=>∃t,a.h id=T (b,t)):=(c7.drew _ _).trans (c7.alloc _ _ _)
    have ax:∀(W:World)(rr:Array Value),c7 a.w W (λb=>∃t,a.h id=T (b,t))->c7 a.w (W.setRow a.w.heap.size rr) (λb=>∃t,a.h id=T (b,t)):=λW rr f=>
     ⟨f.os,f.output,f.tape,iU f.size (by simp),λe2 dl d0=>by rw[setRow_other _ _ _ _ (by omega)];exact f.block e2 dl d0⟩
    exact ax _ _ ((ax _ _ fn).trans (c7.drew _ _))
   ·intro u n
    refine Sz (gD:=bU c) ar ah M n gd k4 F ae ac C ?_;rw[m,Ck (by simp only[fb,e,d,i];omega),fW (by simp only[fb,e,d,i];omega)]
theorem aiG(g:N[U]?=T (.arr 0 3 [bg])):
 jz a1 G0 134 [.ai,.int .i64 0,.q U 0 0 1] N (.q (Z N) 0 0 1) (N++[.arr 0 3 [bg]]):=by
 refine⟨SB,λa z gd L n o I=>?_⟩;subst n;obtain⟨d,rfl,f⟩:∃d,z=[.slice D 0 0,.int .i64 0,d]/\R a (.q U 0 0 1) d:=by
  cases o with
  |cons _ i _ _ l b=>cases b with
   |cons _ B _ _ m b=>cases b with
    |cons _ C _ _ G b=>cases b with
     |nil=>cases l;cases m;grind
 obtain⟨A,j,V,W,rfl,O,K,M,P,J,F⟩:=SE gd g f;have x:St a {env:=[],bx:=[],hp:=a.H} (#[]:Array Value):=⟨gd,rfl,by grind[look],by grind[look]⟩;have r:cx 3 40 .ai (.q U 0 0 1) a.H=T (.q (Z a.H) 0 0 1,a.H++[.arr 0 3 [bg]]):=by
  have v:hQ a.H 3 (.q U 0 0 1)=T [bg]:=by simp[hQ,g]
  simp only[cx,v,AV.isNil,if_true]<;>rfl
 obtain⟨s,-,-,-⟩:=GX (K:={env:=[],bx:=[],hp:=a.H}) SD (by decide) r;obtain⟨y,e,t,p,h,k⟩:=F4 (s:=⟨#[],[]⟩) (lj:=28) x (.inl R.ai) (.inl f) (cK:=28) (by simp_all[pT]) s;have u:∀c,(Builtin.append_ #[28,28] c #[.slice D 0 0,.slice (T ⟨A,0,D⟩) 1 j]).run a1 a.w=.ok y e.w:=λc=>t;have:=Sy u (di _) (λ_=>rfl);refine this.mono ?_;rintro E X ⟨rfl,rfl⟩;exact⟨e,rfl,k,h.b1,h.hp.symm,p⟩
theorem px.cl{W:List AV}(a:px Y p W):dh 1 Y=T [Y]:=by
 rcases a with⟨b,rfl,-⟩|⟨id,rfl,-⟩<;>rfl
theorem tf.e0(a:aj)(b:aG):tf a b [] e0:=⟨rfl,rfl,by simp[AM.e0]⟩
theorem SF{s:Nat->Nat->List AV}(bi:B5 M u X bz)(aq:j6 u)(O:px Y p (cW V F bp b2 M X))
 (bf:E.pl=E)(bb:dh 1 E=T [E])(a4:∀b a,lC E [.agg (cM b a)]=T (U,s b a))(a9:∀b a,(s b a).map AV.pl=s b a)(q:z->aX->z)(n:z)
 (be:∀b a pre P bw,fA M X u=pre++P::bw->nR C U (s b a) b a pO bm P (pre.foldl q n) (q (pre.foldl q n) P))
 (ak:pO n gA)(a0:w N (gA++(p++(bm++ir)))):
 HR C 55 [Y,.agg (aP ed u),E] N (λ_ R=>∃h,pO ((fA M X u).foldl q n) h/\w R (h++(p++(bm++ir)))):=by
 refine XX.hq ?_ (by simp[O.pl,bf]);have bv:∀(ac:List AV),[ac][0]?=T ac:=λ_=>rfl;refine bj (obO_1 O.cl) (bj (yc rfl rfl) (bj (obO_1 bb) ?_));have o:=((a0.alloc (.arr 0 1 [[Y]])).alloc (.arr 0 9 [aP ed u])).alloc (.arr 0 1 [[E]]);simp only[fb,gz]at o⊢;generalize(N++[Obj.arr 0 1 [[Y]]]++[.arr 0 9 [aP ed u]]++[.arr 0 1 [[E]]])=j at*;generalize Z N+1+1=g at*;generalize Z N+1=d at*
 generalize Z N=f at*;have af:=o.get (U:=d) (iX:=.arr 0 9 [aP ed u]) (by simp);refine aD (kV af rfl rfl) ?_;have a3:∀B:AV->Prop,B (l9 (ord u.ae []))->cp C 115 [.agg (aP ed u),.ai] j B:=λB k=>by
  refine⟨.c4,[.agg (aP ed u),eS aa cS []],l9 (ord u.ae []),by decide,?_,OA u [] aq (by simp),by simp,k⟩;exact .ck cy (.ck (.ai _ _) (.nil _))
 refine a3 _ ?_;cases L:ord u.ae []with
 |none=>
  have ar:fA M X u=[]:=by rw[fA,L]
  simp only[l9,ef,cv,dk,Q];refine bj rfl ?_;have m:=o.alloc (.arr 0 1 [[.ai]]);have t:=m.get (U:=Z j) (iX:=.arr 0 1 [[.ai]]) (by simp);refine aD (k1 t rfl (by decide) rfl rfl) ?_;have x:=m.set (.arr 0 1 [[AV.ai].set 0 (eS aa cN [])]);simp only[cd,Q];refine a7 ⟨gA,by rw[ar];exact ak,?_⟩ (by decide);exact x.tail.tail.tail.tail
 |some c=>
  have ar:fA M X u=kY M X u.ae c e0:=PI L;obtain⟨br,ds⟩:=BB L;simp only[l9,ef,cv,dk,Q];refine bj rfl ?_;have m:=o.alloc (.arr 0 1 [[.ai]]);have t:=m.get (U:=Z j) (iX:=.arr 0 1 [[.ai]]) (by simp);refine aD (k1 t rfl (by decide) rfl rfl) ?_;have x:=m.set (.arr 0 1 [[AV.ai].set 0 (eS aa cN c)]);simp only[cd,Q];refine bq ?_ (by decide)
  have dl:Z ((j++[Obj.arr 0 1 [[AV.ai]]]).set (Z j) (.arr 0 1 [[AV.ai].set 0 (eS aa cN c)]))=Z j+1:=by simp
  generalize(j++[Obj.arr 0 1 [[AV.ai]]]).set (Z j) (.arr 0 1 [[AV.ai].set 0 (eS aa cN c)])=A at*;generalize Z j=e at*;clear m t o af;have G:=(x.alloc (.mp ab [] [])).alloc (.mp ab [] []);simp only[dZ,fb,gz]at G⊢;generalize A++[Obj.mp ab [] []]++[.mp ab [] []]=r at*;generalize Z A+1=a at*;generalize Z A=b at*;refine aD (dD:=cM b a) rfl (bj rfl ?_);have H:=G.alloc (.arr 0 2 [[.oN,.oN]])
  have ad:=H.get (U:=Z r) (iX:=.arr 0 2 [[.oN,.oN]]) (by simp);refine aD (stO_9 ad rfl rfl rfl) ?_;have ah:=H.set (.arr 0 2 [cM b a]);generalize(r++[Obj.arr 0 2 [[AV.oN,AV.oN]]]).set (Z r) (.arr 0 2 [cM b a])=l at*;generalize Z r=i16 at*;clear H ad G x;refine bj rfl ?_;have J:=ah.alloc (.arr 0 1 [[.gO]]);have v:=J.get (U:=Z l) (iX:=.arr 0 1 [[.gO]]) (by simp);simp only[yN]
  refine aD (k1 v rfl (by decide) rfl rfl) ?_;have K:=J.set (.arr 0 1 [[AV.gO].set 0 (.fn 116 [] (u6 f d g e i16 (Z l)))]);simp only[u6]at K;generalize(l++[Obj.arr 0 1 [[AV.gO]]]).set (Z l) (.arr 0 1 [[AV.gO].set 0 (.fn 116 [] [.ptr e 0 0 0,.ptr g 0 0 0,.ptr i16 0 0 0,.ptr f 0 0 0,.ptr d 0 0 0,.ptr (Z l) 0 0 0])])=S at*;generalize Z l=i at*;clear J v ah
  have v:=K.get (U:=i) (iX:=.arr 0 1 [[AV.gO].set 0 (.fn 116 [] [.ptr e 0 0 0,.ptr g 0 0 0,.ptr i16 0 0 0,.ptr f 0 0 0,.ptr d 0 0 0,.ptr i 0 0 0])]) (by simp);refine aD (dD:=.fn 116 [] (u6 f d g e i16 i)) (by rw[cr v (bv _)]<;>rfl) ?_;refine bj (dD:=116) (b:=I ((0:Nat):Int)::u6 f d g e i16 i) rfl ?_
  have aB:=ahM (α:=z) (mv:=b) (me:=a) (i3:=f) (i4:=d) (i5:=g) (i10:=e) (i16:=i16) (i18:=i) (Xe:=bm) (A:=pO) bi O (a4 b a) (a9 b a) q (fA M X u) n (be b a) (by have:=aq.1;grind) ed br [] e0 [] [] rfl ⟨rfl,rfl,by simp[e0],tf.e0 M u⟩ (by grind);have au:∀{y h:aN},(y++(jG f d g e i16 i b a Y E ed u c++(h++(p++(bm++ir))))).Perm (y++(h++((p++(jG f d g e i16 i b a Y E ed u c++bm))++ir))):=by
   intro y h;refine kJ _ ?_;rw[fH p,fH (jG f d g e i16 i b a Y E ed u c)];exact(mi _ h _).trans ((mi _ p _).append_left h)
  have aQ:w S (ew b a ab ab e0 [] (λ_=>0)++(jG f d g e i16 i b a Y E ed u c++(gA++(p++(bm++ir))))):=by
   refine K.perm ?_;refine(mi [_,_] [_,_] _).trans ?_;exact(List.Perm.swap _ _ _)
  refine cY (aB gA [] (λ_=>0) ab ab ir S ⟨vi,by simp[e0]⟩ ak (aQ.perm au)) rfl ?_;rintro d0 R ⟨h,b4,co,ci,ce,-,cs,ax⟩;refine⟨h,?_,?_⟩
  ·grind
  ·exact(ax.perm au.symm).sub.sub
structure JP(p:aj)(r:aG)(e:aX):Prop where
 len:Z e.bl=Z e.ax
 ad:Sm r.ad
 m:r.af.ak=2\/r.af.ak=3->r.af.aB∈e.m
 kinds:0<=r.af.ak/\r.af.ak<=3
 fn:r.af.ak=3->∃a:Nat,∃h:a<Z p.aW,r.af.aQ=a/\∃x:Nat,jO e r.af.aB=x/\x<Z p.aW[a].gM
theorem aiH(g:aj)(t:List aw)(a:aG)(c:aX)(e:List k)(f:k->Int)(h:JP g a c)(u:kG c e f):
 PR C 112 [.aK V (cW F bp b2 ed g t) 0,.agg (aP pN a),.agg (k8 c e f)] (.agg (cF aa (iR g a c))):=by
 refine YL.pr ?_;have J:iD 2 (.agg (k8 c e f))=T (.aK aa (k8 c e f) 0):=rfl;have K:∀w,aR 2 ab (.aK aa (k8 c e f) 0) w=T (.agg (k8 c e f)):=λ_=>rfl;have M:(k8 c e f)[0+1]?=T (.iu (hS e) (e.map λd=>I (f d))):=rfl;have N:(aP pN a)[0+1]?=T (I a.aq):=rfl;have O:(aP pN a)[0+2]?=T (eS pN cT a.ad):=rfl;have P:(aP pN a)[0+3+0]?=T (I a.af.ak):=rfl;have R:(aP pN a)[0+3+2]?=T (.str a.af.aB):=rfl
 have S:(aP pN a)[0+3+3]?=T (I a.af.aQ):=rfl;have w1:(cW F bp b2 ed g t)[0+0+1]?=T (eS F (b8 F) g.aW):=rfl;have E:ko [I 0,.ai,I 0] [(0,1,I a.aq),(1,1,eS aa cV (eG c a.ad)),(2,1,I (-1))]=T [I a.aq,eS aa cV (eG c a.ad),I (-1)]:=rfl;have s:∀d:Int,dh 3 (.agg [I a.aq,eS aa cV (eG c a.ad),I d])=T [I a.aq,eS aa cV (eG c a.ad),I d]:=λ_=>rfl;have x:∀d:Int,lX (I d)=T (I d):=λ_=>rfl
 have B:∀d:Int,d=nI g a c->aI [] .res (AV.pl (.agg [I a.aq,eS aa cV (eG c a.ad),I d])) (.agg (cF aa (iR g a c))):=λd o=>by
  subst o;exact cy
 simp only[J,l3,K,Q,a6,aH,N,O];refine⟨.c4,_,_,by decide,.ck (RZ c e f _) (.ck cy (.nil _)),R0 c e f a.ad h.len h.ad,(λc=>by cases c),?_⟩;simp only[E,s,bo,a6,aH,P,R,S,M,wu,w1,Q,c9,G,i];refine b (λl=>?_) (λl=>b (λn=>?_) (λn=>b (λj=>?_) (λj=>?_)))
 ·have l:a.af.ak=1:=by simpa using l
  simp only[x,s,Q,G,i];exact B _ (by rw[nI,if_pos l])
 ·have n:a.af.ak=2:=by simpa using n
  obtain⟨p,q⟩:=u.aV _ (h.m (.inl n));rw[Jt (Y:=.iu (hS e) (e.map λd=>I (f d))) rfl p,q];simp_all[nI]
 ·have j:a.af.ak=3:=by simpa using j
  obtain⟨p,q⟩:=u.aV _ (h.m (.inr j));obtain⟨r,H,y,d,z,o⟩:=h.fn j;have A:(b8 F g.aW[r])[0+5]?=T (eS F cI g.aW[r].gM):=rfl;have U:∀v:Int,(cI v)[0]?=T (I v):=λ_=>rfl;rw[Jt (Y:=.iu (hS e) (e.map λd=>I (f d))) rfl p,q,y,aC H (p3 _ _)];simp only[Q,a6,aH,A];rw[z,aC o (g4 _)];simp_all[nI]
 grind[nI]
structure wA(C:eD):Prop where
 aiI:∀{v:AV}{fs:List aw}{P F:aN}{H:List Obj}{id:Nat}(i:Nat)(f:aw),bA v (cF aa) 3 fs P->w H ((id,.arr 0 3 [cF aa f])::(P++F))->i<=Z fs->Z fs<1099511627776->
  HR C 134 [v,I (i:Int),.q id 0 0 1] H (λr H'=>∃P',bA r (cF aa) 3 (fs.take i++f::fs.drop i) P'/\w H' (P'++F))
def qG(h:Nat)(f:Bool)(a:aj)(g:List aw)(e:aN):Prop:=
 ∃c b,bA c (cF aa) 3 g b/\e=(h,.arr 0 5 [[eS aa (bn aa) a.m,eS aa (b8 aa) a.aW,eS aa (bF aa) a.d,eS f (aP aa) a.ah,c]])::b
theorem bA.g3(a:bA Y (cF aa) 3 X p)(b:w N (p++bm)):aI N .cm Y (eS ab (cF aa) X):=by
 rcases a with⟨rfl,rfl,rfl⟩|⟨id,g,rfl,rfl⟩
 ·exact .ai _ _
 ·exact l7 (U:=3) (b.get (by simp)) (by simp)
theorem qG.g3(e:qG U V M X p)(a:w N (p++bm)):aI N .cm (.ptr U 0 0 0) (.aK ab (cW aa V ab aa M X) 0):=by
 obtain⟨b,c,g,rfl⟩:=e;refine .pV U 0 0 0 5 [[eS aa (bn aa) M.m,eS aa (b8 aa) M.aW,eS aa (bF aa) M.d,eS V (aP aa) M.ah,b]] [eS aa (bn aa) M.m,eS aa (b8 aa) M.aW,eS aa (bF aa) M.d,eS V (aP aa) M.ah,b] (cW aa V ab aa M X) (a.get (by simp)) rfl ?_;have f:w N (c++bm):=a.tail;exact .ck cy (.ck cy (.ck cy (.ck cy (.ck (g.g3 f) (.nil _)))))
theorem aiJ(a:bM):NB (.agg (bn aa a)):=.agg _ (.cons _ _ (.str _) (.cons _ _ (rA (λ_=>.cons _ _ (.str _) .nil) _) (.cons _ _ (QK _) (.cons _ _ (.int _ _) .nil))))
theorem aiK(c:fY X)(a:u4 X c0 U)(d:k7 X c0 U=aa):kA X c0 (Z X)=U:=by
 obtain⟨f,g⟩:=H5 c (R2 c a d) (Z X) (di _) (by omega);have j:=Pb X c0 (Z X);have:=a.le;generalize kA X c0 (Z X)=b at*;rcases Cj b U with dX|e|dX
 ·have h:=g b (by omega) (di _)
  have i:=a.lo b (by omega) dX;omega
 ·exact e
 ·have h:=f U (by omega) dX
  have i:=a.hi U (by omega) (di _);omega
theorem SG(d4:wA C)(d2:dW M)(d0:kz M)(a3:O<Z M.d)(bb:c0.aq=O)(fI:Z X<1099511627776)(fd:∀c0∈X,eO c0.ad)(L:fY X)
 (ci:qG U V M X p)(t:w N (p++bm)):
 HR C 68 [.ptr U 0 0 0,.agg (cF aa c0)] N (λf4 Y=>f4=.bool (S (dp M X c0≠X))/\∃A,qG U V M (dp M X c0) A/\w Y (A++bm)):=by
 refine Xd.hq ?_;have f1:Sm X:=by unfold Sm;omega
 have d8:(cF aa c0)[0+0]?=T (I c0.aq):=rfl;have d9:(cF aa c0)[0+1]?=T (eS aa cV c0.ad):=rfl;have el:(cF aa c0)[0+2]?=T (I c0.af):=rfl;have bw:∀(c:bM),(AV.agg [g (bn aa c) 0,g (bn aa c) 1,g (bn aa c) 2,g (bn aa c) 3])=.agg (bn aa c):=λ_=>rfl;have em:=RW (V:=true) (F:=false) (bp:=V) (b2:=true) (ed:=false) M X O a3 d0
 obtain⟨a,K,ce⟩:=Jq (V:=true) (F:=false) (bp:=V) (b2:=true) (ed:=false) (pN:=false) M X O c0.ad f1 fd L (Fh L _);have au:u4 X c0 a:=by
  have r:∀v,db v c0=db v ⟨O,c0.ad,0⟩:=λv=>Ju bb rfl;exact⟨K.le,λbe aQ y=>by rw[r];exact K.lo be aQ y,λbe aQ y=>by rw[r];exact K.hi be aQ y⟩
 have ex:k7 X ⟨O,c0.ad,0⟩ a=k7 X c0 a:=by
  unfold k7;cases X[a]? with
  |none=>rfl
  |some v=>grind[Ju]
 rw[ex]at ce;have ds:=ci.g3 t;have a4:e8 M c0.aq=if M.d[O].of<0 then D else M.m[M.d[O].of.toNat]?:=by
  unfold e8;rw[bb,ej,bC a3]
 have gj:=d0 _ (bs a3);generalize ge:M.d[O]=e at*;simp only[sR,Q,a6,aH,d8,bb];refine ea _ em (.ck ds (bO.snap (by simp))) (.aE _ (.cons _ _ (by simp[ite_self,aiJ]) (.cons _ _ (.bool _) .nil))) ?_;simp only[ef,cv,dk,Q,ite_self,xe,bw];have P:0<=e.of->∃c,e8 M c0.aq=T c/\pw M e=c/\c∈M.m:=by
  intro B;obtain⟨j,d1⟩:∃j:Nat,e.of=j:=⟨e.of.toNat,by omega⟩;have a9:j<Z M.m:=by omega
  refine⟨M.m[j],?_,?_,bs a9⟩
  ·rw[a4,if_neg (by omega),d1,ej,bC a9]
  ·rw[pw,if_neg (by omega),d1,ej,bC a9]<;>rfl
 refine pg (N:=N) (S (0<=e.of)&&(c0.af==fy (pw M e) [])) [g (bn aa (pw M e)) 0,g (bn aa (pw M e)) 1,g (bn aa (pw M e)) 2,g (bn aa (pw M e)) 3] (λz gi=>?_) ?_
 ·refine aZ (λy=>?_) (by grind)
  obtain⟨c,n,o,H⟩:=P (by grind);refine f (Ej (pw M e) (by rw[o];exact d2.aV c H)) ?_;simp only[rD,Q];grind
 simp only[G,i,bw];have fs:k7 X c0 a=aa->(∀c,e8 M c0.aq=T c->c0.af≠fy c [])->dp M X c0=X.take a++c0::X.drop a:=by
  intro b4 f9;obtain⟨-,gc⟩:=Jw L au b4;have eq:j8 X c0=X.take a++c0::X.drop a:=by rw[j8,aiK L au b4]
  rw[<-eq];unfold dp;cases aB:e8 M c0.aq with
  |none=>grind
  |some c=>grind
 refine b (λE=>?_) (λE=>?_)
 ·rw[bG]at E
  obtain⟨c,n,o,H⟩:=P (by grind);have k:dp M X c0=X:=by
   unfold dp;rw[n];simp only;rw[if_pos (by have:=E.2;rw[o]at this;simpa using this)]
  refine⟨?_,p,by grind,t⟩;rw[k];simp
 have f0:∀c,e8 M c0.aq=T c->c0.af≠fy c []:=by
  intro c a0 k;by_cases B:0<=e.of
  ·obtain⟨go,n,o,H⟩:=P B
   rw[a0]at n;simp only[eK]at n;subst n;rw[o,k]at E;simp[B]at E
  ·rw[a4,if_pos (by omega)]at a0;cases a0
 simp only[d9,el,Q];refine ea _ ce (.ck ds (bO.snap (by simp))) (.aE _ (.cons _ _ (.int _ _) (.cons _ _ (.bool _) .nil))) ?_;simp only[cv,dk,Q,bD];obtain⟨l,ac,ax,rfl⟩:=ci;have R:∀(bv:List AV),[bv][0]?=T bv:=λ_=>rfl;have x:=t.get (U:=U) (iX:=.arr 0 5 [[eS aa (bn aa) M.m,eS aa (b8 aa) M.aW,eS aa (bF aa) M.d,eS V (aP aa) M.ah,l]]) (by simp)
 have W:∀l:AV,[eS aa (bn aa) M.m,eS aa (b8 aa) M.aW,eS aa (bF aa) M.d,eS V (aP aa) M.ah,l][0+4]?=T l:=λ_=>rfl;refine b (λF=>?_) (λF=>?_)
 ·have F:k7 X c0 a=false:=by simpa using F
  have k:=fs F f0;simp only[gJ x,eb x,cr x (R _),W,Q,my];refine bj (b:=N++[.arr 0 3 [cF aa c0]]) rfl ?_;have co:=t.alloc (.arr 0 3 [cF aa c0]);have ak:=co.get (U:=U) (iX:=.arr 0 5 [[eS aa (bn aa) M.m,eS aa (b8 aa) M.aW,eS aa (bF aa) M.d,eS V (aP aa) M.ah,l]]) (by simp);simp only[gJ ak,eb ak,cr ak (R _),W,Q,j3,true_and]
  have e2:w (N++[.arr 0 3 [cF aa c0]]) ((Z N,.arr 0 3 [cF aa c0])::(ac++((U,.arr 0 5 [[eS aa (bn aa) M.m,eS aa (b8 aa) M.aW,eS aa (bF aa) M.d,eS V (aP aa) M.ah,l]])::bm))):=by
   refine co.perm (List.Perm.cons _ ?_);exact(mi [_] ac bm)
  refine cY (d4.aiI a c0 ax e2 K.le fI) (by simp[ax.pl]) ?_;rintro f5 Y ⟨A,dl,es⟩;have J:w Y ((U,.arr 0 5 [[eS aa (bn aa) M.m,eS aa (b8 aa) M.aW,eS aa (bF aa) M.d,eS V (aP aa) M.ah,l]])::(A++bm)):=es.back;have s:=J.get (U:=U) (iX:=.arr 0 5 [[eS aa (bn aa) M.m,eS aa (b8 aa) M.aW,eS aa (bF aa) M.d,eS V (aP aa) M.ah,l]]) (by simp);simp only[gJ s,eb s,Q]
  refine aD (k1 s rfl (by decide) dl.pl dl.cell) ⟨?_,_,⟨f5,A,by grind,rfl⟩,J.set _⟩;have:dp M X c0≠X:=by
   intro r;have:=congrArg List.length r;rw[k]at this;simp at this;omega
  simp[this]
 ·have fn:k7 X c0 a=true:=by simpa using F
  obtain⟨u,gh,cs⟩:=Jv au fn;refine b (λaB=>?_) (λaB=>?_)
  ·obtain⟨c,n,o,H⟩:=P (by grind)
   have k:dp M X c0=X.set a ⟨X[a].aq,X[a].ad,fy c [X[a].af,c0.af]⟩:=by
    unfold dp;simp only[n,cs,bC u];grind
   rcases ax with⟨rfl,-,-⟩|⟨id,h,rfl,rfl⟩
   ·simp at u
   have gid:=t.get (U:=id) (iX:=.arr h 3 (X.map (cF aa))) (by simp);have f2:(X.map (cF aa))[a]?=T (cF aa X[a]):=by simp[u]
   have d3:∀v:aw,(cF aa v)[0+2]?=T (I v.af):=λ_=>rfl;have bi:∀{bf:List Obj}{d7:List (List AV)},bf[id]?=T (.arr h 3 d7)->dw 2 (.ptr id h a 0) bf=T (.ptr id h a (0+2)):=λy=>oq y;simp only[gJ x,eb x,cr x (R _),W,Q,e3 gid u,bi gid,cr gid f2,d3];refine f (adC (pw M e) X[a].af c0.af (by rw[o];exact d2.aV c H)) ?_;rw[aJ,o];refine aD (Pd gid u) ?_
   have J:w N ([(U,.arr 0 5 [[eS aa (bn aa) M.m,eS aa (b8 aa) M.aW,eS aa (bF aa) M.d,eS V (aP aa) M.ah,.q id h 0 (Z X)]])]++(id,.arr h 3 (X.map (cF aa)))::bm):=t;have ar:=J.qF (.arr h 3 ((X.set a ⟨X[a].aq,X[a].ad,fy c [X[a].af,c0.af]⟩).map (cF aa)));generalize N.set id (.arr h 3 ((X.set a ⟨X[a].aq,X[a].ad,fy c [X[a].af,c0.af]⟩).map (cF aa)))=f7 at*
   have s:=ar.get (U:=U) (iX:=.arr 0 5 [[eS aa (bn aa) M.m,eS aa (b8 aa) M.aW,eS aa (bF aa) M.d,eS V (aP aa) M.ah,.q id h 0 (Z X)]]) (by simp);have ae:=ar.get (U:=id) (iX:=.arr h 3 ((X.set a ⟨X[a].aq,X[a].ad,fy c [X[a].af,c0.af]⟩).map (cF aa))) (by simp);have f3:((X.set a ⟨X[a].aq,X[a].ad,fy c [X[a].af,c0.af]⟩).map (cF aa))[a]?=T (cF aa ⟨X[a].aq,X[a].ad,fy c [X[a].af,c0.af]⟩):=by simp[u]
   simp only[gJ s,eb s,cr s (R _),W,Q,e3 ae u,bi ae,cr ae f3,d3,cd];refine⟨?_,_,⟨.q id h 0 (Z X),[(id,.arr h 3 ((X.set a ⟨X[a].aq,X[a].ad,fy c [X[a].af,c0.af]⟩).map (cF aa)))],?_,rfl⟩,ar⟩
   ·rw[k]
    refine congrArg AV.bool ?_;rw[hY];simp only[bne_iff_ne,ne_eq,decide_eq_true_eq];refine not_congr ⟨λr=>?_,λr=>?_⟩
    ·have:(⟨X[a].aq,X[a].ad,fy c [X[a].af,c0.af]⟩:aw)=X[a]:=by rw[r]
     rw[this,zY]
    grind
   grind[bA.of,cF,g,fy,List.length_set]
  ·have k:dp M X c0=X:=by
    have B:e.of<0:=by simpa using aB
    unfold dp;rw[a4,if_pos B];simp only[cs,mS,if_true]
   refine⟨by rw[k];simp,_,⟨l,ac,by grind,rfl⟩,t⟩
theorem mK.SH{p:aj}{fB:List aO}{r:aG}(a:mK p fB)(h:dq p fB X)(b:Z X<4294967296)(hr:r∈p.ah):B5 p r X fB where
 sm:=a.uT
 of:=a.BC
 aV:=a.v.aV
 fl:=by grind[Sm]
 zD:=dq.re a h.ok
 fz:=h.fz
 hG:=a.v.hG r hr
 meet:=h.meet a.v hr
 af:=λf hf=>(h.ok f hf).af
 zo:=a.zo
 ad:=λl b=>by have:=(a.tq r hr).2.2.2 l b;grind[Sm]
theorem mK.head(b:mK M bz)(e:dq M bz X)(c:u∈M.ah)(h:0<=u.aq)(a:H∈fA M X u):JP M u H:=by
 have d:=b.v.hG u c;have a:=Ii d (b.v.safe u c) (e.meet b.v c) (λg i=>(e.ok g i).af) H a;refine⟨a.len,by have:=(b.tq u c).2.2.1;grind[Sm],a.m,d.kinds,λf=>?_⟩;obtain⟨j,r,k,t,l,n,o⟩:=d.fn h f;obtain⟨s,p,q⟩:=a.au _ (Ez a.zm (a.m (.inr f)));grind[Option.some.injEq,qo]
theorem aiL(a:aw):NB (.agg (cF aa a)):=.agg _ (.cons _ _ (.int _ _) (.cons _ _ (zE _) (.cons _ _ (.int _ _) .nil)))
def zL(b d c e:Nat)(g:AV)(a:Bool)(f:aG):aN:=[(c,.arr 0 9 [aP a f]),(d,.arr 0 1 [[.ptr e 0 0 0]]),(b,.arr 0 1 [[g]])]
theorem aiM(t:wA C){b a:Nat}{c:Bool}{out:List aw}(W:dW M)(R:kz M)(P:O<Z M.d)(S:u.aq=O)(N:Z out<1099511627776)(J:∀l∈out,eO l.ad)(I:fY out)(K:JP M u H):
 nR C 111 [.agg (cM b a),.ptr c2 0 0 0,.ptr y 0 0 0,.ptr jW 0 0 0] b a (qG U bp M) (zL y c2 jW U (.aK V (cW F b2 ed pN M X) 0) c u) H out (dp M out (iR M u H)):=by
 intro r g h j i q f m A e;refine aac.hq ?_;have o:∀(k:List AV),[k][0]?=T k:=λ_=>rfl;have Y:iD 2 (.agg (cM b a))=T (.aK aa (cM b a) 0):=rfl;have ac:∀f,aR 2 ab (.aK aa (cM b a) 0) f=T (.agg (cM b a)):=λ_=>rfl;have z:=e.get (U:=c2) (iX:=.arr 0 1 [[.ptr U 0 0 0]]) (by simp[zL]);have v:=e.get (U:=y) (iX:=.arr 0 1 [[.aK V (cW F b2 ed pN M X) 0]]) (by simp[zL])
 have x:=e.get (U:=jW) (iX:=.arr 0 9 [aP c u]) (by simp[zL]);have ae:aR 9 ab (.ptr jW 0 0 0) f=T (.agg (aP c u)):=kV x rfl rfl;simp only[Y,ac,cr z (o _),cr v (o _),ae,cv,Q];have L:bO (cW F b2 ed pN M X):=by simp[cW]
 refine ea _ (aiH (V:=V) (F:=F) (bp:=b2) (b2:=ed) (ed:=pN) (pN:=c) M X u H g h K m) ?_ (aiL _) ?_
 ·exact .ck (Im.snap (by simp[L])) (.ck cy (.ck (B1 e) (.nil _)))
 have G:w f (r++(ew b a j i H g h++(zL y c2 jW U (.aK V (cW F b2 ed pN M X) 0) c u++q))):=e.swap;refine cY (SG t (c0:=iR M u H) W R P (by exact S) N J I A G) rfl ?_;rintro ah af ⟨-,s,B,E⟩;exact⟨s,g,h,j,i,m,B,E.swap⟩
theorem bA.res(a:bA Y (cF aa) 3 X p)(b:w N (p++bm)):aI N .res Y (eS aa (cF aa) X):=by
 rcases a with⟨rfl,rfl,rfl⟩|⟨id,g,rfl,rfl⟩
 ·exact .ai _ _
 ·exact fx (U:=3) (b.get (by simp)) (by simp)
theorem aiN{out:List aw}:(fA M X u).foldl (λa b=>dp M a (iR M u b)) out=jm M out (tg M X u):=by
 rw[jm,tg,Ky]
theorem SI(a9:wA C)(c:List aw)(g:List Int)(i:mK M bz)(q:dq M bz c)(ds:Z c<4294967296)(ci:Sm g):
 PR C 52 [.aK V (cW aa F bp b2 M c) 0,eS ed cI g] (eS aa (cF aa) (nK M g c)):=by
 refine Zp.pr ?_;have K:∀(g:List AV),[g][0]?=T g:=λ_=>rfl;have f3:bO (cW aa F bp b2 M c):=by simp[cW]
 have f6:=i.v.ah;refine bj (obO_1 (Y:=.aK V (cW aa F bp b2 M c) 0) rfl) ?_;simp only[c3,de];refine aD (dD:=.aK V (cW aa F bp b2 M c) 0) rfl ?_;refine aD (wu _ _ _ _) (aD rfl ?_);refine aD (dD:=.agg [eS aa (bn aa) M.m,eS aa (b8 aa) M.aW,eS aa (bF aa) M.d,eS F (aP aa) M.ah]) rfl ?_;refine aD (dD:=[eS aa (bn aa) M.m,eS aa (b8 aa) M.aW,eS aa (bF aa) M.d,eS F (aP aa) M.ah,.ai]) rfl ?_
 refine bj (yc rfl rfl) (bj rfl ?_);refine aD (dD:=[Obj.arr 0 1 [[.aK V (cW aa F bp b2 M c) 0]],.arr 0 5 [[eS aa (bn aa) M.m,eS aa (b8 aa) M.aW,eS aa (bF aa) M.d,eS F (aP aa) M.ah,.ai]],.arr 0 1 [[.ptr 1 0 0 0]]]) rfl ?_;refine aD (dD:=.aK V (cW aa F bp b2 M c) 0) rfl ?_;refine aD (wu _ _ _ _) (aD rfl (aD rfl ?_));refine aD (dD:=eS F (aP aa) M.ah) rfl ?_;rw[a8,Q]
 have E:w [Obj.arr 0 1 [[.aK V (cW aa F bp b2 M c) 0]],.arr 0 5 [[eS aa (bn aa) M.m,eS aa (b8 aa) M.aW,eS aa (bF aa) M.d,eS F (aP aa) M.ah,.ai]],.arr 0 1 [[.ptr 1 0 0 0]]]
  ([(1,.arr 0 5 [[eS aa (bn aa) M.m,eS aa (b8 aa) M.aW,eS aa (bF aa) M.d,eS F (aP aa) M.ah,.ai]])]++[(2,.arr 0 1 [[.ptr 1 0 0 0]]),(0,.arr 0 1 [[.aK V (cW aa F bp b2 M c) 0]])]):=by
  refine⟨by simp,?_⟩;intro l H;simp only[cf,c5,iW,or_false]at H;grind
 have ad:qG 1 F M [] [(1,.arr 0 5 [[eS aa (bn aa) M.m,eS aa (b8 aa) M.aW,eS aa (bF aa) M.d,eS F (aP aa) M.ah,.ai]])]:=⟨.ai,[],bA.nil _ _,rfl⟩
 refine bB (z:=Nat×aN×List Obj) (λj=>[I j.1]) (λj=>j.2.2) (λj=>Z M.ah -j.1) (λj=>j.1<=Z M.ah/\qG 1 F M ((M.ah.take j.1).foldl (mb M g c) []) j.2.1/\w j.2.2 (j.2.1++[(2,.arr 0 1 [[.ptr 1 0 0 0]]),(0,.arr 0 1 [[.aK V (cW aa F bp b2 M c) 0]])])) (0,_,_) ⟨by simp,ad,E⟩ ?_;clear E ad;rintro⟨k,P,p⟩ ⟨cs,x,y⟩ em au;simp only at cs x y au⊢;simp only[G,A,Q,a];refine b (λo=>?_) (λo=>?_)
 ·have o:k<Z M.ah:=by simpa using o
  have t:M.ah[k]∈M.ah:=bs o;have ak:=EB i.v q g (M.ah.take k) (by grind) (dq.nil M bz);rw[gb,de]at ak;have f2:=by omega
  have d8:=λn a3 z ac=>au (k+1,n,a3) ⟨o,z,ac⟩ (by omega);simp only[jB o]at d8;generalize(M.ah.take k).foldl (mb M g c) []=out at*;refine nQ (λs q=>(∃aQ,s=[aQ])/\∃n,qG 1 F M (mb M g c out M.ah[k]) n/\w q (n++[(2,.arr 0 1 [[.ptr 1 0 0 0]]),(0,.arr 0 1 [[.aK V (cW aa F bp b2 M c) 0]])])) (λDJ af=>?_) (λs f1 d2=>?_)
  ·rw[aC o (kQ _ _),Q,kR,Q]
   refine bj rfl ?_;have W:=y.alloc (.arr 0 9 [[.str [],I 0,.ai,I 0,.str [],.str [],I 0,.ai,I 0]]);have Y:=W.get (U:=Z p) (iX:=.arr 0 9 [[.str [],I 0,.ai,I 0,.str [],.str [],I 0,.ai,I 0]]) (by simp);refine aD (stO_9 Y rfl rfl rfl) ?_;have B:=W.set (.arr 0 9 [aP aa M.ah[k]])
   generalize(p++[Obj.arr 0 9 [[AV.str [],I 0,.ai,I 0,.str [],.str [],I 0,.ai,I 0]]]).set (Z p) (.arr 0 9 [aP aa M.ah[k]])=O at*;generalize Z p=u at*;clear W Y;generalize f5:M.ah[k]=e at*;have S:=B.get (U:=u) (iX:=.arr 0 9 [aP aa e]) (by simp);have bi:=B.get (U:=0) (iX:=.arr 0 1 [[.aK V (cW aa F bp b2 M c) 0]]) (by simp);have bb:(aP aa e)[0+1]?=T (I e.aq):=rfl
   have d7:aR 9 ab (.ptr u 0 0 0) O=T (.agg (aP aa e)):=kV S rfl rfl;simp only[eb S,cr S (K _),bb,Q,A];refine eh (N:=O) (!th g e) (λf7 dl=>dx (λd1=>?_) (λd1=>kB dl ?_)) ?_
   ·refine f (abe g e.aq ci) ?_
    simp only[bD,Q];grind[decide,th]
   ·grind[decide,th]
   ·simp only[G]
    refine b (λr=>?_) (λr=>?_)
    ·have r:th g e=false:=by simpa using r
     refine af _ _ ⟨⟨_,rfl⟩,P,?_,B.tail⟩;grind[mb]
    ·have r:th g e=true:=by simpa using r
     have U:0<=e.aq:=by
      rw[th,bG]at r;simpa using r.1
     obtain⟨h,ce,d3,-⟩:=(i.v.hG e t).head U;simp only[cr bi (K _),d7,cv,Q,yN];have b4:=i.SH q ds t;have d0:=Ik i.v q t;rw[tg,kd]at d0
     have bv:=SF (z:=List aw) (ed:=false) (pO:=qG 1 F M) (Y:=.aK V (cW aa F bp b2 M c) 0) (E:=.fn 111 [] [.ptr 2 0 0 0,.ptr 0 0 0 0,.ptr u 0 0 0]) (p:=[]) (bm:=zL 0 2 u 1 (.aK V (cW aa F bp b2 M c) 0) aa e) (U:=111) (s:=λaB ax=>[.agg (cM aB ax),.ptr 2 0 0 0,.ptr 0 0 0 0,.ptr u 0 0 0]) b4 (i.tq e t) (.inl ⟨V,rfl,rfl⟩) rfl rfl (λ_ _=>rfl) (λ_ _=>rfl)
      (λh l=>dp M h (iR M e l)) out ?_ (gA:=P) (ir:=[]) (N:=O) x ?_
     ·refine cY bv rfl ?_
      rintro f8 a4 ⟨n,z,bw⟩;rw[aiN]at z;refine af _ _ ⟨⟨_,rfl⟩,n,?_,?_⟩
      ·grind[mb]
      ·have:w a4 (n++((u,.arr 0 9 [aP aa e])::[(2,.arr 0 1 [[.ptr 1 0 0 0]]),(0,.arr 0 1 [[.aK V (cW aa F bp b2 M c) 0]])])):=bw
       exact this.back.tail
     ·intro aB ax pre l f9 H
      have d5:l∈fA M c e:=by rw[H];simp
      have d4:∀N∈pre,N∈fA M c e:=by grind
      have ar:dq M bz (pre.foldl (λh l=>dp M h (iR M e l)) out)/\Z (pre.foldl (λh l=>dp M h (iR M e l)) out)<=Z out+Z pre:=by
       have be:pre.foldl (λh l=>dp M h (iR M e l)) out=jm M out (pre.map (iR M e)):=by rw[jm,Ky]
       rw[be];have X:=By (c:=M) (pre.map (iR M e)) out;rw[kd]at X;refine⟨EA i.v.aV _ ak.1 ?_,X⟩;intro fI co;obtain⟨N,d6,rfl⟩:=du.1 co;exact PQ i.v q t U _ (du.2 ⟨N,d4 N d6,rfl⟩)
      have f4:Z pre<=Z (fA M c e):=by rw[H];simp
      exact aiM a9 i.uT i.BC ce d3 (by omega) (dq.re i ar.1.ok) ar.1.fz (i.head q t U d5)
     ·exact B.front
  ·obtain⟨⟨aQ,rfl⟩,n,z,ac⟩:=d2
   rw[ba,Q];grind
 ·have:k=Z M.ah:=by simp at o;omega
  subst this;rw[dB]at x;have E:M.ah.foldl (mb M g c) []=nK M g c:=rfl;rw[E]at x;obtain⟨s,eq,ae,rfl⟩:=x;have br:=y.get (U:=2) (iX:=.arr 0 1 [[.ptr 1 0 0 0]]) (by simp);have R:=y.get (U:=1) (iX:=.arr 0 5 [[eS aa (bn aa) M.m,eS aa (b8 aa) M.aW,eS aa (bF aa) M.d,eS F (aP aa) M.ah,s]]) (by simp);have d9:[eS aa (bn aa) M.m,eS aa (b8 aa) M.aW,eS aa (bF aa) M.d,eS F (aP aa) M.ah,s][0+4]?=T s:=rfl
  have bf:aR 1 aa (.ptr 2 0 0 0) p=T (.ptr 1 0 0 0):=cr br (K _);refine aD bf ?_;simp only[Q,gJ R,eb R,cr R (K _),d9];rw[ae.pl];exact ae.res (bm:=[(2,.arr 0 1 [[.ptr 1 0 0 0]]),(0,.arr 0 1 [[.aK V (cW aa F bp b2 M c) 0]])]) y.tail
variable{o:List z}
theorem JR{b:z->z}(d:o=o.map b):∀a∈o,b a=a:=by
 intro a c;obtain⟨f,e,rfl⟩:=jS.1 c;grind
theorem JS:∀{c:List Lit}{d g:Bool},lO M u c d=T g->(∀a∈c,a.bind≠[]->a.bind=u.af.aB/\hK M a.aq=hK M u.aq/\d=aa)/\
 (∀(e f:Nat)(a h:Lit),c[e]?=T a->c[f]?=T h->a.bind≠[]->h.bind≠[]->e=f)/\(g=ab->d=ab\/∃a∈c,a.bind≠[])
 |[],d,g,b=>by
  grind[lO]
 |x::c,d,g,b=>by
  rw[lO]at b;split at b
  ·rename_i k
   obtain⟨i,j,l⟩:=JS b;grind
  ·rename_i k
   split at b
   ·cases b
   ·rename_i m
    obtain⟨i,j,-⟩:=JS b;grind
theorem yf(a:aj)(b:Int):e8 a b=if hK a b<0 then D else a.m[(hK a b).toNat]?:=by
 grind[e8,hK]
theorem JT(a:U<Z M.d):hK M (U:Int)=M.d[U].of:=by
 grind[hK]
variable{pK:cD}
theorem SJ(b:M.m[pK.of.toNat]?=T dF)(a:0<=e1 M pK bH):eF dF (e1 M pK bH)=true:=by
 simp_all[e1,xW,bT,eF,decide_true,alg]
theorem aiP{a:Fn}(c:e9 dF a=ab):Z (fe dF a)=Z dF.au/\(fe dF a).all (eF dF)=true:=by
 simp only[e9,bG,fi,la,decide_eq_true_eq]at c;obtain⟨⟨⟨e,i⟩,f⟩,j⟩:=c;refine⟨by simp[fe],?_⟩;rw[fi];intro h d;simp only[fe,du]at d;obtain⟨b,g,rfl⟩:=d;have k:=f b g;have l:bT a.src b<Z a.src:=(xW _ _).2;have m:=(e (bT a.src b).toNat (by omega)).2;simp_all[bT,xW,eF,decide_true,alg]
theorem aiQ(b:mB aU c1 bH=ab):Z bH<=16:=by
 cases bH with
 |nil=>simp
 |cons a c=>
  grind[mB]
theorem aiR(a:qX iZ=ab):Sm iZ.s:=by
 unfold qX at a;split at a
 ·grind[Sm]
 ·simp only[bG,bV]at a
  grind[aiQ,Sm]
theorem SL(a:ic b3=ab):Sm b3.const.s:=by
 unfold ic at a;split at a
 ·exact aiR a
 grind[Sm]
theorem SM(a:nN M):kz M:=by
 intro b d;have c:=a.2.2.2;have:=EO M (M.ah.map (eH (dT M []))) b (by grind);exact this
theorem SN(a:nN M):uM M:=by
 intro e b;obtain⟨d,c,rfl⟩:=jS.1 b;have:=a.2.1;simp_all[po,oy]
theorem aiS(f:nN M):∀b∈M.aW,∃d,M.m[b.of.toNat]?=T d/\0<=b.of/\Z b.gM=Z d.au/\b.gM.all (eF d)=true:=by
 intro b g;have i:=congrArg aj.aW f.2.2.2;have e:=JR i b g;obtain⟨c,h,rfl⟩:=jS.1 g;have a:=f.2.1;simp only[po,bG,fi,la]at a;have a:=a.1.2 c h;rw[oz,bC h]at a;simp only[bG]at a;obtain⟨a,-⟩:=a;split at a
 ·rename_i d j
  simp only[bG,decide_eq_true_eq]at a;have k:M.aW[c].of=dz M M.aW[c].aV:=(congrArg Fn.of e).symm;have l:M.aW[c].gM=fe d M.aW[c]:=by
   refine(congrArg Fn.gM e).symm.trans ?_;simp only[eQ,j,if_pos a]
  grind[aiP]
 ·cases a
theorem aiT(n:nN M)(C:u∈M.ah):zl M u:=by
 have X:=SM n;have ac:M.aW=M.aW.map (eQ M):=congrArg aj.aW n.2.2.2;have au:M.d=M.d.map (en M):=congrArg aj.d n.2.2.2;have P:=congrArg aj.ah n.2.2.2;have U:dT M []=⟨M.m,M.aW,M.d,[]⟩:=by
  show(⟨M.m,M.aW.map (eQ M),M.d.map (en M),[]⟩:aj)=_;grind
 have r:=JR P u C;obtain⟨G,A,-,-,o⟩:=n.2.2.1 u C;rw[r]at o;rw[U]at r G A o;have s:=(BJ n.1).hG u C;have F:=JR (congrArg aG.ae r).symm;have ax:u.aq=kE ⟨M.m,M.aW,M.d,[]⟩ u:=(congrArg aG.aq r).symm;have E:u.af.aQ=oA ⟨M.m,M.aW,M.d,[]⟩ u:=(congrArg (λf:aG=>f.af.aQ) r).symm;have W:0<=u.aq->u.ar≠[]:=by grind[kE]
 rw[fi]at A;unfold rk at o;split at o
 ·cases o
 rename_i a3 V;obtain⟨K,L,N⟩:=JS V;have lit:∀b∈u.ae,b.ak≠5->∃a:Nat,∃c:a<Z M.d,b.aq=a/\Z b.ad=Z M.d[a].bb/\(b.bind≠[]\/b.ak=3\/b.ak=4->0<=M.d[a].of)/\
  (b.ak=3\/b.ak=4->0<=e1 M M.d[a] b.af/\b.gN=e1 M M.d[a] b.af):=by
  intro b h e;obtain⟨a,c,g,k,i,p⟩:=EN (A b h) e;have q:b.aq=a:=by
   have:=(congrArg Lit.aq (F b h)).symm;rw[this,g9];grind[mg]
  refine⟨a,c,q,k,i,λH=>⟨(p H).1,?_⟩⟩;have:=(congrArg Lit.gN (F b h)).symm;rw[this,g9];rw[xO,if_pos H,g,ej,bC c]<;>rfl
 have head:0<=u.aq->∃a:Nat,∃c:a<Z M.d,u.aq=a/\Z u.ad=Z M.d[a].bb/\(u.af.ak=0<->M.d[a].of<0)/\
  (u.af.ak=1->0<=e1 M M.d[a] u.af.ar/\u.af.aQ=e1 M M.d[a] u.af.ar)/\(u.af.ak=3->∃f:Nat,∃j:f<Z M.aW,u.af.aQ=f/\M.aW[f].of=M.d[a].of):=by
  intro l;have t:=W l;obtain⟨a,c,g,-,k,i,p,q⟩:=IM G t;refine⟨a,c,by grind[kE],k,i,λe=>⟨p e,?_⟩,λe=>?_⟩
  ·rw[E,oA,if_neg t,if_pos e,g,ej,bC c]<;>rfl
  ·obtain⟨f,j,y,z⟩:=q e
   exact⟨f,j,by rw[E,oA,if_neg t,if_neg (by omega),if_pos e,y],z⟩
 have v:∀{a:Nat}(c:a<Z M.d),0<=M.d[a].of->∃f,M.m[M.d[a].of.toNat]?=T f/\e8 M (a:Int)=T f:=by
  intro a c l;have:=X _ (bs c);have j:M.d[a].of.toNat<Z M.m:=by omega
  refine⟨M.m[M.d[a].of.toNat],bC j,?_⟩;rw[yf,JT c,if_neg (by omega),bC j]
 refine⟨λb h=>⟨(s.lit b h).ak,λe=>⟨(s.lit b h).cmp e,?_⟩,λe=>?_,λe=>?_,λB=>?_⟩,L,λl=>?_,λl=>?_,λl e=>?_,λe=>?_,λl e=>?_,s.ak⟩
 ·grind[g9,mg]
 ·obtain⟨a,c,g,k,-⟩:=lit b h e
  grind
 ·obtain⟨a,c,g,k,i,p⟩:=lit b h (by omega)
  obtain⟨f,j,w⟩:=v c (i (.inr e));grind[SJ]
 ·have e:=(s.lit b h).bind B
  obtain⟨a,c,g,k,i,p⟩:=lit b h (by omega);obtain⟨f,j,w⟩:=v c (i (.inl B));obtain⟨O,x,-⟩:=K b h B;refine⟨e,O,f,by grind,?_⟩;have x:hK M b.aq=hK M u.aq:=x;rw[yf,<-x,<-yf,g];exact w
 ·obtain⟨a,c,g,k,-⟩:=head l
  grind
 ·obtain⟨a,c,g,k,i,-⟩:=head l
  rw[i,g];constructor
  ·intro I
   rw[yf,JT c,if_pos I]
  ·intro t
   refine yl λI=>?_;obtain⟨f,-,w⟩:=v c (by omega);grind
 ·obtain⟨a,c,g,k,i,p,-⟩:=head l
  have:¬M.d[a].of<0:=by omega
  obtain⟨f,j,w⟩:=v c (by omega);grind[SJ]
 ·have J:=s.aB.1 e
  refine⟨J,?_⟩;have Y:(u.af.aB==[])=false:=by simpa using J
  rw[Y,kh]at o;rcases N o with n|⟨b,h,t⟩
  ·cases n
  grind
 ·obtain⟨a,c,g,k,i,-,q⟩:=head l
  obtain⟨f,j,y,z⟩:=q e;obtain⟨b,Q,a0,R,S⟩:=aiS n _ (bs j);refine⟨f,j,y,b,?_,R,S⟩;rw[g,yf,JT c,<-z,if_neg (by omega)];exact Q
theorem Ca{e:List z->cn->List z}(f:∀a b dD,dD∈a->dD∈e a b):∀(d:List cn){a:List z},dD∈a->dD∈d.foldl e a
 |[],_,c=>c
 |b::d,a,c=>Ca f d (f a b dD c)
theorem Cb{d:List z->cn->List z}(g:∀a b dD,dD∈a->dD∈d a b){b:cn}(h:∀a,dD∈d a b):∀{f:List cn}{a:List z},b∈f->dD∈f.foldl d a
 |c::f,a,e=>by
  rw[oJ];rcases cf.1 e with rfl|e
  ·grind[Ca]
  ·exact Cb g h e
variable{jY:z -> Prop}
theorem Cc{f:List z->cn->List z}:∀{d:List cn}{a:List z},(∀b∈d,∀a,(∀c∈a,jY c)->∀c∈f a b,jY c)->(∀c∈a,jY c)->∀c∈d.foldl f a,jY c
 |[],_,_,e=>e
 |b::d,a,g,e=>Cc (d:=d) (by grind) (g b (by simp) a e)
theorem JU(a:List aO)(c b:aO)(d:b∈a):b∈l8 a c:=by grind[l8]
theorem SO(b:List aO)(a:aO):a∈l8 b a:=by grind[l8]
theorem SP(a:List aO)(c:aM)(b:aO)(d:b∈a):b∈nx a c:=by grind[nx,JU]
theorem aiU(a:List aO)(c:aw)(b:aO)(d:b∈a):b∈uC a c:=Ca JU _ d
theorem SQ(a:List aO)(d:aG)(b:aO)(c:b∈a):b∈vU a d:=Ca SP _ c
theorem aiV(b:c0∈X)(c:iZ∈c0.ad):iZ∈pa M X:=
 Ca SQ _ (Cb aiU (λ_=>Cb JU (λa=>SO a iZ) c) b)
theorem aiW(a:u∈M.ah)(b:b3∈iO u)(c:b3.aB=[]):b3.const∈pa M X:=
 Cb SQ (λ_=>Cb SP (by simp_all[nx,SO]) b) a
theorem SS{a:aO->Prop}(c:∀b∈bz,a b)(d:a iZ):∀b∈l8 bz iZ,a b:=by
 grind[l8]
theorem aiX{d:aO->Prop}(i:∀f∈X,∀b∈f.ad,d b)(j:∀h∈M.ah,∀c∈iO h,c.aB=[]->d c.const):∀b∈pa M X,d b:=by
 refine Cc (λh l e a=>Cc (λc m e a=>?_) a) (Cc (λf k e a=>Cc (λb g e a=>SS a (i f k b g)) a) (by simp));unfold nx;split
 ·rename_i g;exact SS a (j h l c m g)
 ·exact a
theorem SU:∀{d:List aG}{a:List (Int×Int)},d.foldl q4 a=[]->a=[]/\∀r∈d,uD r=ab
 |[],a,b=>⟨b,by simp⟩
 |r::d,a,b=>by
  rw[oJ]at b;obtain⟨c,e⟩:=SU b;unfold q4 at c;split at c
  ·grind
  ·simp at c
theorem SV(a:P∈u.ae)(b:b3∈P.ad):b3∈iO u:=by
 simp only[iO,c5,zR,du];grind
theorem aiY(a:b3∈u.ad):b3∈iO u:=by
 grind[iO]
theorem Cd(b:qi M X):(∀a∈M.ah,j6 a)/\Z M.ah<=20/\Z M.ah<=12:=by
 refine⟨λa c=>⟨?_,?_,?_,λe d=>?_⟩,by have:=b.ah;omega,by have:=b.ah;omega⟩
 ·have:=b.ae a c;omega
 ·have f:=b.ae a c
  have g:=Bm Lit.ad 10 a.ae (b.s5 a c);omega
 ·have:=b.DY a c;omega
 ·have:=b.s5 a c e d;omega
theorem SW(a:qi M X)(c:nN M):ky M:=by
 refine⟨by have:=a.ah;omega,λe b=>by have:=a.ae e b;omega,by have:=(BJ c.1).d;omega⟩
theorem Ce(a:r9 M X 3000=ab):qi M X:=by
 simp_all[r9,bG,N5]
theorem JV(b:r9 M X 3000=ab)(e:nN M)(p:dW M)(m:∀j∈X,eO j.ad)(q:nA M=[]):mK M (pa M X):=by
 have k:=Ce b;have h:=BJ e.1;have l:∀c∈M.ah,∀f∈iO c,Sm f.const.s:=by
  intro c g f a;simp only[iO,c5,zR,du]at a;rcases a with a|⟨_,⟨i,b,rfl⟩,a⟩
  ·exact SL ((h.hG c g).BI f a)
  ·exact SL (((h.hG c g).lit i b).BI f a)
 refine⟨⟨SN e,λi b=>?_,by grind[aiT],(SU q).2,by grind[aiW,aiY,SV],(Cd k).2.1,h.d,λc g=>?_⟩,p,SM e,?_,(Cd k).1,λc g i b f a=>l c g f (SV b a),λr o=>?_⟩
 ·exact(vY (xB (SN e i b))).1.2
 ·grind[r9]
 ·exact aiX (λj n t e=>(m j n).2 t e) (by grind)
 ·have:=(h.bb r o).1;omega
theorem JW(s:nN M)(f:jk M X=ab):dq M (pa M X) X:=by
 rw[jk,fi]at f;have g:∀a,a<Z X->lL M X a=true:=by grind
 refine⟨adT λa c=>?_,λq h=>?_⟩
 ·grind[lL]
 ·obtain⟨a,c,rfl⟩:=jS.1 h
  have:=g a c;rw[lL,bC c]at this;simp only[bG,qw,decide_eq_true_eq]at this;obtain⟨⟨r,b⟩,-⟩:=this;split at b
  ·cases b
  ·rename_i u k
   obtain⟨l,m⟩:=e6.1 k;subst m;simp only[v5,bG,beq_iff_eq]at b;obtain⟨⟨n,-⟩,o⟩:=b;have p:X[a].aq=(X[a].aq.toNat:Nat):=by omega
   have e:hK M X[a].aq=M.d[X[a].aq.toNat].of:=by
    unfold hK;rw[bC l]
   refine⟨(by grind),by grind[aiV],λt i=>?_,λj=>?_⟩
   ·rw[yf,e]at i
    grind[xE,eF]
   ·rw[yf,e]at j
    grind[xE]
def fh(a:k):aO:=⟨2,0,a⟩
def tV(a:k):aM:=⟨a,⟨0,0,[]⟩⟩
def zM(c:k)(d:Int)(a b:k):Lit:=⟨1,c,d,[tV a,tV b],[],[],-1,0,0⟩
def ga(c:Int)(a b:k):aw:=⟨c,[fh a,fh b],-1⟩
def Cf:k:=[101,100,103,101]
def Cg:k:=[112,97,116,104]
def Ch:aG:=⟨Cg,1,[tV [88],tV [89]],⟨0,[],[],-1⟩,[zM Cf 0 [88] [89]],0⟩
def gL:aG:=⟨Cg,1,[tV [88],tV [90]],⟨0,[],[],-1⟩,[zM Cg 1 [88] [89],zM Cf 0 [89] [90]],0⟩
def ij(a:List aG):aj:=⟨[],[],[⟨Cf,[2,2],[],-1,ab,2,0⟩,⟨Cg,[2,2],[],-1,aa,2,0⟩],a⟩
def pC:aj:=ij [Ch,gL]
def js:List aw:=[ga 0 [97] [98],ga 0 [98] [97]]
def gx:List aw:=js++[ga 1 [97] [97],ga 1 [97] [98],ga 1 [98] [97],ga 1 [98] [98]]
theorem Ci(a:k):PR C 39 [.str a] (.agg (cV (fh a))):=by
 refine W5.pr ?_;show aI [] .res (.agg (cV (fh a))) (.agg (cV (fh a)));simp[Im.snap]
theorem aiZ(a b:k):PR C 92 [.str a,.str b] (eS aa cV [fh a,fh b]):=by
 refine YH.pr ?_;refine f (Ci a) (f (Ci b) ?_);show aI [] .res (eS aa cV [fh a,fh b]) (eS aa cV [fh a,fh b]);simp[Im.snap]
theorem wB(c:Int)(a b:k):PR C 43 [I c,.str a,.str b] (.agg (cF aa (ga c a b))):=by
 refine Wp.pr ?_;refine f (aiZ a b) ?_;show aI [] .res (.agg (cF aa (ga c a b))) (.agg (cF aa (ga c a b)));simp[Im.snap]
theorem JX(c:k)(d:Int)(a b:k):PR C 91 [.str c,I d,.str a,.str b] (.agg (a5 aa (zM c d a b))):=by
 refine X1.pr ?_;show aI [] .res (.agg (a5 aa (zM c d a b))) (.agg (a5 aa (zM c d a b)));simp[Im.snap]
theorem ai0:PR C 42 [] (.agg (cP aa aa pC)):=by
 refine Wo.pr ?_;refine aD rfl (aD rfl (aD rfl (aD rfl (aD rfl (aD rfl (aD rfl (aD rfl (aD rfl (aD rfl (aD rfl ?_))))))))));refine f (JX Cf 0 [88] [89]) ?_;refine aD rfl (aD rfl (aD rfl (aD rfl (aD rfl ?_))));refine f (JX Cg 1 [88] [89]) (f (JX Cf 0 [89] [90]) ?_);refine aD rfl (aD rfl (aD rfl (aD rfl (aD rfl ?_))))
 show aI [] .res (.agg [.ai,.ai,eS aa (bF aa) pC.d,eS aa (aP aa) pC.ah]) (.agg [eS aa (bn aa) pC.m,eS aa (b8 aa) pC.aW,eS aa (bF aa) pC.d,eS aa (aP aa) pC.ah]);exact .agg _ _ _ (.ck (.ai _ _) (.ck (.ai _ _) (.ck cy (.ck cy (.nil _)))))
theorem ai1(g:eP C)(h:wA C)(j:x5 C)(a:List aw)(b:List Int)(c:mK M bz)(e:dq M bz a)(t:Z a<=100000)(p:(iH M&&jk M a)=ab)(k:ky M)(m:Z M.ah<=12)(o:nA M=[])(n:se M=[])(l:Sm b):
 PR C 17 [.agg (cP aa V M),eS bp cI b,eS F (cF b2) a] (eS aa (cF aa) (nK M b a)):=by
 refine XQ.pr ?_;rw[dS,Q];refine eh (N:=[]) aa (λu s=>?_) ?_
 ·rw[fQ,Q]
  refine f (g.B0 M a c.uT (by unfold Sm;omega) (dq.re c e.ok)) ?_;simp only[p,bD,Q,kI];refine dx (λ_=>?_) (λd=>by cases d);refine f (HE M (by omega) c.tq) ?_;simp only[o,a8,de,Q,er];refine dx (λ_=>?_) (λd=>by simp at d);refine f (Rs j M k m) ?_;simp only[n,a8,de,Q,er];grind
 simp only[G];refine bq ?_;rw[fQ,Q];refine aD (dD:=cW aa V F b2 M a) rfl ?_;refine aD (dD:=.aK aa (cW aa V F b2 M a) 0) rfl ?_;refine f (SI h (V:=false) (F:=V) (bp:=F) (b2:=b2) (ed:=bp) a b c e (by omega) l) ?_ (by simp[cW]);simp[Im.snap]
theorem SX{c:List (aM×Int)}(e:wi M u (Z u.ae)=c)(f:wj u (Z u.ae)=[])(d:c.all (λa=>a.1.aB !=[]&&a.2==2)=ab):wk M u:=by
 refine⟨λ_=>2,λh b=>?_⟩;rw[e,f]at b;simp only[we,oL,rP,du]at b;obtain⟨a,g,rfl⟩:=b;rw[fi]at d;have:=d a g;simp only[bG,bne_iff_ne,ne_eq,beq_iff_eq]at this;show eZ (λ_=>2) a.1=a.2;grind[eZ]
variable{jT:List aG}
theorem ai2:ka (dT (ij jT) []) Ch:=by
 have a:dT (ij jT) []=dT (ij []) []:=rfl;rw[a];exact⟨by decide+kernel,by decide+kernel,by decide+kernel,SX (c:=[(tV [88],2),(tV [89],2),(tV [88],2),(tV [89],2)]) (by decide+kernel) (by decide+kernel) (by decide+kernel),by decide+kernel⟩
theorem SY:ka (dT (ij jT) []) gL:=by
 have a:dT (ij jT) []=dT (ij []) []:=rfl;rw[a];exact⟨by decide+kernel,by decide+kernel,by decide+kernel,SX (c:=[(tV [88],2),(tV [90],2),(tV [88],2),(tV [89],2),(tV [89],2),(tV [90],2)]) (by decide+kernel) (by decide+kernel) (by decide+kernel),by decide+kernel⟩
theorem Ft:nN pC:=by
 refine⟨by decide+kernel,by decide+kernel,λb a=>?_,by decide+kernel⟩;simp only[pC,ij,cf,iW,or_false]at a;rcases a with rfl|rfl
 ·exact ai2
 ·exact SY
theorem jI(a:Z o<=1000):Sm o:=by grind[Sm]
theorem wC(e:jT=[Ch,gL]\/jT=[gL]):dW (ij jT):=by
 have b:∀c∈jT,oh c:=by
  intro c b;have:c=Ch\/c=gL:=by
   rcases e with rfl|rfl<;>simp only[cf,iW,or_false]at b
   ·exact b
   ·exact .inr b
  rcases this with rfl|rfl
  ·refine⟨jI (by decide),jI (by decide),λf a=>?_⟩
   simp only[Ch,cf,iW,or_false]at a;subst a;exact jI (by decide)
  ·refine⟨jI (by decide),jI (by decide),λf a=>?_⟩
   simp only[gL,cf,iW,or_false]at a;rcases a with rfl|rfl<;>exact jI (by decide)
 refine⟨jI (by simp[ij]),by grind[ij],jI (by simp[ij]),by grind[ij],jI (by simp[ij]),λg d=>?_,jI (by grind[ij]),b⟩;simp only[ij,cf,iW,or_false]at d;rcases d with rfl|rfl<;>exact jI (by decide)
theorem vd:∀c∈gx,eO c.ad:=by
 have g:∀(f:Int)(a b:k),Z a<=10->Z b<=10->eO (ga f a b).ad:=λf a b h i=>⟨jI (by simp[ga]),λj e=>by
  simp only[ga,cf,iW,or_false]at e;rcases e with rfl|rfl<;>exact jI (by simp[fh];omega)⟩
 intro c d;simp only[gx,js,fm,c3,cf,iW,or_false]at d;rcases d with rfl|rfl|rfl|rfl|rfl|rfl<;>exact g _ _ _ (by decide) (by decide)
theorem JZ:r9 pC js 3000=true:=by decide+kernel
theorem J1:jk pC gx=true:=by decide+kernel
theorem ai4:jk pC [ga 0 [98] [97],ga 0 [97] [98]]=false:=by decide+kernel
theorem S5:ky pC:=SW (Ce JZ) Ft
theorem zN:iH pC=true:=by simp only[iH,Ft,decide_true]
abbrev lT:=List aO×List Int
def rL(a:aX)(b:k):aO:=(bW a (tV b)).1
def nS(vs b:List k)(a:aX):lT:=(vs.map (rL a),b.map (jO a))
structure SR where
 v:AV
 e:AV
 P:aN
 s:lT
def gy(a:SR):List AV:=[a.v,a.e]
def SR.ok(a:SR):Prop:=∃c b,bA a.v cV 3 a.s.1 c/\bA a.e cI 1 a.s.2 b/\a.P=c++b
def S6(f:Nat)(e:List lT)(d:aN):Prop:=∃(a:List SR)(c:AV)(b:aN),e=a.map (·.s)/\bA c gy 2 a b/\(∀g∈a,g.ok)/\d=(f,Obj.arr 0 1 [[c]])::(b++(a.map (·.P)).flatten)
theorem ajd(a:aX)(b:k)(e:Z a.bl=Z a.ax)(c:kO N Y=T (hS a.ax,a.bl.map λd=>.agg (cV d)))(f:b≠[]):
 hC qk (.agg (cV zV)) aa Y (.str b) N=T (.agg (cV (rL a b))):=by
 simp only[hC,c,q6,mS,if_true,q7,RY,rL,bW,tV];grind[List.findIdx?_eq_some_iff_getElem]
theorem aje(f g:z)(a b c d e:List z):(f::(a++(b++(c++(g::(d++e)))))).Perm (c++((g::(f::(d++(b++a))))++e)):=by
 classical
 grind
theorem ajf{kq jr:Nat}{e:List lT}{vs:List k}(d9:Z H.bl=Z H.ax)(f2:∀d∈vs,d≠[])(el:∀d∈x,d∈H.m)(aB:Z e<1000000)(f3:Z vs<1000000)(f0:Z x<1000000):
 nR C 56 [.agg (cM O y),.ptr kq 0 0 0,.ptr U 0 0 0,.ptr jr 0 0 0] O y (S6 jr) [(kq,Obj.arr 0 1 [[eS aa cS vs]]),(U,Obj.arr 0 1 [[eS aa cS x]])] H e (e++[nS vs x H]):=by
 intro fs s u B z N Y aq d1 ar;obtain⟨j,E,ad,aQ,d4,f1,rfl⟩:=d1;refine Z6.hq ?_;have X:∀(ae:List AV),[ae][0]?=T ae:=λ_=>rfl;generalize hZ:ew O y B z H s u++(((jr,Obj.arr 0 1 [[E]])::(ad++(j.map (·.P)).flatten))++([(kq,Obj.arr 0 1 [[eS aa cS vs]]),(U,Obj.arr 0 1 [[eS aa cS x]])]++N))=r at ar;have co:∀{f:List Obj}{p:aN},w f (p++r)->f[O]?=T (mP B H.ax H.bl):=λh=>h.get (by grind[ew])
 have ci:∀{f:List Obj}{p:aN},w f (p++r)->f[y]?=T (tD z s u):=λh=>h.get (by grind[ew]);have b4:∀{f:List Obj}{p:aN},w f (p++r)->f[kq]?=T (Obj.arr 0 1 [[eS aa cS vs]]):=λh=>h.get (by grind);have ce:∀{f:List Obj}{p:aN},w f (p++r)->f[U]?=T (Obj.arr 0 1 [[eS aa cS x]]):=λh=>h.get (by grind);have bv:∀{f:List Obj}{p:aN},w f (p++r)->f[jr]?=T (Obj.arr 0 1 [[E]]):=λh=>h.get (by grind)
 have au:w Y (([]:aN)++r):=ar;refine aD (dD:=.aK aa (cM O y) 0) rfl ?_;rw[cr (b4 au) (X _)];refine aD (dD:=eS aa cS vs) rfl ?_;rw[a8,Q];refine bB (z:=Nat×AV×aN×List Obj) (λc=>[I (c.1:Int),c.2.1,.ai]) (λc=>c.2.2.2) (λc=>Z vs -c.1) (λc=>c.1<=Z vs/\bA c.2.1 cV 3 ((vs.take c.1).map (rL H)) c.2.2.1/\w c.2.2.2 (c.2.2.1++r)) (0,.ai,[],Y) ⟨by simp,by simpa using bA.nil cV 3,au⟩ ?_
 rintro⟨g,M,t,ac⟩ ⟨d5,L,F⟩ fd a0;simp only at d5 L F a0⊢;simp only[G,i,A,Q,a];refine b (λo=>?_) (λV=>?_)
 ·have o:g<Z vs:=by simpa using o
  rw[aC (a2:=cS) (O:=1) o rfl,Q,aH];refine aD (dD:=.str vs[g]) rfl ?_;refine aD (dD:=.aK aa (cM O y) 0) rfl ?_;rw[aH];refine aD (dD:=.b5 O) rfl ?_;have W:kO ac (.b5 O)=T (hS H.ax,H.bl.map λM=>.agg (cV M)):=by simp[kO,co F,mP]
  refine aD (ajd (b:=vs[g]) H d9 W (by grind)) ?_;rw[vT,Q];obtain⟨id,l,a4,be,cs⟩:=bA.app (bytes:=32) L F (rL H vs[g]) rfl (by simp;omega);refine bj be ?_;refine aD (dD:=.q id l 0 (Z ((vs.take g).map (rL H)++[rL H vs[g]]))) rfl ?_;rw[ba,Q];have S:(vs.take g).map (rL H)++[rL H vs[g]]=(vs.take (g+1)).map (rL H):=by rw[hX o,ht]<;>rfl
  rw[S]at cs⊢;exact a0 (g+1,_,[(id,.arr l 3 (((vs.take (g+1)).map (rL H)).map cV))],a4) (by grind[bA.of]) (by omega)
 ·have d6:g=Z vs:=by simp at V;omega
  subst d6;rw[dB]at L;rw[cr (ce F) (X _)];refine aD (dD:=eS aa cS x) rfl ?_;rw[a8,Q];refine bB (z:=Nat×AV×aN×List Obj) (λc=>[I (c.1:Int),M,c.2.1]) (λc=>c.2.2.2) (λc=>Z x -c.1) (λc=>c.1<=Z x/\bA c.2.1 cI 1 ((x.take c.1).map (jO H)) c.2.2.1/\w c.2.2.2 (c.2.2.1++(t++r))) (0,.ai,[],ac) ⟨by simp,by simpa using bA.nil cI 1,F⟩ ?_;rintro⟨n,af,v,R⟩ ⟨d7,K,J⟩ fn a3;simp only at d7 K J a3⊢
  have ah:w R ((v++t)++r):=by rw[fH];exact J
  simp only[G,i,A,Q,a];refine b (λo=>?_) (λV=>?_)
  ·have o:n<Z x:=by simpa using o
   rw[aC (a2:=cS) (O:=1) o rfl,Q,aH];refine aD (dD:=.str x[n]) rfl ?_;refine aD (dD:=.aK aa (cM O y) 1) rfl ?_;rw[aH];refine aD (dD:=.b5 y) rfl ?_;have W:kO R (.b5 y)=T (hS s,s.map λd=>I (u d)):=by simp[kO,ci ah,tD]
   obtain⟨eq,d3⟩:=aq.aV _ (el _ (bs o));refine aD (Jt W eq) ?_;rw[d3,Bi,Q];obtain⟨id,l,a9,bf,dl⟩:=bA.app (bytes:=8) K J (jO H x[n]) rfl (by simp;omega);refine bj bf ?_;refine aD (dD:=.q id l 0 (Z ((x.take n).map (jO H)++[jO H x[n]]))) rfl ?_;rw[ba,Q];have S:(x.take n).map (jO H)++[jO H x[n]]=(x.take (n+1)).map (jO H):=by rw[hX o,ht]<;>rfl
   rw[S]at dl⊢;exact a3 (n+1,_,[(id,.arr l 1 (((x.take (n+1)).map (jO H)).map cI))],a9) (by grind[bA.of]) (by omega)
  ·have d8:n=Z x:=by simp at V;omega
   subst d8;rw[dB]at K;rw[cr (bv ah) (X _)];refine aD (dD:=E) rfl ?_;let d:SR:=⟨M,af,t++v,nS vs x H⟩;have d2:fw 2 [.ai,.ai] 1 [(0,.agg [M,af])]=T (.sl aa [gy d]):=tx rfl (by simp[L.cell,K.cell]);rw[d2,Q];have em:w R ((v++(t++(ew O y B z H s u++[(jr,Obj.arr 0 1 [[E]])])))++(ad++((j.map (·.P)).flatten++([(kq,Obj.arr 0 1 [[eS aa cS vs]]),(U,Obj.arr 0 1 [[eS aa cS x]])]++N)))):=by
    rw[<-hZ]at J;simpa[fH]using J
   have fI:Z j<1000000:=by rw[aQ]at aB;simpa using aB
   obtain⟨id,l,bb,bi,ds⟩:=bA.app (bytes:=48) d4 (w.swap em) d rfl (by omega);refine bj bi ?_;have ak:w bb (((id,Obj.arr l 2 ((j++[d]).map gy))::(v++(t++ew O y B z H s u)))++(jr,Obj.arr 0 1 [[E]])::((j.map (·.P)).flatten++([(kq,Obj.arr 0 1 [[eS aa cS vs]]),(U,Obj.arr 0 1 [[eS aa cS x]])]++N))):=by
    simpa[fH]using ds
   have bw:=ak.get (U:=jr) (iX:=Obj.arr 0 1 [[E]]) (by simp);refine aD (k1 bw rfl (by decide) rfl rfl) ?_;have d0:=w.qF ak (.arr 0 1 [[AV.q id l 0 (Z (j++[d]))]]);refine⟨_,s,u,B,z,aq,⟨j++[d],_,[(id,.arr l 2 ((j++[d]).map gy))],by rw[aQ,ht]<;>rfl,bA.of,λf6 es=>?_,rfl⟩,?_⟩
   ·rcases c5.1 es with h|h
    ·grind
    ·rw[lV]at h;subst h
     exact⟨t,v,L,K,rfl⟩
   ·refine d0.perm ?_
    have:=aje (id,Obj.arr l 2 ((j++[d]).map gy)) (jr,Obj.arr 0 1 [[AV.q id l 0 (Z (j++[d]))]]) v t (ew O y B z H s u) (j.map (·.P)).flatten ([(kq,Obj.arr 0 1 [[eS aa cS vs]]),(U,Obj.arr 0 1 [[eS aa cS x]])]++N);simpa[fH,ht,d]using this
def kH(a b:lT):Prop:=¬jj b.1 a.1<0
theorem ajg(b a c:lT)(f:kH b a)(g:kH a c):kH b c:=by
 unfold kH at*;rw[TO.aE.ta]at*;by_cases d:jj b.1 a.1=0
 ·rw[(TO.aE.eq _ _).1 d];exact g
 ·by_cases e:jj a.1 c.1=0
  ·rw[<-(TO.aE.eq _ _).1 e];exact f
  ·have:=TO.aE.trans b.1 a.1 c.1 (by omega) (by omega)
   omega
def iz(a:Nat->z)(b:Nat):List z:=(List.range b).map a
variable{pA:SR}
theorem SR.mem{a:List SR}(f:pA∈a)(e:w N (p++((a.map (·.P)).flatten++bm))):∃b,w N (pA.P++b):=by
 obtain⟨c,d,rfl⟩:=Cn f;have:w N ((p++(c.map (·.P)).flatten)++(pA.P++((d.map (·.P)).flatten++bm))):=by simpa[fH]using e
 exact⟨_,w.sub this⟩
theorem SR.g3(i:pA.ok)(c:w N (pA.P++p)):aI N .cm (.agg (gy pA)) (.agg [eS ab cV pA.s.1,eS ab cI pA.s.2]):=by
 obtain⟨n,m,j,h,d⟩:=i;rw[d,fH]at c;have k:aI N .cm pA.v (eS ab cV pA.s.1):=by
  rcases j with⟨a,b,-⟩|⟨id,g,a,rfl⟩
  ·rw[a,b];exact .ai _ _
  ·rw[a];exact l7 (U:=3) (c.get (by simp)) (by simp)
 have f:=w.sub c;have le:aI N .cm pA.e (eS ab cI pA.s.2):=by
  rcases h with⟨a,b,-⟩|⟨id,g,a,rfl⟩
  ·rw[a,b];exact .ai _ _
  ·rw[a];exact l7 (U:=1) (f.get (by simp)) (by simp)
 exact .agg _ _ _ (.ck k (.ck le (.nil _)))
theorem SR.cells(c:pA.ok):(gy pA).all AV.bP=ab/\pA.v.pl=pA.v/\pA.e.pl=pA.e:=by
 obtain⟨f,d,b,a,-⟩:=c;exact⟨by simp[gy,b.cell,a.cell],b.pl,a.pl⟩
theorem ajj(a b:List aO)(d e:List Int)(g:eO a):PR C 58 [.agg [eS ab cV a,eS ab cI d],.agg [eS ab cV b,eS ab cI e]] (I (jj a b)):=by
 refine W8.pr ?_;refine aD (dD:=.aK aa [eS ab cV a,eS ab cI d] 0) rfl (aD (dD:=.aK aa [eS ab cV b,eS ab cI e] 0) rfl ?_);refine aD (dD:=.aK aa [eS ab cV a,eS ab cI d] 0) rfl ?_;rw[aH];refine aD (dD:=eS ab cV a) rfl ?_;refine aD (dD:=.aK aa [eS ab cV b,eS ab cI e] 0) rfl ?_;rw[aH];refine aD (dD:=eS ab cV b) rfl ?_;exact f (Na a b g) (.int _ _ _)
def ik(a:aj)(b:aG):aj:=⟨a.m,a.aW,a.d,[b]⟩
def J3(a:lT):List AV:=[eS aa cV a.1]
def J4(a:lT):List AV:=[eS aa cI a.2]
theorem SR.ajl(i:pA.ok)(c:w N (pA.P++p)):aI N .res pA.v (eS aa cV pA.s.1)/\aI N .res pA.e (eS aa cI pA.s.2):=by
 obtain⟨m,l,j,h,d⟩:=i;rw[d,fH]at c;have f:=w.sub c;refine⟨?_,?_⟩
 ·rcases j with⟨a,b,-⟩|⟨id,g,a,rfl⟩
  ·rw[a,b];exact .ai _ _
  ·rw[a];exact fx (U:=3) (c.get (by simp)) (by simp)
 ·rcases h with⟨a,b,-⟩|⟨id,g,a,rfl⟩
  ·rw[a,b];exact .ai _ _
  ·rw[a];exact fx (U:=1) (f.get (by simp)) (by simp)
variable{a2:z -> List AV}{mZ:cn -> List AV}
theorem ajm{id:Nat}{c:z->cn}(b:N[id]?=T (.arr O U (o.map a2)))(d:∀a∈o,bR N .res (a2 a) (mZ (c a))):aI N .res (.q id O 0 (Z o)) (eS aa mZ (o.map c)):=by
 refine .na id O 0 (Z o) U (o.map a2) _ b (by simp) ?_;rw[jR,fW (by simp)];clear b;induction o with
 |nil=>exact .nil _
 |cons a o e=>exact .ck (d a (by simp)) (by grind)
theorem ajn[Inhabited z](a:List z):iz (λb=>(a[b]?).getD default) (Z a)=a:=by
 refine wI λc=>?_;grind[iz]
theorem SR.S9(c:pA.ok):pA.v.cells=[pA.v]/\pA.e.cells=[pA.e]:=by
 obtain⟨h,f,d,b,-⟩:=c;refine⟨?_,?_⟩
 ·rcases d with⟨-,a,-⟩|⟨id,g,a,-⟩<;>rw[a]<;>rfl
 ·rcases b with⟨-,a,-⟩|⟨id,g,a,-⟩<;>rw[a]<;>rfl
theorem Ta(a:Y.pl=Y)(c:Y.cells=[Y])(b:Y.bP=ab):fw 1 [.ai] 1 [(0,Y)]=T (.sl aa [[Y]]):=by
 simp_all[fw,kj]
instance:Inhabited SR:=⟨⟨.ai,.ai,[],([],[])⟩⟩
end AM
end Go
