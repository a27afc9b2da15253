/- The law DeriveRoundsUptoCardSaid: part 6 of 14 of the proof. No condition. -/
import Derived.Test.YtegalmbcaggfiaaGreatDoorXe
import Derived.Shelf.SlSortCmp.WholeK
import Derived.Shelf.SlSortCmp.NoneTotal
set_option maxRecDepth 100000
open List renaming length->Z,range->ay,map->Ra,replicate->dh,contains_iff_mem->O1,filter_cons_of_neg->ase,filter_eq_self->asf,mem_cons_self->AT,mem_set->asd
open Option renaming some->aa,none->ae
open Bool renaming true->ad,false->ab,and_self->abb
open Decidable renaming decide->y
open Array renaming toList->bJ
open Int renaming ofNat->b4
open Go.Proofs.Tryz renaming prog->aU
open Go.Proofs.YtegalmbcaggfiaaGreatDoor.Rows renaming deriveRoundsUptoRow->hY
open Int.ofNat renaming inj->asg
open List.Pairwise renaming imp_of_mem->avO
open List.Perm renaming append_left->l7,of_eq->avP,refl->avQ
open Nat renaming le_zero->ash,mod_lt->CJ
open Ne renaming symm->CC
open Option.some renaming inj->zc
namespace Go
namespace AM
open Go Go.Proofs Go.Lib
variable{hN:List Value}{U N:Nat}
theorem an6{vs a T b d:List Value}(g:Z hN=U)(j:Z vs=3)(h:Z a=N)(c:List Value)(i:Z c=3)(e:b=(hN++c)++a++T)(f:d=b.take U++vs++b.drop (U+3)):d=hN++vs++a++T:=by
 grind
variable{Y gE:ar}{b1:List (List AV)}{bF:List AV}
theorem YF{d vs:List Value}(c:∀b∈b1,Z b=3)(s:U<=Z b1)(q:Z b1*3<=Z hN)(k:Fr Y gE)(g:Good Y)
 (n:RL Y b1.flatten (hN.take (Z b1*3)))(l:∀a∈hN.take (Z b1*3),a.oneCell'=ad)(p:Z bF=3)(o:RL Y bF vs)(m:∀a∈vs,a.oneCell'=ad)(f:d.take ((Z b1+1)*3)=hN.take (U*3)++vs++(hN.take (Z b1*3)).drop (U*3)):
 (∀b∈b1.take U++bF::b1.drop U,Z b=3)/\RL gE (b1.take U++bF::b1.drop U).flatten (d.take (Z (b1.take U++bF::b1.drop U)*3))/\∀a∈d.take (Z (b1.take U++bF::b1.drop U)*3),a.oneCell'=true:=by
 have e:Z (b1.take U++bF::b1.drop U)=Z b1+1:=by simp;omega
 rw[e,f];have h:(b1.take U).flatten=b1.flatten.take (U*3):=by
  have:=u1 0 U c;simpa using this
 have i:(b1.drop U).flatten=b1.flatten.drop (U*3):=by
  have:=u1 U (Z b1 -U) c;rw[gT (by simp)]at this;rw[this,gT];rw[rh,Ft c];omega
 have j:hN.take (U*3)=(hN.take (Z b1*3)).take (U*3):=by rw[OO];congr 1;omega
 refine⟨λb r=>?_,?_,λa c=>?_⟩;grind;grind[List.flatten_append,List.flatten_cons,List.append_assoc,RL.append,RL.mono,RL.take,RL.drop];grind
variable{bA:Value}{eI:World}{u:TypeId}
theorem YG{id g:Nat}{a:List (List AV)}{cap:Nat}(i:Good Y)(f:Y.H[id]?=aa (.arr g 3 b1))(G:Z a=U)(x:cX Y.w eI (λN=>∃B,Y.h id=aa (N,B)))(e:eI.heap[N]?=aa (.cells hN.toArray u (0,0)))
 (J:(∃C,Y.h id=aa (N,C))\/Y.w.heap.size<=N)(p:U<=cap)(F:cap*3<=Z hN)(v:bA=.slice (aa ⟨N,0,ae⟩) U cap)
 (t:∀d:ar,Fr Y d->(∀j∈a,Z j=3)/\RL d a.flatten (hN.take (Z a*3))/\∀A∈hN.take (Z a*3),A.oneCell'=ad):
 C5 Y (Y.H.set id (.arr (g+1) 3 a)) (.q id (g+1) 0 U) (.returned bA) eI:=by
 have r:=(fH.1 f).1;have I:=(kZ.1 e).1;let⟨b,n⟩:=ar.sX i x f (j:=.arr (g+1) 3 a) (e:=aa (N,Z hN)) (by simp[hP])
  (by grind)
  (λb=>by
   let⟨o,D,E⟩:=t _ b;refine⟨o,by grind[ar.bW]⟩)
 refine⟨_,rfl,b,n,rfl,?_⟩;have s:(Y.bW eI id (.arr (g+1) 3 a) (aa (N,Z hN))).H[id]?=aa (.arr (g+1) 3 a):=by simp[ar.bW,r]
 refine .q id (g+1) 0 _ bA (by grind) (by grind) (λL y z c=>?_) λy z c=>?_;grind;rw[s]at c;injection c with k;injection k with _ l m;subst l;subst m;exact⟨_,cap,v,p,by omega,.inr ⟨N,Z hN,by simp[ar.bW],by simp,by omega⟩⟩
theorem YH:C1 aU 121:=⟨Tryz.f121,Tryz.f121.body.getD .skip,Tryz.func121,by kernel_rfl,by kernel_rfl⟩
theorem YI:qK aU 28=aa (3,[.int .i64 0,.aq,.int .i64 0],40):=by kernel_rfl
theorem YJ(g:Good Y)(e:Y.H[U]?=aa (.arr 0 3 [bF]))(h:R Y (.q U 0 0 1) bA):
 ∃b d a c,bA=.slice (aa ⟨b,0,ae⟩) 1 d/\Y.h U=aa (b,a.size)/\Y.w.heap[b]?=aa (.cells a c (0,0))/\Z bF=3/\Z ((bJ a).take 3)=3/\RL Y bF ((bJ a).take 3)/\∀j∈(bJ a).take 3,j.oneCell'=true:=by
 let⟨i,f⟩:=g.gL U _ e;have r:=i bF (by simp);rcases f with⟨h,-⟩|⟨b,a,c,l,m,n,o,p⟩;cases h
 cases h with
 |q _ _ _ _ _ _ k s h=>
  grind
variable{M:List Obj}{z:Nat}
theorem YK{id g:Nat}(n:M[id]?=aa (.arr g 3 b1))(ce:Z b1=N)(ak:M[U]?=aa (.arr 0 3 [bF]))(cl:id≠U)(af:z<=N)(a9:(N+1)*40<=2^47):
 jz aU G0 121 [.q id g 0 N,.int .i64 z,.q U 0 0 1] M (.q id (g+1) 0 (N+1)) (M.set id (.arr (g+1) 3 (b1.take z++bF::b1.drop z))):=by
 refine⟨YH,λa ek gd eq a2 a3 S=>?_⟩;subst a2;obtain⟨r,Q,rfl,I,T⟩:∃r Q,ek=[r,.int .i64 z,Q]/\R a (.q id g 0 N) r/\R a (.q U 0 0 1) Q:=by
  cases a3 with
  |cons _ aR _ _ A o=>cases o with
   |cons _ b _ _ G o=>cases o with
    |cons _ el _ _ em o=>cases o with
     |nil=>cases G;grind
 obtain⟨az,k,aA,fd,rfl,br,X,Y,d,V,B⟩:=YJ gd ak T;have cs:=(gd.gL id _ n).2;have aj:=(gd.gL id _ n).1;by_cases bv:z=N;subst bv;have d8:St a {env:=[],bx:=[],hp:=a.H} (#[]:Array Value):=⟨gd,rfl,by grind[look],by grind[look]⟩;have a5:cJ 3 40 (.q id g 0 z) (.q U 0 0 1) a.H=aa (.q id (g+1) 0 (z+1),a.H.set id (.arr (g+1) 3 (b1.take z++[bF]))):=by
  have d4:h6 a.H 3 (.q U 0 0 1)=aa [bF]:=by simp[h6,ak]
  simp only[cJ,d4,AV.isNil,e6,if_false,n];rw[if_pos ⟨trivial,by omega,trivial,by simpa using a9⟩];rfl
 let⟨be,_,_,_⟩:=Ky (L:={env:=[],bx:=[],hp:=a.H}) YI (by decide) a5;have d2:=λp=>JF (s:=⟨#[],[]⟩) (kk:=p) d8 (.inl I) (.inl T) (cu:=28) (by simp_all[qx]) be;have bi:b1.drop z=[]:=by grind
 have L:∃u cap,r=.slice u z cap/\z<=cap/\(u=ae->cap=0):=by
  cases I with
  |q _ _ _ _ _ _ A bm h=>
   grind
 obtain⟨u,cap,rfl,cb,co⟩:=L;let⟨d9,t,dl,a4,ax,m⟩:=d2 28;have C:∀p,(Builtin.append_ #[28,28] p #[.slice u z cap,.slice (aa ⟨az,0,ae⟩) 1 k]).run aU a.w=.ok d9 t.w:=λp=>dl;apply(YE C cb co).mono;rintro v aF ⟨rfl,rfl⟩;refine⟨t,rfl,m,ax.bM,?_,a4⟩;rw[bi];exact ax.hp.symm;have ah:z<N:=by omega
 rcases cs with⟨h,-⟩|⟨b,c,y,O,P,d6,am,D⟩;grind;have L:∃cap,r=.slice (aa ⟨b,0,ae⟩) N cap/\N<=cap/\cap*3<=c.size:=by
  cases I with
  |q _ _ _ _ _ _ A bm h=>
   grind
 obtain⟨cap,rfl,ci,bb⟩:=L;have d3:az≠b:=λv=>cl (gd.j0 id U b _ _ O (v▸br));subst ce;have ac:Z (b1.take z++bF::b1.drop z)=Z b1+1:=by simp;omega
 have K:Z b1*3<=Z (bJ c):=by simpa using d6
 have e:Z ((bJ c).take (z*3))=z*3:=by rw[h0];omega
 have f:Z (((bJ c).take (Z b1*3)).drop (z*3))=(Z b1 -z)*3:=by rw[rh,h0];omega
 by_cases ai:Z b1+1<=cap;let⟨i,j,x,l,J⟩:=an4 (w:=a.w) (z:=z) (mK:=k) ah ai (by omega) d3 P bb D X rfl d B;have C:j=(bJ c).take (z*3)++(bJ aA).take 3++((bJ c).take (Z b1*3)).drop (z*3)++(bJ c).drop ((Z b1+1)*3):=by
  refine an6 e d f (((bJ c).drop (z*3)).take 3) (by grind) ?_ l;rw[x]
  congr 2
  grind
 have d1:Z j=c.size:=by rw[C];simp only[gC,e,d,f,rh,y5];simp at K;omega
 apply J.mono;rintro v aF ⟨rfl,rfl⟩;have a6:(a.w.drew.setRow b i.toArray).heap[b]?=aa (.cells i.toArray y (0,0)):=setRow_heap _ _ _ _ _ _ P;refine YG (hN:=j) (u:=y) (N:=b) (cap:=cap) gd n ac ?_ (setRow_heap _ _ _ _ _ _ a6) (.inl ⟨_,O⟩) ai (by omega) rfl ?_;exact((cX.drew _ _).trans (by grind[cX.setRow])).trans (cX.setRow _ _ _ _ ⟨_,O⟩);intro t m;apply YF (hN:=bJ c) aj af K m gd am D Y V B
 rw[C,E6 (by simp only[gC,e,d,f];omega),gT (by simp only[gC,e,d,f];omega)];let⟨F,E,i,j,S,c1,c2,x,l,J⟩:=an5 (w:=a.w) (z:=z) (mK:=k) ah ci (by omega) (by omega) P (by omega) D X rfl d B;have ds:Z i=F*3:=by rw[x];simp only[gC,h0,rh,c1,d]at*;omega
 have d0:i.take ((z+1)*3)=(bJ c).take (z*3)++(bJ aA).take 3:=by
  rw[x,c2,E6 (by simp only[gC,e,d];omega),gT (by simp only[gC,e,d];omega)]
 rw[d0]at l;have d1:Z j=F*3:=by rw[l];simp only[gC,e,d,f,rh,ds];omega
 apply J.mono;rintro v aF ⟨rfl,rfl⟩;have A:(a.w.drew.alloc (.cells E.toArray 38)).heap[a.w.heap.size]?=aa (.cells E.toArray 38 (0,0)):=heap_alloc_new a.w.drew _;have G:=setRow_heap (a.w.drew.alloc (.cells E.toArray 38)) a.w.heap.size _ i.toArray _ _ A;refine YG (hN:=j) (u:=38) (N:=a.w.heap.size) (cap:=F) gd n ac ?_ (setRow_heap _ _ _ _ _ _ G) (.inr (c7 _)) S (by omega) rfl ?_
 have d7:cX a.w (a.w.drew.alloc (.cells E.toArray 38)) (λb=>∃s,a.h id=aa (b,s)):=(cX.drew _ _).trans (cX.alloc _ _ _);have au:∀(W:World)(rr:Array Value),cX a.w W (λb=>∃s,a.h id=aa (b,s))->cX a.w (W.setRow a.w.heap.size rr) (λb=>∃s,a.h id=aa (b,s)):=λW rr h=>
  ⟨h.os,h.output,h.tape,ix h.size (by simp),λd5 bD cc=>by rw[setRow_other _ _ _ _ (by omega)];exact h.block d5 bD cc⟩
 exact au _ _ ((au _ _ d7).trans (cX.drew _ _));intro t m;apply YF (hN:=bJ c) aj af K m gd am D Y V B;rw[l,E6 (by simp only[gC,e,d,f];omega),gT (by simp only[gC,e,d,f];omega)]
theorem YL(g:M[U]?=aa (.arr 0 3 [bF])):
 jz aU G0 121 [.aq,.int .i64 0,.q U 0 0 1] M (.q (Z M) 0 0 1) (M++[.arr 0 3 [bF]]):=by
 refine⟨YH,λa z gd K n o G=>?_⟩;subst n;obtain⟨d,rfl,f⟩:∃d,z=[.slice ae 0 0,.int .i64 0,d]/\R a (.q U 0 0 1) d:=by
  cases o with
  |cons _ i _ _ l b=>cases b with
   |cons _ B _ _ m b=>cases b with
    |cons _ C _ _ F b=>cases b with
     |nil=>cases l;cases m;grind
 obtain⟨A,j,S,T,rfl,N,J,L,O,I,E⟩:=YJ gd g f;have x:St a {env:=[],bx:=[],hp:=a.H} (#[]:Array Value):=⟨gd,rfl,by grind[look],by grind[look]⟩;have r:cJ 3 40 .aq (.q U 0 0 1) a.H=aa (.q (Z a.H) 0 0 1,a.H++[.arr 0 3 [bF]]):=by
  have v:h6 a.H 3 (.q U 0 0 1)=aa [bF]:=by simp[h6,g]
  simp only[cJ,v,AV.isNil,if_true];rfl
 let⟨s,_,_,_⟩:=Ky (L:={env:=[],bx:=[],hp:=a.H}) YI (by decide) r;let⟨y,e,t,p,h,k⟩:=JF (s:=⟨#[],[]⟩) (kk:=28) x (.inl R.aq) (.inl f) (cu:=28) (by simp_all[qx]) s;have u:∀c,(Builtin.append_ #[28,28] c #[.slice ae 0 0,.slice (aa ⟨A,0,ae⟩) 1 j]).run aU a.w=.ok y e.w:=λc=>t;have:=YE u (c7 _) (λ_=>rfl);apply this.mono;rintro D V ⟨rfl,rfl⟩;exact⟨e,rfl,k,h.bM,h.hp.symm,p⟩
open Go.Law
variable{E:AV}{k:aL}
theorem tG.cl{W:List AV}(h:tG E k W):dO 1 E=aa [E]:=by
 rcases h with⟨a,rfl,-⟩|⟨id,rfl,-⟩<;>rfl
theorem vD.e0(a:D)(r:aD):vD a r [] e0:=⟨rfl,rfl,by simp[AM.e0]⟩
variable{K:Type}{T F bC c8 iF:Bool}{rJ:K -> aL -> Prop}{bo:aL}{V:D}{X:List S}{aP:List aG}{hL jt:aL}
theorem YM{ev:AV}{r:aD}{t:Nat->Nat->List AV}(a5:EC V r X aP)(aj:lS r)(L:tG E k (cW T F bC c8 V X))
 (a4:ev.pl=ev)(a2:dO 1 ev=aa [ev])(aR:∀b a,lL ev [.agg (cM b a)]=aa (U,t b a))(a0:∀b a,(t b a).map AV.pl=t b a)(q:K->bc->K)(n:K)
 (a3:∀b a pre N bb,im V X r=pre++N::bb->pA C U (t b a) b a rJ bo N (pre.foldl q n) (q (pre.foldl q n) N))
 (ah:rJ n hL)(aA:Holds M (hL++(k++(bo++jt)))):
 HR C 97 [E,.agg (aS iF r),ev] M (λ_ P=>∃g,rJ ((im V X r).foldl q n) g/\Holds P (g++(k++(bo++jt)))):=by
 refine SE.hq ?_ (by simp[L.pl,a4]);have a9:∀(W:List AV),[W][0]?=aa W:=λ_=>rfl;refine aY (obO_1 L.cl) (aY (Az rfl rfl) (aY (obO_1 a2) ?_));have p:=((aA.alloc (.arr 0 1 [[E]])).alloc (.arr 0 9 [aS iF r])).alloc (.arr 0 1 [[ev]]);simp only[gC,jY]at p⊢;generalize(M++[Obj.arr 0 1 [[E]]]++[.arr 0 9 [aS iF r]]++[.arr 0 1 [[ev]]])=i at*;generalize Z M+1+1=f at*;generalize Z M+1=c at*
 generalize Z M=e at*;have ac:=p.get (U:=c) (gF:=.arr 0 9 [aS iF r]) (by simp);refine aI (mj ac rfl rfl) ?_;have aF:∀z:AV->Prop,z (p4 (ord r.ai []))->cp C 158 [.agg (aS iF r),.aq] i z:=λz j=>by
  refine⟨.dm,[.agg (aS iF r),eS ab cS []],p4 (ord r.ai []),by decide,?_,Vb r [] aj (by simp),by simp,j⟩;exact .ck eu (.ck (.aq _ _) (.nil _))
 apply aF _;rcases J:ord r.ai []with _|o;have ak:im V X r=[]:=by rw[im,J]
 simp only[p4,fK,dj,eH,O];apply aY rfl;have m:=p.alloc (.arr 0 1 [[.aq]]);have u:=m.get (U:=Z i) (gF:=.arr 0 1 [[.aq]]) (by simp);apply aI (lF u rfl (by decide) rfl rfl);have w:=m.set (.arr 0 1 [[AV.aq].set 0 (eS ab cN [])]);simp only[cv,O];refine a8 ⟨hL,by rw[ak];exact ah,?_⟩ (by decide);exact w.tail.tail.tail.tail;have ak:im V X r=kR V X r.ai o e0:=D5 J;let⟨a6,cb⟩:=HB J;simp only[p4,fK,dj,eH,O]
 apply aY rfl;have m:=p.alloc (.arr 0 1 [[.aq]]);have u:=m.get (U:=Z i) (gF:=.arr 0 1 [[.aq]]) (by simp);apply aI (lF u rfl (by decide) rfl rfl);have w:=m.set (.arr 0 1 [[AV.aq].set 0 (eS ab cN o)]);simp only[cv,O];refine bw ?_ (by decide);have bD:Z ((i++[Obj.arr 0 1 [[AV.aq]]]).set (Z i) (.arr 0 1 [[AV.aq].set 0 (eS ab cN o)]))=Z i+1:=by simp
 generalize(i++[Obj.arr 0 1 [[AV.aq]]]).set (Z i) (.arr 0 1 [[AV.aq].set 0 (eS ab cN o)])=y at*;generalize Z i=d at*;clear m u p ac;have A:=(w.alloc (.mp ad [] [])).alloc (.mp ad [] []);simp only[e4,gC,jY]at A⊢;generalize y++[Obj.mp ad [] []]++[.mp ad [] []]=s at*;generalize Z y+1=a at*;generalize Z y=b at*;refine aI (dW:=cM b a) rfl (aY rfl ?_);have B:=A.alloc (.arr 0 2 [[.oW,.oW]])
 have Y:=B.get (U:=Z s) (gF:=.arr 0 2 [[.oW,.oW]]) (by simp);apply aI (stO_9 Y rfl rfl rfl);have af:=B.set (.arr 0 2 [cM b a]);generalize(s++[Obj.arr 0 2 [[AV.oW,AV.oW]]]).set (Z s) (.arr 0 2 [cM b a])=l at*;generalize Z s=i16 at*;clear B Y A w;apply aY rfl;have G:=af.alloc (.arr 0 1 [[.fP]]);have v:=G.get (U:=Z l) (gF:=.arr 0 1 [[.fP]]) (by simp);simp only[zz]
 apply aI (lF v rfl (by decide) rfl rfl);have H:=G.set (.arr 0 1 [[AV.fP].set 0 (.fn 163 [] (xp e c f d i16 (Z l)))]);simp only[xp]at H;generalize(l++[Obj.arr 0 1 [[AV.fP]]]).set (Z l) (.arr 0 1 [[AV.fP].set 0 (.fn 163 [] [.ptr d 0 0 0,.ptr f 0 0 0,.ptr i16 0 0 0,.ptr e 0 0 0,.ptr c 0 0 0,.ptr (Z l) 0 0 0])])=Q at*;generalize Z l=h at*;clear G v af
 have v:=H.get (U:=h) (gF:=.arr 0 1 [[AV.fP].set 0 (.fn 163 [] [.ptr d 0 0 0,.ptr f 0 0 0,.ptr i16 0 0 0,.ptr e 0 0 0,.ptr c 0 0 0,.ptr h 0 0 0])]) (by simp);refine aI (dW:=.fn 163 [] (xp e c f d i16 h)) (by rw[c0 v (a9 _)]<;>rfl) ?_;apply aY (dW:=163) (oR:=I ((0:Nat):Int)::xp e c f d i16 h) rfl
 have ax:=ane (α:=K) (mv:=b) (me:=a) (i3:=e) (i4:=c) (i5:=f) (i10:=d) (i16:=i16) (i18:=h) (Xe:=bo) (A:=rJ) a5 L (aR b a) (a0 b a) q (im V X r) n (a3 b a) (by have:=aj.1;grind) iF a6 [] e0 [] [] rfl ⟨rfl,rfl,by simp[e0],vD.e0 V r⟩ (by grind);have am:∀{x g:aL},(x++(kW e c f d i16 h b a E ev iF r o++(g++(k++(bo++jt))))).Perm (x++(g++((k++(kW e c f d i16 h b a E ev iF r o++bo))++jt))):=by
  intro x g;apply l7 _;rw[ht k,ht (kW e c f d i16 h b a E ev iF r o)];exact(qu _ g _).trans ((qu _ k _).append_left g)
 have az:Holds Q (e5 b a ad ad e0 [] (λ_=>0)++(kW e c f d i16 h b a E ev iF r o++(hL++(k++(bo++jt))))):=by
  apply H.perm;apply(qu [_,_] [_,_] _).trans;exact(List.Perm.swap _ _ _)
 apply c4 (ax hL [] (λ_=>0) ad ad jt Q ⟨xF,by simp[e0]⟩ ah (az.perm am)) rfl;rintro cc P ⟨g,be,br,bm,bi,-,bv,au⟩;refine⟨g,?_,?_⟩;grind;exact(au.perm am.symm).sub.sub
structure Nr(p:D)(r:aD)(e:bc):Prop where
 len:Z e.bH=Z e.aA
 af:Sm r.af
 aw:r.aj.ax=2\/r.aj.ax=3->r.aj.aF∈e.aw
 kinds:0<=r.aj.ax/\r.aj.ax<=3
 fn:r.aj.ax=3->∃a:Nat,∃h:a<Z p.aO,r.aj.aR=a/\∃x:Nat,jT e r.aj.aF=x/\x<Z p.aO[a].gU
theorem an7{j:Bool}(g:D)(t:List S)(r:aD)(a:bc)(e:List d)(f:d->Int)(h:Nr g r a)(u:l1 a e f):
 PR C 99 [.aH T (cW F bC c8 iF g t) 0,.agg (aS j r),.agg (my a e f)] (.agg (cF ab (kP g r a))):=by
 apply afP.pr;have J:j2 2 (.agg (my a e f))=aa (.aH ab (my a e f) 0):=rfl;have K:∀w,aQ 2 ad (.aH ab (my a e f) 0) w=aa (.agg (my a e f)):=λ_=>rfl;have M:(my a e f)[0+1]?=aa (.il (iX e) (e.map λc=>I (f c))):=rfl;have N:(aS j r)[0+1]?=aa (I r.ah):=rfl;have U:(aS j r)[0+2]?=aa (eS j cT r.af):=rfl;have P:(aS j r)[0+3+0]?=aa (I r.aj.ax):=rfl;have Q:(aS j r)[0+3+2]?=aa (.str r.aj.aF):=rfl
 have R:(aS j r)[0+3+3]?=aa (I r.aj.aR):=rfl;have w1:(cW F bC c8 iF g t)[0+0+1]?=aa (eS F (cm F) g.aO):=rfl;have E:mb [I 0,.aq,I 0] [(0,1,I r.ah),(1,1,eS ab cV (j7 a r.af)),(2,1,I (-1))]=aa [I r.ah,eS ab cV (j7 a r.af),I (-1)]:=rfl;have s:∀c:Int,dO 3 (.agg [I r.ah,eS ab cV (j7 a r.af),I c])=aa [I r.ah,eS ab cV (j7 a r.af),I c]:=λ_=>rfl;have x:∀c:Int,nB (I c)=aa (I c):=λ_=>rfl
 have B:∀c:Int,c=su g r a->aM [] .res (AV.pl (.agg [I r.ah,eS ab cV (j7 a r.af),I c])) (.agg (cF ab (kP g r a))):=λc n=>by
  subst n;exact eu
 simp only[J,o9,K,O,bh,aJ,N,U];refine⟨.dm,_,_,by decide,.ck (X6 a e f _) (.ck eu (.nil _)),X7 a e f r.af h.len h.af,(λa=>by cases a),?_⟩;simp only[E,s,bz,bh,aJ,P,Q,R,M,yO,w1,O,c6,G,i];refine b (λl=>?_) (λl=>b (λm=>?_) (λm=>b (λk=>?_) (λk=>?_)));have l:r.aj.ax=1:=by simpa using l
 simp only[x,s,O,G,i];exact B _ (by rw[su,if_pos l]);have m:r.aj.ax=2:=by simpa using m
 let⟨o,p⟩:=u.aN _ (h.aw (.inl m));rw[M3 (E:=.il (iX e) (e.map λc=>I (f c))) rfl o,p];simp_all[su];have k:r.aj.ax=3:=by simpa using k
 let⟨o,p⟩:=u.aN _ (h.aw (.inr k));let⟨q,H,y,c,z,n⟩:=h.fn k;have A:(cm F g.aO[q])[0+5]?=aa (eS F cI g.aO[q].gU):=rfl;have V:∀v:Int,(cI v)[0]?=aa (I v):=λ_=>rfl;rw[M3 (E:=.il (iX e) (e.map λc=>I (f c))) rfl o,p,y,aE H (s5 _ _)];simp only[O,bh,aJ,A];rw[z,aE n (jh _)];simp_all[su];grind[su]
structure vQ(C:fu):Prop where
 an8:∀{v:AV}{fs:List S}{P F:aL}{H:List Obj}{id:Nat}(i:Nat)(f:S),bB v (cF ab) 3 fs P->Holds H ((id,.arr 0 3 [cF ab f])::(P++F))->i<=Z fs->Z fs<1099511627776->
  HR C 121 [v,I (i:Int),.q id 0 0 1] H (λr H'=>∃P',bB r (cF ab) 3 (fs.take i++f::fs.drop i) P'/\Holds H' (P'++F))
def sG(g:Nat)(e:Bool)(a:D)(f:List S)(d:aL):Prop:=
 ∃c b,bB c (cF ab) 3 f b/\d=(g,.arr 0 5 [[eS ab (bp ab) a.aw,eS ab (cm ab) a.aO,eS ab (bO ab) a.Q,eS e (aS ab) a.ak,c]])::b
theorem bB.mr(h:bB E (cF ab) 3 X k)(a:Holds M (k++bo)):aM M .cd E (eS ad (cF ab) X):=by
 rcases h with⟨rfl,rfl,rfl⟩|⟨id,g,rfl,rfl⟩;exact .aq _ _;exact om (U:=3) (a.get (by simp)) (by simp)
theorem sG.mr(h:sG U T V X k)(a:Holds M (k++bo)):aM M .cd (.ptr U 0 0 0) (.aH ad (cW ab T ad ab V X) 0):=by
 obtain⟨b,c,e,rfl⟩:=h;refine .o2 U 0 0 0 5 [[eS ab (bp ab) V.aw,eS ab (cm ab) V.aO,eS ab (bO ab) V.Q,eS T (aS ab) V.ak,b]] [eS ab (bp ab) V.aw,eS ab (cm ab) V.aO,eS ab (bO ab) V.Q,eS T (aS ab) V.ak,b] (cW ab T ad ab V X) (a.get (by simp)) rfl ?_;have d:Holds M (c++bo):=a.tail;exact .ck eu (.ck eu (.ck eu (.ck eu (.ck (e.mr d) (.nil _)))))
theorem an9(a:bQ):NB (.agg (bp ab a)):=.agg _ (.cons _ _ (.str _) (.cons _ _ (B5 (λ_=>.cons _ _ (.str _) .nil) _) (.cons _ _ (WW _) (.cons _ _ (.int _ _) .nil))))
variable{bZ:S}
theorem aoa(c:gj X)(a:uJ X bZ U)(h:kd X bZ U=ab):jH X bZ (Z X)=U:=by
 let⟨d,f⟩:=LM c (X9 c a h) (Z X) (c7 _) (by omega);have j:=VI X bZ (Z X);have:=a.le;generalize jH X bZ (Z X)=b at*;rcases I2 b U with dJ|e|dJ;have g:=f b (by omega) (c7 _);have i:=a.lo b (by omega) dJ;omega;exact e;have g:=d U (by omega) dJ;have i:=a.hi U (by omega) (c7 _);omega
theorem YN(c1:vQ C)(co:eA V)(ci:kA V)(a0:N<Z V.Q)(a4:bZ.ah=N)(el:Z X<1099511627776)(d8:∀bZ∈X,dF bZ.af)(L:gj X)
 (bv:sG U T V X k)(u:Holds M (k++bo)):
 HR C 70 [.ptr U 0 0 0,.agg (cF ab bZ)] M (λr Y=>r=.bool (y (db V X bZ≠X))/\∃A,sG U T V (db V X bZ) A/\Holds Y (A++bo)):=by
 apply afm.hq;have eq:Sm X:=by unfold Sm;omega
 have d0:(cF ab bZ)[0+0]?=aa (I bZ.ah):=rfl;have d1:(cF ab bZ)[0+1]?=aa (eS ab cV bZ.af):=rfl;have d2:(cF ab bZ)[0+2]?=aa (I bZ.aj):=rfl;have bi:∀(l:bQ),(AV.agg [g (bp ab l) 0,g (bp ab l) 1,g (bp ab l) 2,g (bp ab l) 3])=.agg (bp ab l):=λ_=>rfl;have d3:=X3 (T:=true) (F:=false) (bC:=T) (c8:=true) (iF:=false) V X N a0 ci
 let⟨a,K,br⟩:=MZ (T:=true) (F:=false) (bC:=T) (c8:=true) (iF:=false) (d:=false) V X N bZ.af eq d8 L (Ii L _);have ax:uJ X bZ a:=by
  have s:∀x,cr x bZ=cr x ⟨N,bZ.af,0⟩:=λx=>M4 a4 rfl;exact⟨K.le,λa5 aF h=>by rw[s];exact K.lo a5 aF h,λa5 aF h=>by rw[s];exact K.hi a5 aF h⟩
 have d6:kd X ⟨N,bZ.af,0⟩ a=kd X bZ a:=by
  unfold kd;rcases X[a]? with _|x;rfl;grind[M4]
 rw[d6]at br;have ce:=bv.mr u;have a2:dI V bZ.ah=if V.Q[N].of<0 then ae else V.aw[V.Q[N].of.toNat]?:=by
  unfold dI;rw[a4,eR,bq a0]
 have f6:=ci _ (bn a0);generalize f3:V.Q[N]=d at*;simp only[pX,O,bh,aJ,d0,a4];apply eV _ d3 (.ck ce (bT.snap (by simp))) (.aB _ (.cons _ _ (by simp[ite_self,an9]) (.cons _ _ (.bool _) .nil)));simp only[fK,dj,eH,O,ite_self,zB,bi];have P:0<=d.of->∃l,dI V bZ.ah=aa l/\q5 V d=l/\l∈V.aw:=by
  intro B;let⟨j,cl⟩:∃j:Nat,d.of=j:=⟨d.of.toNat,by omega⟩;have a3:j<Z V.aw:=by omega
  refine⟨V.aw[j],?_,?_,bn a3⟩;rw[a2,if_neg (by omega),cl,eR,bq a3];rw[q5,if_neg (by omega),cl,eR,bq a3]<;>rfl
 refine yF (M:=M) (y (0<=d.of)&&(bZ.aj==eD (q5 V d) [])) [g (bp ab (q5 V d)) 0,g (bp ab (q5 V d)) 1,g (bp ab (q5 V d)) 2,g (bp ab (q5 V d)) 3] (λz f5=>?_) ?_;refine aV (λh=>?_) (by grind);let⟨l,o,p,H⟩:=P (by grind);refine c (Hm (q5 V d) (by rw[p];exact co.aN l H)) ?_;simp only[tD,O];grind;simp only[G,i,bi]
 have ek:kd X bZ a=ab->(∀l,dI V bZ.ah=aa l->bZ.aj≠eD l [])->db V X bZ=X.take a++bZ::X.drop a:=by
  intro bm f1;let⟨_,f2⟩:=M6 L ax bm;have d4:jI X bZ=X.take a++bZ::X.drop a:=by rw[jI,aoa L ax bm]
  rw[<-d4];unfold db;rcases aA:dI V bZ.ah with _|l;grind;grind
 refine b (λE=>?_) (λE=>?_);rw[ba]at E;let⟨l,o,p,H⟩:=P (by grind);have m:db V X bZ=X:=by
  unfold db;rw[o];simp only;rw[if_pos (by have:=E.2;rw[p]at this;simpa using this)]
 refine⟨?_,k,by grind,u⟩;rw[m];simp;have em:∀l,dI V bZ.ah=aa l->bZ.aj≠eD l []:=by
  intro l aR m;by_cases B:0<=d.of;let⟨f7,o,p,H⟩:=P B;rw[aR]at o;simp only[e7]at o;subst o;rw[p,m]at E;simp[B]at E;rw[a2,if_pos (by omega)]at aR;cases aR
 simp only[d1,d2,O];apply eV _ br (.ck ce (bT.snap (by simp))) (.aB _ (.cons _ _ (.int _ _) (.cons _ _ (.bool _) .nil)));simp only[dj,eH,O,bI];obtain⟨n,ac,az,rfl⟩:=bv;have R:∀(be:List AV),[be][0]?=aa be:=λ_=>rfl;have w:=u.get (U:=U) (gF:=.arr 0 5 [[eS ab (bp ab) V.aw,eS ab (cm ab) V.aO,eS ab (bO ab) V.Q,eS T (aS ab) V.ak,n]]) (by simp)
 have W:∀n:AV,[eS ab (bp ab) V.aw,eS ab (cm ab) V.aO,eS ab (bO ab) V.Q,eS T (aS ab) V.ak,n][0+4]?=aa n:=λ_=>rfl;refine b (λF=>?_) (λF=>?_);have F:kd X bZ a=false:=by simpa using F
 have m:=ek F em;simp only[hV w,eF w,c0 w (R _),W,O,ku];refine aY (oR:=M++[.arr 0 3 [cF ab bZ]]) rfl ?_;have bD:=u.alloc (.arr 0 3 [cF ab bZ]);have am:=bD.get (U:=U) (gF:=.arr 0 5 [[eS ab (bp ab) V.aw,eS ab (cm ab) V.aO,eS ab (bO ab) V.Q,eS T (aS ab) V.ak,n]]) (by simp);simp only[hV am,eF am,c0 am (R _),W,O,mg,true_and]
 have d7:Holds (M++[.arr 0 3 [cF ab bZ]]) ((Z M,.arr 0 3 [cF ab bZ])::(ac++((U,.arr 0 5 [[eS ab (bp ab) V.aw,eS ab (cm ab) V.aO,eS ab (bO ab) V.Q,eS T (aS ab) V.ak,n]])::bo))):=by
  refine bD.perm (List.Perm.cons _ ?_);exact(qu [_] ac bo)
 apply c4 (c1.an8 a bZ az d7 K.le el) (by simp[az.pl]);rintro fd Y ⟨A,cc,d5⟩;have J:Holds Y ((U,.arr 0 5 [[eS ab (bp ab) V.aw,eS ab (cm ab) V.aO,eS ab (bO ab) V.Q,eS T (aS ab) V.ak,n]])::(A++bo)):=d5.back;have t:=J.get (U:=U) (gF:=.arr 0 5 [[eS ab (bp ab) V.aw,eS ab (cm ab) V.aO,eS ab (bO ab) V.Q,eS T (aS ab) V.ak,n]]) (by simp);simp only[hV t,eF t,O]
 refine aI (lF t rfl (by decide) cc.pl cc.cell) ⟨?_,_,⟨fd,A,by grind,rfl⟩,J.set _⟩;have:db V X bZ≠X:=by
  intro s;have:=congrArg List.length s;rw[m]at this;simp at this;omega
 simp[this];have d9:kd X bZ a=true:=by simpa using F
 let⟨v,f4,cb⟩:=M5 ax d9;refine b (λaA=>?_) (λaA=>?_);let⟨l,o,p,H⟩:=P (by grind);have m:db V X bZ=X.set a ⟨X[a].ah,X[a].af,eD l [X[a].aj,bZ.aj]⟩:=by
  unfold db;simp only[o,cb,bq v];grind
 rcases az with⟨rfl,-,-⟩|⟨id,f,rfl,rfl⟩;simp at v;have gid:=u.get (U:=id) (gF:=.arr f 3 (X.map (cF ab))) (by simp);have es:(X.map (cF ab))[a]?=aa (cF ab X[a]):=by simp[v]
 have cs:∀x:S,(cF ab x)[0+2]?=aa (I x.aj):=λ_=>rfl;have a9:∀{a6:List Obj}{ds:List (List AV)},a6[id]?=aa (.arr f 3 ds)->dK 2 (.ptr id f a 0) a6=aa (.ptr id f a (0+2)):=λh=>pg h;simp only[hV w,eF w,c0 w (R _),W,O,fw gid v,a9 gid,c0 gid es,cs];refine c (ajp (q5 V d) X[a].aj bZ.aj (by rw[p];exact co.aN l H)) ?_;rw[e,p];apply aI (LL gid v)
 have J:Holds M ([(U,.arr 0 5 [[eS ab (bp ab) V.aw,eS ab (cm ab) V.aO,eS ab (bO ab) V.Q,eS T (aS ab) V.ak,.q id f 0 (Z X)]])]++(id,.arr f 3 (X.map (cF ab)))::bo):=u;have au:=J.sD (.arr f 3 ((X.set a ⟨X[a].ah,X[a].af,eD l [X[a].aj,bZ.aj]⟩).map (cF ab)));generalize M.set id (.arr f 3 ((X.set a ⟨X[a].ah,X[a].af,eD l [X[a].aj,bZ.aj]⟩).map (cF ab)))=fy at*
 have t:=au.get (U:=U) (gF:=.arr 0 5 [[eS ab (bp ab) V.aw,eS ab (cm ab) V.aO,eS ab (bO ab) V.Q,eS T (aS ab) V.ak,.q id f 0 (Z X)]]) (by simp);have ai:=au.get (U:=id) (gF:=.arr f 3 ((X.set a ⟨X[a].ah,X[a].af,eD l [X[a].aj,bZ.aj]⟩).map (cF ab))) (by simp);have ex:((X.set a ⟨X[a].ah,X[a].af,eD l [X[a].aj,bZ.aj]⟩).map (cF ab))[a]?=aa (cF ab ⟨X[a].ah,X[a].af,eD l [X[a].aj,bZ.aj]⟩):=by simp[v]
 simp only[hV t,eF t,c0 t (R _),W,O,fw ai v,a9 ai,c0 ai ex,cs,cv];refine⟨?_,_,⟨.q id f 0 (Z X),[(id,.arr f 3 ((X.set a ⟨X[a].ah,X[a].af,eD l [X[a].aj,bZ.aj]⟩).map (cF ab)))],?_,rfl⟩,au⟩;rw[m];apply congrArg AV.bool;rw[iA];simp only[bne_iff_ne,ne_eq,decide_eq_true_eq];refine not_congr ⟨λs=>?_,λs=>?_⟩;have:(⟨X[a].ah,X[a].af,eD l [X[a].aj,bZ.aj]⟩:S)=X[a]:=by rw[s]
 rw[this,zb];grind;grind[bB.of,cF,g,eD,List.length_set];have m:db V X bZ=X:=by
  have B:d.of<0:=by simpa using aA
  unfold db;rw[a2,if_pos B];simp only[cb,oJ,if_true]
 refine⟨by rw[m];simp,_,⟨n,ac,by grind,rfl⟩,u⟩
theorem q1.YO{p:D}{cf:List aG}{r:aD}(a:q1 p cf)(h:bE p cf X)(b:Z X<4294967296)(hr:r∈p.ak):EC p r X cf where
 sm:=a.HE
 of:=a.L3
 aN:=a.v.aN
 fl:=by grind[Sm]
 Cg:=bE.Ah a h.ok
 de:=h.de
 iU:=a.v.iU r hr
 meet:=h.meet a.v hr
 aj:=λf hf=>(h.ok f hf).aj
 Ec:=a.Ec
 af:=λl b=>by have:=(a.HF r hr).2.2.2 l b;grind[Sm]
variable{H:bc}
theorem q1.head{r:aD}(b:q1 V aP)(h:bE V aP X)(c:r∈V.ak)(g:0<=r.ah)(a:H∈im V X r):Nr V r H:=by
 have d:=b.v.iU r c;have a:=D7 d (b.v.safe r c) (h.meet b.v c) (λf i=>(h.ok f i).aj) H a;refine⟨a.len,by have:=(b.HF r c).2.2.1;grind[Sm],a.aw,d.kinds,λe=>?_⟩;let⟨j,q,k,t,l,m,n⟩:=d.fn g e;let⟨s,o,p⟩:=a.az _ (D8 a.Ae (a.aw (.inr e)));grind[mo]
theorem aob(a:S):NB (.agg (cF ab a)):=.agg _ (.cons _ _ (.int _ _) (.cons _ _ (Ik _) (.cons _ _ (.int _ _) .nil)))
def Cn(b d c e:Nat)(f:AV)(a:Bool)(r:aD):aL:=[(c,.arr 0 9 [aS a r]),(d,.arr 0 1 [[.ptr e 0 0 0]]),(b,.arr 0 1 [[f]])]
variable{dp mK:Nat}
theorem aoc(u:vQ C){b a:Nat}{c d:Bool}{out:List S}{r:aD}(W:eA V)(P:kA V)(M:N<Z V.Q)(R:r.ah=N)(L:Z out<1099511627776)(I:∀l∈out,dF l.af)(G:gj out)(J:Nr V r H):
 pA C 98 [.agg (cM b a),.ptr dp 0 0 0,.ptr z 0 0 0,.ptr mK 0 0 0] b a (sG U bC V) (Cn z dp mK U (.aH T (cW F c8 iF c V X) 0) d r) H out (db V out (kP V r H)):=by
 intro s g h j i q f m y e;apply agf.hq;have o:∀(k:List AV),[k][0]?=aa k:=λ_=>rfl;have Y:j2 2 (.agg (cM b a))=aa (.aH ab (cM b a) 0):=rfl;have ac:∀f,aQ 2 ad (.aH ab (cM b a) 0) f=aa (.agg (cM b a)):=λ_=>rfl;have x:=e.get (U:=dp) (gF:=.arr 0 1 [[.ptr U 0 0 0]]) (by simp[Cn]);have v:=e.get (U:=z) (gF:=.arr 0 1 [[.aH T (cW F c8 iF c V X) 0]]) (by simp[Cn])
 have w:=e.get (U:=mK) (gF:=.arr 0 9 [aS d r]) (by simp[Cn]);have ai:aQ 9 ad (.ptr mK 0 0 0) f=aa (.agg (aS d r)):=mj w rfl rfl;simp only[Y,ac,c0 x (o _),c0 v (o _),ai,dj,O];have K:bT (cW F c8 iF c V X):=by simp[cW]
 refine eV _ (an7 (T:=T) (F:=F) (bC:=c8) (c8:=iF) (iF:=c) (j:=d) V X r H g h J m) ?_ (aob _) ?_;exact .ck (Im.snap (by simp[K])) (.ck eu (.ck (Ey e) (.nil _)));have E:Holds f (s++(e5 b a j i H g h++(Cn z dp mK U (.aH T (cW F c8 iF c V X) 0) d r++q))):=e.swap;apply c4 (YN u (bZ:=kP V r H) W P M (by exact R) L I G y E) rfl;rintro ak aj ⟨-,t,A,B⟩;exact⟨t,g,h,j,i,m,A,B.swap⟩
theorem bB.res(h:bB E (cF ab) 3 X k)(a:Holds M (k++bo)):aM M .res E (eS ab (cF ab) X):=by
 rcases h with⟨rfl,rfl,rfl⟩|⟨id,g,rfl,rfl⟩;exact .aq _ _;exact ic (U:=3) (a.get (by simp)) (by simp)
theorem aod{out:List S}{r:aD}:(im V X r).foldl (λa b=>db V a (kP V r b)) out=df V out (lD V X r):=by
 rw[df,lD,aa7]
theorem YP(a0:vQ C)(d:List S)(e:List Int)(g:q1 V aP)(h:bE V aP d)(cb:Z d<4294967296)(bm:Sm e):
 PR C 46 [.aH T (cW ab F bC c8 V d) 0,eS iF cI e] (eS ab (cF ab) (fD V e d)):=by
 apply afJ.pr;have E:∀(e:List AV),[e][0]?=aa e:=λ_=>rfl;have el:bT (cW ab F bC c8 V d):=by simp[cW]
 have es:=g.v.ak;apply aY (obO_1 (E:=.aH T (cW ab F bC c8 V d) 0) rfl);simp only[dR,e2];refine aI (dW:=.aH T (cW ab F bC c8 V d) 0) rfl ?_;refine aI (yO _ _ _ _) (aI rfl ?_);refine aI (dW:=.agg [eS ab (bp ab) V.aw,eS ab (cm ab) V.aO,eS ab (bO ab) V.Q,eS F (aS ab) V.ak]) rfl ?_;apply aI (dW:=[eS ab (bp ab) V.aw,eS ab (cm ab) V.aO,eS ab (bO ab) V.Q,eS F (aS ab) V.ak,.aq]) rfl
 refine aY (Az rfl rfl) (aY rfl ?_);apply aI (dW:=[Obj.arr 0 1 [[.aH T (cW ab F bC c8 V d) 0]],.arr 0 5 [[eS ab (bp ab) V.aw,eS ab (cm ab) V.aO,eS ab (bO ab) V.Q,eS F (aS ab) V.ak,.aq]],.arr 0 1 [[.ptr 1 0 0 0]]]) rfl;refine aI (dW:=.aH T (cW ab F bC c8 V d) 0) rfl ?_;refine aI (yO _ _ _ _) (aI rfl (aI rfl ?_));apply aI (dW:=eS F (aS ab) V.ak) rfl;rw[aX,O]
 have y:Holds [Obj.arr 0 1 [[.aH T (cW ab F bC c8 V d) 0]],.arr 0 5 [[eS ab (bp ab) V.aw,eS ab (cm ab) V.aO,eS ab (bO ab) V.Q,eS F (aS ab) V.ak,.aq]],.arr 0 1 [[.ptr 1 0 0 0]]]
  ([(1,.arr 0 5 [[eS ab (bp ab) V.aw,eS ab (cm ab) V.aO,eS ab (bO ab) V.Q,eS F (aS ab) V.ak,.aq]])]++[(2,.arr 0 1 [[.ptr 1 0 0 0]]),(0,.arr 0 1 [[.aH T (cW ab F bC c8 V d) 0]])]):=by
  refine⟨by simp,?_⟩;intro k z;simp only[b6,dt,jN,or_false]at z;grind
 have Y:sG 1 F V [] [(1,.arr 0 5 [[eS ab (bp ab) V.aw,eS ab (cm ab) V.aO,eS ab (bO ab) V.Q,eS F (aS ab) V.ak,.aq]])]:=⟨.aq,[],bB.nil _ _,rfl⟩
 apply bG (K:=Nat×aL×List Obj) (λi=>[I i.1]) (λi=>i.2.2) (λi=>Z V.ak -i.1) (λi=>i.1<=Z V.ak/\sG 1 F V ((V.ak.take i.1).foldl (kD V e d) []) i.2.1/\Holds i.2.2 (i.2.1++[(2,.arr 0 1 [[.ptr 1 0 0 0]]),(0,.arr 0 1 [[.aH T (cW ab F bC c8 V d) 0]])])) (0,_,_) ⟨by simp,Y,y⟩;clear y Y;rintro⟨j,L,n⟩ ⟨bv,t,u⟩ d1 am;simp only at bv t u am⊢;simp only[G,A,O,a];refine b (λm=>?_) (λm=>?_)
 have m:j<Z V.ak:=by simpa using m
 have q:V.ak[j]∈V.ak:=bn m;have ai:=HC g.v h e (V.ak.take j) (by grind) (bE.nil V aP);rw[h0,e2]at ai;have ek:=by omega
 have dl:=λl aF w X=>am (j+1,l,aF) ⟨m,w,X⟩ (by omega);simp only[mV m]at dl;generalize(V.ak.take j).foldl (kD V e d) []=out at*;refine kT (λp h=>(∃az,p=[az])/\∃l,sG 1 F V (kD V e d out V.ak[j]) l/\Holds h (l++[(2,.arr 0 1 [[.ptr 1 0 0 0]]),(0,.arr 0 1 [[.aH T (cW ab F bC c8 V d) 0]])])) (λYQ af=>?_) (λp d9 ci=>?_);rw[aE m (mP _ _),O,nF,O];apply aY rfl
 have R:=u.alloc (.arr 0 9 [[.str [],I 0,.aq,I 0,.str [],.str [],I 0,.aq,I 0]]);have W:=R.get (U:=Z n) (gF:=.arr 0 9 [[.str [],I 0,.aq,I 0,.str [],.str [],I 0,.aq,I 0]]) (by simp);apply aI (stO_9 W rfl rfl rfl);have x:=R.set (.arr 0 9 [aS ab V.ak[j]]);generalize(n++[Obj.arr 0 9 [[AV.str [],I 0,.aq,I 0,.str [],.str [],I 0,.aq,I 0]]]).set (Z n) (.arr 0 9 [aS ab V.ak[j]])=K at*;generalize Z n=s at*
 clear R W;generalize eq:V.ak[j]=r at*;have N:=x.get (U:=s) (gF:=.arr 0 9 [aS ab r]) (by simp);have a5:=x.get (U:=0) (gF:=.arr 0 1 [[.aH T (cW ab F bC c8 V d) 0]]) (by simp);have a2:(aS ab r)[0+1]?=aa (I r.ah):=rfl;have c2:aQ 9 ad (.ptr s 0 0 0) K=aa (.agg (aS ab r)):=mj N rfl rfl;simp only[eF N,c0 N (E _),a2,O,A];refine dA (M:=K) (!iq e r) (λYR bD=>dH (λce=>?_) (λce=>kB bD ?_)) ?_
 refine c (T5 e r.ah bm) ?_;simp only[bI,O];grind[iq];grind[iq];simp only[G];refine b (λo=>?_) (λo=>?_);have o:iq e r=false:=by simpa using o
 refine af _ _ ⟨⟨_,rfl⟩,L,?_,x.tail⟩;grind[kD];have o:iq e r=true:=by simpa using o
 have P:0<=r.ah:=by
  rw[iq,ba]at o;simpa using o.1
 let⟨f,bi,cl,_⟩:=(g.v.iU r q).head P;simp only[c0 a5 (E _),c2,dj,O,zz];have be:=g.YO h cb q;have cc:=V8 g.v h q;rw[lD,jX]at cc
 have a9:=YM (K:=List S) (iF:=false) (rJ:=sG 1 F V) (E:=.aH T (cW ab F bC c8 V d) 0) (ev:=.fn 98 [] [.ptr 2 0 0 0,.ptr 0 0 0 0,.ptr s 0 0 0]) (k:=[]) (bo:=Cn 0 2 s 1 (.aH T (cW ab F bC c8 V d) 0) ab r) (U:=98) (t:=λax au=>[.agg (cM ax au),.ptr 2 0 0 0,.ptr 0 0 0 0,.ptr s 0 0 0]) be (g.HF r q) (.inl ⟨T,rfl,rfl⟩) rfl rfl (λ_ _=>rfl) (λ_ _=>rfl)
  (λf k=>db V f (kP V r k)) out ?_ (hL:=L) (jt:=[]) (M:=K) t ?_
 refine c4 a9 rfl ?_;rintro ex aR ⟨l,w,bb⟩;rw[aod]at w;refine af _ _ ⟨⟨_,rfl⟩,l,?_,?_⟩;grind[kD];have:Holds aR (l++((s,.arr 0 9 [aS ab r])::[(2,.arr 0 1 [[.ptr 1 0 0 0]]),(0,.arr 0 1 [[.aH T (cW ab F bC c8 V d) 0]])])):=bb;exact this.back.tail;intro ax au pre k fd z;have cs:k∈im V d r:=by rw[z];simp
 have co:∀J∈pre,J∈im V d r:=by grind
 have aj:bE V aP (pre.foldl (λf k=>db V f (kP V r k)) out)/\Z (pre.foldl (λf k=>db V f (kP V r k)) out)<=Z out+Z pre:=by
  have a3:pre.foldl (λf k=>db V f (kP V r k)) out=df V out (pre.map (kP V r)):=by rw[df,aa7]
  rw[a3];have U:=z1 (c:=V) (pre.map (kP V r)) out;rw[jX]at U;refine⟨w5 g.v.aN _ ai.1 ?_,U⟩;intro d7 br;obtain⟨J,c1,rfl⟩:=cy.1 br;exact uy g.v h q P _ (cy.2 ⟨J,co J c1,rfl⟩)
 have em:Z pre<=Z (im V d r):=by rw[z];simp
 exact aoc a0 g.HE g.L3 bi cl (by omega) (bE.Ah g aj.1.ok) aj.1.de (g.head h q P cs);exact x.front;obtain⟨⟨az,rfl⟩,l,w,X⟩:=ci;rw[aZ,O];grind;have:j=Z V.ak:=by simp at m;omega
 subst this;rw[dY]at t;have y:V.ak.foldl (kD V e d) []=fD V e d:=rfl;rw[y]at t;obtain⟨p,d2,ac,rfl⟩:=t;have a6:=u.get (U:=2) (gF:=.arr 0 1 [[.ptr 1 0 0 0]]) (by simp);have M:=u.get (U:=1) (gF:=.arr 0 5 [[eS ab (bp ab) V.aw,eS ab (cm ab) V.aO,eS ab (bO ab) V.Q,eS F (aS ab) V.ak,p]]) (by simp);have ds:[eS ab (bp ab) V.aw,eS ab (cm ab) V.aO,eS ab (bO ab) V.Q,eS F (aS ab) V.ak,p][0+4]?=aa p:=rfl
 have a4:aQ 1 ab (.ptr 2 0 0 0) n=aa (.ptr 1 0 0 0):=c0 a6 (E _);apply aI a4;simp only[O,hV M,eF M,c0 M (E _),ds];rw[ac.pl];exact ac.res (bo:=[(2,.arr 0 1 [[.ptr 1 0 0 0]]),(0,.arr 0 1 [[.aH T (cW ab F bC c8 V d) 0]])]) u.tail
theorem YS(h:hR V X=ad):∀b∈X,∃a:Nat,∃e:a<Z V.Q,b.ah=a:=by
 intro b c;obtain⟨d,f,rfl⟩:=kg.1 c;rw[hR,eQ]at h;have:=h d (by grind);grind[mW,qZ]
noncomputable def xx(a:D)(b:List S):Bool:=lh a&&hR a b&&b.all (qe a)
theorem Ns(b:List Obj)(a:Int):aM b .res (.aB [AV.aq.pl,(I a).pl]) (HP a):=.aB _ _ _ (.ck (.aq _ _) (.ck (.int _ _ _) (.nil _)))
theorem kY(br:e8 C)(bv:vQ C)(ci:xi C)(d:D)(k:List S)(g0:eA d)(cs:Sm k)(X:∀j∈k,dF j.af)(u:AV)
 (hx:xx d k=ab->u=HP 1)
 (gt:xx d k=ad->Z d.ak<=12/\(∀r∈d.ak,lS r)/\mq d/\(qV d≠[]->u=HP 80)/\(qV d=[]->qY d≠[]->u=HP 90)/\
  (qV d=[]->qY d=[]->∃N z,q1 d N/\bE d N k/\Z k<=2000/\j9 d (tA d) k z/\u=Ei z)):
 PR C 25 [.agg (cP ab T d),eS F (cF bC) k] u:=by
 apply agb.pr;have g6:∀(q:List AV),[q][0]?=aa q:=λ_=>rfl;have ai:∀{o:List Obj}{id:Nat},o[id]?=aa (.arr 0 4 [cP ab T d])->aQ 4 ad (.ptr id 0 0 0) o=aa (.agg (cP ab T d)):=λh=>mj h rfl rfl;have bD:([Obj.arr 0 4 [cP ab T d]]:List Obj)[0]?=aa (.arr 0 4 [cP ab T d]):=rfl;refine aY (Az rfl rfl) ?_;simp only[dR,e2,ai bD,O,zz]
 have g8:∀ah:List S,NB (eS ab (cF ab) ah):=λah=>B5 (λj=>.cons _ _ (.int _ _) (.cons _ _ (Ik _) (.cons _ _ (.int _ _) .nil))) ah;refine dA (M:=[Obj.arr 0 4 [cP ab T d]]) (!xx d k) (λi0 co=>?_) ?_;refine c (br.MY d k g0 cs X) ?_;simp only[bI,O];refine dH (λh=>?_) (λh=>kB co ?_);have h:(lh d&&hR d k)=true:=by rw[OU]at h;exact h
 rw[ba]at h;have f5:=YS h.2;have eq:=agU (T:=F) (F:=bC) (E:=.fn 68 [] [.aH ad (cP ab T d) 0]) (c:=λj=> !qe d j) (Im.still (by simp)) k cs (λj X=>by
  let⟨au,V,e⟩:=f5 j X;refine⟨68,_,rfl,amP d j e V,by simp[bT.snap]⟩)
 refine eV _ eq ?_ (.bool _) ?_;refine .ck eu (.ck (.fn _ _ _ _ _ _ (.nil _) (.ck ?_ (.nil _))) (.nil _));exact .o2 0 0 0 0 4 [cP ab T d] (cP ab T d) (cP ab T d) rfl rfl (bT.snap (by simp));refine kB co ?_;simp_all[xx,c3,Ll];grind[xx];simp only[G];refine b (λh=>?_) (λh=>?_);grind[Ns];let⟨c1,d1,cl,g3,g4,g5⟩:=gt (by grind);simp only[ai bD,O];apply c (Ln d (by omega) d1);simp only[aX,eU,O]
 refine b (λaA=>?_) (λaA=>?_);rw[g3 (by grind)];exact Ns _ 80;have d2:qV d=[]:=by
  rcases ac:qV d with _|⟨bb,ah⟩;rfl;rw[ac]at aA;simp at aA
 apply c (XC ci d cl c1);simp only[aX,eU,O];refine b (λaF=>?_) (λaF=>?_);rw[g4 d2 (by grind)];exact Ns _ 90;have g1:qY d=[]:=by
  rcases ac:qY d with _|⟨bb,ah⟩;rfl;rw[ac]at aF;simp at aF
 obtain⟨N,z,t,f3,h1,ds,rfl⟩:=g5 d2 g1;have ip:=t.v.Q;have fd:Holds [Obj.arr 0 4 [cP ab T d]] [(0,.arr 0 4 [cP ab T d])]:=⟨by simp,by grind⟩;refine c4 (br.amQ k (by omega) (λj X=>by let⟨au,V,_,e⟩:=(f3.ok j X).fz;have:=t.a6 _ (bn V);omega) fd) rfl ?_;rintro w bi ⟨l,n,aR⟩;have cb:=aR.get (U:=0) (gF:=.arr 0 4 [cP ab T d]) (by simp);simp only[ai cb,O,mg,true_and]
 refine aI (dW:=[eS ab (bp ab) d.aw,eS ab (cm ab) d.aO,eS ab (bO ab) d.Q,eS T (aS ab) d.ak,w]) ?_ ?_;have hk:w.pl.cells=[w]:=by
  rw[n.pl];rcases n with⟨-,h,-⟩|⟨id,ho,h,-⟩<;>rw[h]<;>rfl
 have hl:w.pl.bU=true:=by rw[n.pl];exact n.cell
 have hm:(AV.agg (cP ab T d)).pl.cells=[eS ab (bp ab) d.aw,eS ab (cm ab) d.aO,eS ab (bO ab) d.Q,eS T (aS ab) d.ak]:=rfl;have hn:w.bU=true:=n.cell;simp_all[mb,e3];apply aY (Az rfl (by simp[n.cell]));have am:=aR.alloc (.arr 0 5 [[eS ab (bp ab) d.aw,eS ab (cm ab) d.aO,eS ab (bO ab) d.Q,eS T (aS ab) d.ak,w]])
 generalize bi++[Obj.arr 0 5 [[eS ab (bp ab) d.aw,eS ab (cm ab) d.aO,eS ab (bO ab) d.Q,eS T (aS ab) d.ak,w]]]=bm at*;generalize Z bi=K at*;have fy:sG K T d k ((K,.arr 0 5 [[eS ab (bp ab) d.aw,eS ab (cm ab) d.aO,eS ab (bO ab) d.Q,eS T (aS ab) d.ak,w]])::l):=⟨w,l,n,rfl⟩
 have am:Holds bm (((K,.arr 0 5 [[eS ab (bp ab) d.aw,eS ab (cm ab) d.aO,eS ab (bO ab) d.Q,eS T (aS ab) d.ak,w]])::l)++[(0,.arr 0 4 [cP ab T d])]):=am;generalize((K,Obj.arr 0 5 [[eS ab (bp ab) d.aw,eS ab (cm ab) d.aO,eS ab (bO ab) d.Q,eS T (aS ab) d.ak,w]])::l)=ek at*;have cc:=am.get (U:=0) (gF:=.arr 0 4 [cP ab T d]) (by simp);simp only[ai cc,O];refine c (XM ci d cl c1) ?_;simp only[aX,O]
 have f1:∀g∈eN (Z d.Q) (cQ d),Z g<=Z d.Q:=λg n=>Mp _ g n;have hO:Z (eN (Z d.Q) (cQ d))<=Z d.Q:=Mq _;have d0:=ds;unfold tA at d0;generalize eN (Z d.Q) (cQ d)=q at*
 refine bG (K:=Nat×List S×aL×List Obj) (λf=>[.aq,I 0,I f.1]) (λf=>f.2.2.2) (λf=>Z q -f.1) (λf=>f.1<=Z q/\sG K T d f.2.1 f.2.2.1/\Holds f.2.2.2 (f.2.2.1++[(0,.arr 0 4 [cP ab T d])])/\bE d N f.2.1/\iP f.2.1=ab/\j9 d ((q.drop f.1).map (·.map b4)) f.2.1 z) (0,k,ek,bm) (by grind[Wa]) ?_;clear fy am cc aR cb d0 ds n;rintro⟨R,gs,l,o⟩ ⟨f4,s,p,E,Y,P⟩ he d3;simp only at f4 s p E Y P d3⊢
 simp only[G,i,A,O,a];refine b (λL=>?_) (λL=>?_)
 ·have L:R<Z q:=by simpa using L
  rw[oI L,ej]at P;have h3:=f1 _ (bn L);have x:∃J r,qb d (q[R].map b4) J gs r/\((r=ae/\z=ae)\/∃U,r=aa U/\j9 d ((q.drop (R+1)).map (·.map b4)) U z):=by
   cases P with
   |none _ _ J _ h=>grind
   |cons _ _ J _ U _ h d6=>grind
  obtain⟨J,r,x,c2⟩:=x;clear P;simp only[aE L (w7 _),O,aJ,tq,xf];generalize f0:q[R].map b4=m at*;have hH:Z m<=24:=by rw[<-f0];simp;omega
  refine bG (K:=Nat×Bool×List S×aL×List Obj) (λf=>[.aq,I 0,.bool f.2.1]) (λf=>f.2.2.2.2) (λf=>f.1+(if f.2.1=ad then 1 else 0)) (λf=>sG K T d f.2.2.1 f.2.2.2.1/\Holds f.2.2.2.2 (f.2.2.2.1++[(0,.arr 0 4 [cP ab T d])])/\bE d N f.2.2.1/\iP f.2.2.1=ab/\(f.2.1=ad->qb d m f.1 f.2.2.1 r)/\(f.2.1=ab->r=aa f.2.2.1)) (J,ad,gs,l,o) (by grind) ?_;clear s p E Y x;clear l o gs J
  rintro⟨J,hs,gs,l,o⟩ ⟨s,p,E,Y,x,ce⟩ hg a9;simp only at s p E Y x ce a9⊢;simp only[G,i];refine b (λa5=>?_) (λa5=>?_)
  ·have x:=x a5
   have it:=E.small t.v Y;have g2:=oA t.v E m;have ii:=Af t.v E m;apply eV _ (YP bv (T:=true) (F:=T) (bC:=true) (c8:=false) (iF:=false) gs m t E (by omega) (by grind[Sm])) (.ck (s.mr p) (bT.snap (by simp))) (g8 _);simp only[aX,O];have ge:(fD d m gs).foldl (db d) gs=ir d m gs:=rfl;generalize iG:fD d m gs=B at*
   refine bG (K:=Nat×List S×aL×List Obj) (λf=>[.bool (y (f.2.1≠gs)),I f.1]) (λf=>f.2.2.2) (λf=>Z B -f.1) (λf=>f.1<=Z B/\f.2.1=(B.take f.1).foldl (db d) gs/\bE d N f.2.1/\Z f.2.1<=Z gs+f.1/\(f.2.1=gs\/lW d gs<lW d f.2.1)/\sG K T d f.2.1 f.2.2.1/\Holds f.2.2.2 (f.2.2.1++[(0,.arr 0 4 [cP ab T d])])) (0,gs,l,o) (by grind) ?_ (by simp) rfl;clear s p;rintro⟨H,ax,l,o⟩ ⟨f6,a0,W,f2,f7,s,p⟩ d8 d4
   simp only at f6 a0 W f2 f7 s p d4⊢;simp only[G,i,A,O,a];refine b (λM=>?_) (λM=>?_);have M:H<Z B:=by simpa using M
   have a4:=g2.1.ok _ (bn M);let⟨au,V,gU,hw⟩:=a4.fz;have f8:=z7 t.v.aN (λbb ac=>(W.ok bb ac).aj) a4.aj;have f9:=V7 t.v.aN W a4;have h4:=VL (V:=d) (X:=ax) (bZ:=B[H]);rw[bz];have em:∀j:S,dO 3 (.agg (cF ab j))=aa (cF ab j):=λ_=>rfl;have gc:∀j:S,(AV.agg [g (cF ab j) 0,g (cF ab j) 1,g (cF ab j) 2])=.agg (cF ab j):=λ_=>rfl;rw[aE M (fB _ _)];simp only[O,ku,em,gc]
   apply c4 (YN bv (bZ:=B[H]) t.HE t.L3 V gU (by omega) (bE.Ah t W.ok) W.de s p) rfl;rintro i1 be ⟨rfl,d9,es,ex⟩;have io:d8 [.bool (y (db d ax B[H]≠gs)),I ((H+1:Nat):Int)] be:=by
    refine d4 (H+1,db d ax B[H],d9,be) ⟨M,by grind[mV],f9,by simp only;omega,?_,es,ex⟩ (by omega);rcases f8.1 with e|e;grind;grind
   grind[dH,db,G,aZ,O,decide]
   ·have:H=Z B:=by simp at M;omega
    subst this;rw[dY,ge]at a0;subst a0;apply eV _ (amT (T:=true) (F:=false) (bC:=T) (c8:=true) (iF:=false) d (ir d m gs) (by grind[Sm])) (.ck (s.mr p) (.nil _)) (.bool _);refine b (λgo=>?_) (λgo=>?_)
    ·have dl:r=none:=by
      cases x with
      |over _ _ h=>rfl
      |stop _ _ h _=>grind
      |next _ _ _ h _ _=>grind
     rcases c2 with⟨-,rfl⟩|⟨U,e,-⟩;exact .aB _ _ _ (.ck (.aq _ _) (.ck (.int _ _ _) (.nil _)));grind
    ·cases x with
     |over _ _ h=>grind
     |stop _ _ h a3=>
      have a2:y (ir d m gs≠gs)=false:=by simpa using a3
      rw[a2];apply a9 (J,ab,ir d m gs,l,o) (by grind);grind
     |next g7 _ _ h a3 d1=>
      have a2:y (ir d m gs≠gs)=true:=by simpa using a3
      rw[a2];apply a9 (g7,ad,ir d m gs,l,o) (by grind);grind
  have dl:=ce a5;rcases c2 with⟨e,-⟩|⟨U,e,hu⟩;grind;rw[dl]at e;simp only[e7]at e;subst e;rw[aZ,O];exact d3 (R+1,gs,l,o) (by grind) (by omega)
 have:R=Z q:=by simp at L;omega
 subst this;rw[qq]at P;cases P with
 |nil=>
  obtain⟨u,hh,n,rfl⟩:=s;have az:=p.get (U:=K) (gF:=.arr 0 5 [[eS ab (bp ab) d.aw,eS ab (cm ab) d.aO,eS ab (bO ab) d.Q,eS T (aS ab) d.ak,u]]) (by simp);have g9:[eS ab (bp ab) d.aw,eS ab (cm ab) d.aO,eS ab (bO ab) d.Q,eS T (aS ab) d.ak,u][0+4]?=aa u:=rfl;simp only[hV az,eF az,c0 az (g6 _),g9,O];rw[n.pl]
  exact .aB _ _ _ (.ck (n.res (bo:=[(0,.arr 0 4 [cP ab T d])]) p.tail) (.ck (.int _ _ _) (.nil _)))
variable{x:List K}
theorem AD{b:K->K}(h:x=x.map b):∀a∈x,b a=a:=by
 intro a c;obtain⟨e,d,rfl⟩:=kg.1 c;grind
theorem Nt{r:aD}:∀{b:List Lit}{c g:Bool},na V r b c=aa g->(∀a∈b,a.bind≠[]->a.bind=r.aj.aF/\hT V a.ah=hT V r.ah/\c=ab)/\
 (∀(d e:Nat)(a f:Lit),b[d]?=aa a->b[e]?=aa f->a.bind≠[]->f.bind≠[]->d=e)/\(g=ad->c=ad\/∃a∈b,a.bind≠[])
 |[],c,g,h=>by
  grind[na]
 |x::b,c,g,h=>by
  rw[na]at h;split at h;rename_i k;let⟨i,j,l⟩:=Nt h;grind;rename_i k;split at h;cases h
  rename_i m;let⟨i,j,_⟩:=Nt h;grind
theorem uL(a:D)(b:Int):dI a b=if hT a b<0 then ae else a.aw[(hT a b).toNat]?:=by
 grind[dI,hT]
theorem yS(a:U<Z V.Q):hT V (U:Int)=V.Q[U].of:=by
 grind[hT]
variable{oS:cO}{bL:d}{dS:bQ}
theorem YT(b:V.aw[oS.of.toNat]?=aa dS)(a:0<=fx V oS bL):eC dS (fx V oS bL)=true:=by
 simp_all[fx,Ar,bV,eC,decide_true,abb]
theorem aoe{a:Fn}(h:fG dS a=ad):Z (fM dS a)=Z dS.az/\(fM dS a).all (eC dS)=true:=by
 simp only[fG,ba,eQ,iz,decide_eq_true_eq]at h;let⟨⟨⟨d,i⟩,e⟩,j⟩:=h;refine⟨by simp[fM],?_⟩;rw[eQ];intro g c;simp only[fM,cy]at c;obtain⟨b,f,rfl⟩:=c;have k:=e b f;have l:bV a.src b<Z a.src:=(Ar _ _).2;have m:=(d (bV a.src b).toNat (by omega)).2;simp_all[bV,Ar,eC,decide_true,abb]
variable{f ca:Int}
theorem aof(h:og f ca bL=ad):Z bL<=16:=by
 rcases bL with _|⟨a,b⟩;simp;grind[og]
variable{ju:aG}
theorem aog(h:nJ ju=ad):Sm ju.s:=by
 unfold nJ at h;split at h;grind[Sm];simp only[ba,bY]at h;grind[aof,Sm]
variable{bR:aK}
theorem YU(h:iN bR=ad):Sm bR.const.s:=by
 grind[iN,aog,Sm]
theorem Co(h:iY V):kA V:=by
 intro a c;have b:=h.2.2.2;have:=HO V (V.ak.map (fi (eg V []))) a (by grind);exact this
theorem YV(h:iY V):lV V:=by
 intro d a;obtain⟨c,b,rfl⟩:=kg.1 a;have:=h.2.1;simp_all[qd,qc]
theorem aoh(h:iY V):∀b∈V.aO,∃d,V.aw[b.of.toNat]?=aa d/\0<=b.of/\Z b.gU=Z d.az/\b.gU.all (eC d)=true:=by
 intro b f;have i:=congrArg D.aO h.2.2.2;have e:=AD i b f;obtain⟨c,g,rfl⟩:=kg.1 f;have a:=h.2.1;simp only[qd,ba,eQ,iz]at a;have a:=a.1.2 c g;rw[px,bq g]at a;simp only[ba]at a;let⟨a,_⟩:=a;split at a;rename_i d j;simp only[ba,decide_eq_true_eq]at a;have k:V.aO[c].of=ef V V.aO[c].aN:=(congrArg Fn.of e).symm;have l:V.aO[c].gU=fM d V.aO[c]:=by
  apply(congrArg Fn.gU e).symm.trans;simp only[eP,j,if_pos a]
 grind[aoe];cases a
theorem aoi(h:iY V){r:aD}(x:r∈V.ak):Ad V r:=by
 have O:=Co h;have T:V.aO=V.aO.map (eP V):=congrArg D.aO h.2.2.2;have U:V.Q=V.Q.map (ew V):=congrArg D.Q h.2.2.2;have J:=congrArg D.ak h.2.2.2;have L:eg V []=⟨V.aw,V.aO,V.Q,[]⟩:=by
  show(⟨V.aw,V.aO.map (eP V),V.Q.map (ew V),[]⟩:D)=_;grind
 have p:=AD J r x;let⟨z,u,_,_,m⟩:=h.2.2.1 r x;rw[p]at m;rw[L]at p z u m;have q:=(B4 h.1).iU r x;have y:=AD (congrArg aD.ai p).symm;have W:r.ah=ka ⟨V.aw,V.aO,V.Q,[]⟩ r:=(congrArg aD.ah p).symm;have K:r.aj.aR=oB ⟨V.aw,V.aO,V.Q,[]⟩ r:=(congrArg (λe:aD=>e.aj.aR) p).symm;have N:0<=r.ah->r.au≠[]:=by grind[ka]
 rw[eQ]at u;unfold tv at m;split at m;cases m
 rename_i az M;let⟨E,F,G⟩:=Nt M;have lit:∀b∈r.ai,b.ax≠5->∃a:Nat,∃c:a<Z V.Q,b.ah=a/\Z b.af=Z V.Q[a].a6/\(b.bind≠[]\/b.ax=3\/b.ax=4->0<=V.Q[a].of)/\
  (b.ax=3\/b.ax=4->0<=fx V V.Q[a] b.aj/\b.iG=fx V V.Q[a] b.aj):=by
  intro b f d;let⟨a,c,g,j,i,n⟩:=HN (u b f) d;have o:b.ah=a:=by
   have:=(congrArg Lit.ah (y b f)).symm;rw[this,iu];grind[nR]
  refine⟨a,c,o,j,i,λA=>⟨(n A).1,?_⟩⟩;have:=(congrArg Lit.iG (y b f)).symm;rw[this,iu];rw[Ak,if_pos A,g,eR,bq c];rfl
 have head:0<=r.ah->∃a:Nat,∃c:a<Z V.Q,r.ah=a/\Z r.af=Z V.Q[a].a6/\(r.aj.ax=0<->V.Q[a].of<0)/\
  (r.aj.ax=1->0<=fx V V.Q[a] r.aj.au/\r.aj.aR=fx V V.Q[a] r.aj.au)/\(r.aj.ax=3->∃e:Nat,∃l:e<Z V.aO,r.aj.aR=e/\V.aO[e].of=V.Q[a].of):=by
  intro k;have t:=N k;let⟨a,c,g,_,j,i,n,o⟩:=Eh z t;refine⟨a,c,by grind[ka],j,i,λd=>⟨n d,?_⟩,λd=>?_⟩;rw[K,oB,if_neg t,if_pos d,g,eR,bq c];rfl;let⟨e,l,H,I⟩:=o d;grind[oB]
 have s:∀{a:Nat}(c:a<Z V.Q),0<=V.Q[a].of->∃e,V.aw[V.Q[a].of.toNat]?=aa e/\dI V (a:Int)=aa e:=by
  intro a c k;have:=O _ (bn c);have l:V.Q[a].of.toNat<Z V.aw:=by omega
  refine⟨V.aw[V.Q[a].of.toNat],bq l,?_⟩;rw[uL,yS c,if_neg (by omega),bq l]
 refine⟨λb f=>⟨(q.lit b f).ax,λd=>⟨(q.lit b f).cmp d,?_⟩,λd=>?_,λd=>?_,λv=>?_⟩,F,λk=>?_,λk=>?_,λk d=>?_,λd=>?_,λk d=>?_,q.ax⟩;grind[iu,nR];let⟨a,c,g,j,_⟩:=lit b f d;grind;let⟨a,c,g,j,i,n⟩:=lit b f (by omega);let⟨e,l,w⟩:=s c (i (.inr d));grind[YT];have d:=(q.lit b f).bind v;let⟨a,c,g,j,i,n⟩:=lit b f (by omega);let⟨e,l,w⟩:=s c (i (.inl v));let⟨R,S,_⟩:=E b f v;grind[hT,uL];let⟨a,c,g,j,_⟩:=head k
 grind;let⟨a,c,g,j,i,_⟩:=head k;rw[i,g];constructor;intro B;rw[uL,yS c,if_pos B];intro t;refine xG λB=>?_;let⟨e,_,w⟩:=s c (by omega);grind;let⟨a,c,g,j,i,n,_⟩:=head k;have:¬V.Q[a].of<0:=by omega
 let⟨e,l,w⟩:=s c (by omega);grind[YT];have C:=q.aF.1 d;refine⟨C,?_⟩;have P:(r.aj.aF==[])=false:=by simpa using C
 rw[P,l4]at m;rcases G m with h|⟨b,f,t⟩;cases h
 grind;let⟨a,c,g,j,i,_,o⟩:=head k;let⟨e,l,H,I⟩:=o d;let⟨b,X,Y,ac,am⟩:=aoh h _ (bn l);grind
variable{b0:Type}{dW:K}
theorem EH{e:List K->b0->List K}(h:∀a b dW,dW∈a->dW∈e a b):∀(d:List b0){a:List K},dW∈a->dW∈d.foldl e a
 |[],_,c=>c
 |b::d,a,c=>EH h d (h a b dW c)
variable{oR:b0}
theorem EI{b:List K->b0->List K}(h:∀a oR dW,dW∈a->dW∈b a oR)(f:∀a,dW∈b a oR):∀{e:List b0}{a:List K},oR∈e->dW∈e.foldl b a
 |c::e,a,d=>by
  rw[np];rcases b6.1 d with rfl|d;grind[EH];exact EI h f d
theorem EJ{f:List K->b0->List K}{Q:K->Prop}:∀{d:List b0}{a:List K},(∀b∈d,∀a,(∀c∈a,Q c)->∀c∈f a b,Q c)->(∀c∈a,Q c)->∀c∈d.foldl f a,Q c
 |[],_,_,e=>e
 |b::d,a,h,e=>EJ (d:=d) (by grind) (h b (by simp) a e)
theorem Nu(a:List aG)(c b:aG)(h:b∈a):b∈nL a c:=by grind[nL]
theorem YW(b:List aG)(a:aG):a∈nL b a:=by grind[nL]
theorem YX(a:List aG)(c:aK)(b:aG)(h:b∈a):b∈p3 a c:=by grind[p3,Nu]
theorem aoj(a:List aG)(c:S)(b:aG)(h:b∈a):b∈wS a c:=EH Nu _ h
theorem YY(a:List aG)(r:aD)(b:aG)(h:b∈a):b∈yt a r:=EH YX _ h
theorem aok(b:bZ∈X)(c:ju∈bZ.af):ju∈fU V X:=
 EH YY _ (EI aoj (λ_=>EI Nu (λa=>YW a ju) c) b)
theorem aol{r:aD}(a:r∈V.ak)(b:bR∈jR r)(c:bR.aF=[]):bR.const∈fU V X:=
 EI YY (λ_=>EI YX (by simp_all[p3,YW]) b) a
theorem YZ{Q:aG->Prop}(b:∀a∈aP,Q a)(c:Q ju):∀a∈nL aP ju,Q a:=by
 grind[nL]
theorem Y0{Q:aG->Prop}(g:∀e∈X,∀b∈e.af,Q b)(h:∀r∈V.ak,∀c∈jR r,c.aF=[]->Q c.const):∀b∈fU V X,Q b:=by
 refine EJ (λr j d a=>EJ (λc k d a=>?_) a) (EJ (λe i d a=>EJ (λb f d a=>YZ a (g e i b f)) a) (by simp));unfold p3;split;rename_i f;exact YZ a (h r j c k f);exact a
theorem Y1:∀{c:List aD}{a:List (Int×Int)},c.foldl tf a=[]->a=[]/\∀r∈c,uo r=ad
 |[],a,h=>⟨h,by simp⟩
 |r::c,a,h=>by
  rw[np]at h;let⟨b,d⟩:=Y1 h;unfold tf at b;split at b;grind;simp at b
variable{P:Lit}
theorem Y2{r:aD}(a:P∈r.ai)(b:bR∈P.af):bR∈jR r:=by
 grind[jR]
theorem aom{r:aD}(a:bR∈r.af):bR∈jR r:=by
 grind[jR]
theorem yT(h:qU V X):(∀r∈V.ak,lS r)/\Z V.ak<=20/\Z V.ak<=12:=by
 refine⟨λr a=>⟨?_,?_,?_,λc b=>?_⟩,by have:=h.ak;omega,by have:=h.ak;omega⟩;have:=h.ai r a;omega;have d:=h.ai r a;have e:=DW Lit.af 10 r.ai (h.vn r a);omega;have:=h.GZ r a;omega;have:=h.vn r a c b;omega
theorem Cp(h:qU V X)(b:iY V):mq V:=by
 refine⟨by have:=h.ak;omega,λr a=>by have:=h.ai r a;omega,by have:=(B4 b.1).Q;omega⟩
theorem AE(h:kz V X 3000=ad):qU V X:=by
 simp_all[kz,ba,UM]
theorem AF(b:kz V X 3000=ad)(c:iY V)(n:eA V)(k:∀h∈X,dF h.af)(o:qV V=[]):q1 V (fU V X):=by
 have i:=AE b;have f:=B4 c.1;have j:∀r∈V.ak,∀d∈jR r,Sm d.const.s:=by
  intro r e d a;simp only[jR,dt,uQ,cy]at a;rcases a with a|⟨_,⟨g,b,rfl⟩,a⟩;exact YU ((f.iU r e).Aq d a);exact YU (((f.iU r e).lit g b).Aq d a)
 refine⟨⟨YV c,λg b=>?_,by grind[aoi],(Y1 o).2,by grind[aol,aom,Y2],(yT i).2.1,f.Q,λr e=>?_⟩,n,Co c,?_,(yT i).1,λr e g b d a=>j r e d (Y2 b a),λp m=>?_⟩;exact(zT (BQ (YV c g b))).1.2;grind[kz];exact Y0 (λh l q c=>(k h l).2 q c) (by grind);have:=(f.a6 p m).1;omega
theorem yU(r:iY V)(h:hR V X=ad):bE V (fU V X) X:=by
 rw[hR,eQ]at h;have d:∀a,a<Z X->mW V X a=true:=by grind
 refine⟨ajF λa c=>?_,λm e=>?_⟩;grind[mW];obtain⟨a,c,rfl⟩:=kg.1 e;have:=d a c;rw[mW,bq c]at this;simp only[ba,qZ,decide_eq_true_eq]at this;let⟨⟨n,b⟩,_⟩:=this;split at b;cases b
 rename_i t f;let⟨g,i⟩:=fH.1 f;subst i;simp only[vw,ba,beq_iff_eq]at b;let⟨⟨j,_⟩,k⟩:=b;have l:X[a].ah=(X[a].ah.toNat:Nat):=by omega
 have q:hT V X[a].ah=V.Q[X[a].ah.toNat].of:=by
  unfold hT;rw[bq g]
 refine⟨(by grind),by grind[aok],λs o=>?_,λp=>?_⟩;grind[uL,vv,eC];grind[uL,vv]
def fN(a:d):aG:=⟨2,0,a⟩
def tV(a:d):aK:=⟨a,⟨0,0,[]⟩⟩
def Nv(c:d)(e:Int)(a b:d):Lit:=⟨1,c,e,[tV a,tV b],[],[],-1,0,0⟩
def hE(c:Int)(a b:d):S:=⟨c,[fN a,fN b],-1⟩
def Nw:d:=[101,100,103,101]
def Iv:d:=[112,97,116,104]
def Cq:aD:=⟨Iv,1,[tV [88],tV [89]],⟨0,[],[],-1⟩,[Nv Nw 0 [88] [89]],0⟩
def hX:aD:=⟨Iv,1,[tV [88],tV [90]],⟨0,[],[],-1⟩,[Nv Iv 1 [88] [89],Nv Nw 0 [89] [90]],0⟩
def jr(rs:List aD):D:=⟨[],[],[⟨Nw,[2,2],[],-1,ad,2,0⟩,⟨Iv,[2,2],[],-1,ab,2,0⟩],rs⟩
def pC:D:=jr [Cq,hX]
def nT:List S:=[hE 0 [97] [98],hE 0 [98] [97]]
theorem Nx(f:e8 C)(g:vQ C)(j:xi C)(a:List S)(b:List Int)(d:q1 V aP)(e:bE V aP a)(t:Z a<=100000)(p:(lh V&&hR V a)=ad)(k:mq V)(m:Z V.ak<=12)(o:qV V=[])(n:qY V=[])(l:Sm b):
 PR C 14 [.agg (cP ab T V),eS bC cI b,eS F (cF c8) a] (eS ab (cF ab) (fD V b a)):=by
 refine afH.pr ?_;rw[eE,O];refine dA (M:=[]) ab (λu s=>?_) ?_;rw[gy,O];refine c (f.MY V a d.HE (by unfold Sm;omega) (bE.Ah d e.ok)) ?_;simp only[p,bI,O,rf];refine dH (λ_=>?_) (λh=>by cases h);refine c (Ln V (by omega) d.HF) ?_;simp only[o,aX,e2,O,eU];refine dH (λ_=>?_) (λh=>by simp at h);refine c (XC j V k m) ?_;simp only[n,aX,e2,O,eU];grind;simp only[G];refine bw ?_;rw[gy,O]
 refine aI (dW:=cW ab T F c8 V a) rfl ?_;refine aI (dW:=.aH ab (cW ab T F c8 V a) 0) rfl ?_;refine c (YP g (T:=false) (F:=T) (bC:=F) (c8:=c8) (iF:=bC) a b d e (by omega) l) ?_ (by simp[cW]);simp[Im.snap]
theorem Y3{r:aD}{c:List (aK×Int)}(h:xa V r (Z r.ai)=c)(e:xb r (Z r.ai)=[])(d:c.all (λa=>a.1.aF !=[]&&a.2==2)=ad):yJ V r:=by
 refine⟨λ_=>2,λg b=>?_⟩;rw[h,e]at b;simp only[w8,ns,sQ,cy]at b;obtain⟨a,f,rfl⟩:=b;rw[eQ]at d;have:=d a f;simp only[ba,bne_iff_ne,ne_eq,beq_iff_eq]at this;show ep (λ_=>2) a.1=a.2;grind[ep]
theorem aon{rs:List aD}:lE (eg (jr rs) []) Cq:=by
 have a:eg (jr rs) []=eg (jr []) []:=rfl;rw[a];exact⟨by decide+kernel,by decide+kernel,by decide+kernel,Y3 (c:=[(tV [88],2),(tV [89],2),(tV [88],2),(tV [89],2)]) (by decide+kernel) (by decide+kernel) (by decide+kernel),by decide+kernel⟩
theorem Y4{rs:List aD}:lE (eg (jr rs) []) hX:=by
 have a:eg (jr rs) []=eg (jr []) []:=rfl;rw[a];exact⟨by decide+kernel,by decide+kernel,by decide+kernel,Y3 (c:=[(tV [88],2),(tV [90],2),(tV [88],2),(tV [89],2),(tV [89],2),(tV [90],2)]) (by decide+kernel) (by decide+kernel) (by decide+kernel),by decide+kernel⟩
theorem Cr:iY pC:=by
 refine⟨by decide+kernel,by decide+kernel,λr a=>?_,by decide+kernel⟩;simp only[pC,jr,b6,jN,or_false]at a;rcases a with rfl|rfl;exact aon;exact Y4
theorem nj(h:Z x<=1000):Sm x:=by grind[Sm]
theorem Cs{rs:List aD}(h:rs=[Cq,hX]\/rs=[hX]):eA (jr rs):=by
 have b:∀r∈rs,pZ r:=by
  intro r b;have:r=Cq\/r=hX:=by
   rcases h with rfl|rfl<;>simp only[b6,jN,or_false]at b
   exact b;exact .inr b
  rcases this with rfl|rfl;refine⟨nj (by decide),nj (by decide),λd a=>?_⟩;simp only[Cq,b6,jN,or_false]at a;subst a;exact nj (by decide);refine⟨nj (by decide),nj (by decide),λd a=>?_⟩;simp only[hX,b6,jN,or_false]at a;rcases a with rfl|rfl<;>exact nj (by decide)
 refine⟨nj (by simp[jr]),by grind[jr],nj (by simp[jr]),by grind[jr],nj (by simp[jr]),λe c=>?_,nj (by grind[jr]),b⟩;simp only[jr,b6,jN,or_false]at c;rcases c with rfl|rfl<;>exact nj (by decide)
theorem Y5:kz pC nT 3000=true:=by decide+kernel
theorem Iw:qV pC=[]:=by decide+kernel
theorem Y8:qY pC=[]:=by decide+kernel
theorem Y9:tA pC=[[0],[1]]:=by decide+kernel
theorem NA:mq pC:=Cp (AE Y5) Cr
theorem NC:lh pC=true:=by simp only[lh,Cr,decide_true]
abbrev l3:=List aG×List Int
structure SR where
 v:AV
 e:AV
 P:aL
 s:l3
def lH(a b:l3):Prop:=¬jQ b.1 a.1<0
theorem Zb(b a c:l3)(f:lH b a)(g:lH a c):lH b c:=by
 unfold lH at*;rw[TO.aB.uw]at*;by_cases d:jQ b.1 a.1=0;rw[(TO.aB.eq _ _).1 d];exact g;by_cases e:jQ a.1 c.1=0;rw[<-(TO.aB.eq _ _).1 e];exact f;have:=TO.aB.trans b.1 a.1 c.1 (by omega) (by omega);omega
def EK(a:l3):List AV:=[eS ab cV a.1]
def EL(a:l3):List AV:=[eS ab cI a.2]
instance:Inhabited SR:=⟨⟨.aq,.aq,[],([],[])⟩⟩
open Go.Sort
variable{gF:Obj}
theorem o3.rm(i:Rm Y gE){id:Nat}(g:gE.h id=Y.h id)(f:∀a n,Y.h id=aa (a,n)->gE.w.heap[a]?=Y.w.heap[a]?)(h:o3 Y id gF):o3 gE id gF:=by
 cases gF with
 |arr r v e=>
  refine⟨h.1,?_⟩;rcases h.2 with⟨b,c⟩|⟨a,o,p,b,c,d,j,k⟩;grind;grind[trans,RL.gV]
 |mp q s vs=>
  let⟨a,e,clock,b,c,d,j,k⟩:=h;exact⟨a,e,clock,g.trans b,(f a _ b).trans c,RL.gV i d,RL.gV i j,k⟩
 |fm t=>
  let⟨a,e,clock,l,b,c,d⟩:=h;exact⟨a,e,clock,l,g.trans b,(f a _ b).trans c,d⟩
 |iH u pos=>
  let⟨a,m,b,c,d⟩:=h;exact⟨a,m,g.trans b,(f a _ b).trans c,d⟩
theorem aoJ{W:World}(b:eI.os=W.os)(c:eI.output=W.output)(d:eI.tape=W.tape)(e:W.drawn<=eI.drawn)(f:W.heap.size<=eI.heap.size)(g:∀a,a<W.heap.size->eI.heap[a]?=W.heap[a]?):∃i h,eI=grow (W.drewN i) h:=by
 refine⟨eI.drawn -W.drawn,eI.heap.extract W.heap.size eI.heap.size,?_⟩;let⟨j,n,k,l,m⟩:=W;let⟨o,p,q,r,s⟩:=eI;simp only at b c d e f g;subst b;subst c;subst d;simp only[grow,World.drewN]
 congr 1
 grind;omega
variable{eJ:Array Value}{mJ:Nat × Nat}
section
variable{enc:Nat->List Value}{k b m:Nat}{dk:Array Nat}{os:Array Go.Obj}{w:World}
theorem aoK(h:w.heap[b]?=aa (.cells eJ u mJ)):(sortWorldK enc k w b 0 m dk os).heap[b]?=aa (.cells (putCells id 0 (flatK enc k dk) eJ) u mJ):=by
 have a:b<w.heap.size:=(kZ.1 h).1;simp only[sortWorldK,grow,putRowK,putRow,mapBlock];rw[Array.getElem?_append_left (by simp_all),Array.getElem?_modify,if_pos rfl,show(Go.Sort.ahead w m).heap=w.heap from rfl,h];rfl
theorem Zh(c:U≠b)(a:U<w.heap.size):(sortWorldK enc k w b 0 m dk os).heap[U]?=w.heap[U]?:=by
 grind[sortWorldK,grow,putRowK,putRow,mapBlock,Go.Sort.ahead]
theorem Zi:w.heap.size<=(sortWorldK enc k w b 0 m dk os).heap.size:=by
 simp[sortWorldK,grow,putRowK,putRow,mapBlock,Go.Sort.ahead]
theorem Zj:cX w (sortWorldK enc k w b 0 m dk os) (λa=>a=b):=⟨rfl,rfl,⟨rfl,by show w.drawn<=w.drawn+m;omega⟩,Zi,by grind[Zh]⟩
end
abbrev KF:=Int×List aG
def mz(a b:KF):Int:=if a.1<b.1 then -1 else if b.1<a.1 then 1 else jQ a.2 b.2
def kF(a:S):KF:=(a.ah,a.af)
theorem NF(a b:S):cr a b=mz (kF a) (kF b):=rfl
theorem Zk(a:KF):mz a a=0:=by
 have:=(TO.aB.eq a.2 _).2 rfl;simp[mz,this]
theorem Zl{a b c:KF}(d:mz a b<0)(e:mz b c<0):mz a c<0:=by
 unfold mz at*;have:=TO.aB.trans a.2 b.2 c.2;grind
theorem aoL{a b c:KF}(d:¬mz b a<0)(e:¬mz c b<0):¬mz c a<0:=by
 unfold mz at*;have:=Zb ⟨a.2,[]⟩ ⟨b.2,[]⟩ ⟨c.2,[]⟩;simp only[lH]at this;grind
def yV(key:Nat->KF)(a b c:Nat):Int:=mz (key (b%a)) (key (c%a))
def kH(key:Nat->KF)(a:Nat):Array Nat:=pdq (ltOf (yV key a)) (Array.range a) 0 a (Lib.bitLen a) ad ad
theorem NG(key:Nat->KF)(c:Nat):SWO (ltOf (yV key c)):=
 ⟨(by grind[ltOf,yV,Zk]),λd e f a b=>decide_eq_true (Zl (of_decide_eq_true a) (of_decide_eq_true b)),
  λd e f a b=>decide_eq_false (aoL (of_decide_eq_false b) (of_decide_eq_false a))⟩
theorem NH(key:Nat->KF)(a:Nat):(kH key a).size=a/\(bJ (kH key a)).Perm (ay a):=by
 have h:=(pdq_sorts (ltOf (yV key a)) (NG key a) (Array.range a) 0 a (Lib.bitLen a) ad ad (tN _) (by simp) (Or.inl rfl)).1;let⟨b,_,c⟩:=h;grind[Array.size_range,kH,Array.extract_eq_self_of_le,Nat.le_of_eq,Array.range,Array.toList_range]
theorem aoM(key:Nat->KF)(a:N<z)(b:z<U):¬mz (key ((kH key U)[z]!%U)) (key ((kH key U)[N]!%U))<0:=by
 have h:=(pdq_sorts (ltOf (yV key U)) (NG key U) (Array.range U) 0 U (Lib.bitLen U) ad ad (tN _) (by simp) (Or.inl rfl)).2 N z (tN _) a b;grind[ltOf,yV,kH]
section
variable{P:Program}{G:Nat->Option (List AV)}{fs fc:Nat}{E:ar}{id gg n b:Nat}{row:Nat->List AV}{cs:Array Value}{Fs:TypeId}
def lj(cs:Array Value)(n a:Nat):List Value:=((bJ cs).drop (a%n*3)).take 3
theorem aoN(b:0<n)(a:Nat):(b9 n row)[a%n]?=aa (row (a%n)):=xl _ (CJ _ b)
theorem Ix(b:0<n)(a:Nat):a%n*3+3<=n*3:=by
 have:=CJ a b;omega
theorem Iy(b:0<n)(c:n*3<=cs.size)(a:Nat):Z (lj cs n a)=3:=by
 have:=Ix b a;grind[lj]
theorem Zm(b:0<n)(a:Nat):lj cs n a=(((bJ cs).take (n*3)).drop (a%n*3)).take 3:=by
 grind[lj,lf,Ix]
theorem NI(d:0<n)(h:∀b∈(bJ cs).take (n*3),b.oneCell'=ad)(a:Nat):∀c∈lj cs n a,c.oneCell'=true:=by grind[Zm,List.mem_of_mem_drop,List.mem_of_mem_take]
theorem Zn(d:0<n)(e:∀b∈b9 n row,Z b=3)(h:RL E (b9 n row).flatten ((bJ cs).take (n*3)))(a:Nat):RL E (row (a%n)) (lj cs n a):=by
 have c:=RL.take 3 (RL.drop (a%n*3) h);simp_all[A3,aoN,Zm]
theorem Zo(b:0<n)(d:n*3<=cs.size){a:Array Nat}(c:U<a.size*3):(flatK (lj cs n) 3 a)[U]! =cs[a[U/3]!%n*3+U%3]!:=by
 grind[get_flatK,Ix,Nat.mod_lt,Iy,lj]
end
section
variable{P:Program}{G:Nat->Option (List AV)}{fs fc:Nat}{E:ar}{id gg n b:Nat}{row:Nat->List AV}{cs:Array Value}{Fs:TypeId}{key:Nat->KF}{a:Nat->AV}
theorem aoO(gd:Good E)(am:dz G E)(L:E.H[id]?=aa (.arr gg 3 (b9 n row)))(o:0<n)(O:E.h id=aa (b,cs.size))(d0:E.w.heap[b]?=aa (.cells cs Fs (0,0)))
 (ds:RL E (b9 n row).flatten ((bJ cs).take (n*3)))(a9:∀be∈(bJ cs).take (n*3),be.oneCell'=ad)
 (a3:∀d,d<n->∀C:List Obj,(∀g,g≠id->C[g]?=E.H[g]?)->aM C .cd (.agg (row d)) (a d))(aR:∀d x,d<n->x<n->∃B,jz P G fc [a d,a x] [] (I (mz (key d) (key x))) B):
 CmpLays P fc #[] (lj cs n) 3 (yV key n) b 0 n E.w:=λy z r _ p q=>by
 have dl:=(gd.gL id _ L).1;let⟨_,aF,_⟩:=gd.dJ id b _ O;let⟨D,j⟩:=ar.sX gd (eI:=E.w) (j:=.arr (gg+1) 3 []) (e:=ae) (cX.refl _ _) L (by simp[hP]) (by simp) (λ_=>⟨by simp,.inl ⟨rfl,by simp[ar.bW]⟩⟩);have J:=am.mono D gd;generalize m:E.bW E.w id (.arr (gg+1) 3 []) ae=e at D j J;have s:e.w=E.w:=by rw[<-m]<;>rfl
 have af:∀d c i,e.h d=aa (c,i)->c≠b/\E.h d=aa (c,i):=λd c i f=>by
  rw[<-m]at f;simp only[ar.bW]at f;split at f;cases f
  rename_i a2;exact⟨λt=>a2 (gd.j0 d id c i _ f (t▸O)),f⟩
 have ac:e.S=E.S:=by rw[<-m]<;>rfl
 have bv:e.H=E.H.set id (.arr (gg+1) 3 []):=by rw[<-m]<;>rfl
 have aA:∀k c,e.S k c->c≠b:=λk c h t=>aF (t▸gd.iJ k c (ac▸h));let W:=sortWorldK (lj cs n) 3 E.w b 0 y r z;have v:=Zj (enc:=lj cs n) (k:=3) (b:=b) (m:=y) (dk:=r) (os:=z) (w:=E.w);have X:Rm e {e with w:=W,bx:=λ_=>ae}:=⟨λ_ _ h=>h,λk c h=>by
  show W.heap[c]?=e.w.heap[c]?;rw[s];exact v.block c (by have:=j.iK c (j.iJ k c h);grind) (aA k c h),c7 _,by grind[hP.refl]⟩
 have c2:∀d c i,e.h d=aa (c,i)->W.heap[c]?=e.w.heap[c]?:=λd c i f=>by
  rw[s];exact v.block c (by have:=(j.dJ d c i f).1;grind) (af d c i f).1
 have u:Good {e with w:=W,bx:=λ_=>ae}:={
  iJ:=j.iJ
  iK:=λc h=>jM (by have:=j.iK c h;rwa[s]at this) v.size
  dJ:=λd c i f=>by
   let⟨cb,cc,ce⟩:=j.dJ d c i f;grind
  j0:=j.j0
  blt:=by grind
  mN:=by grind
  gL:=λd bb h=>o3.rm X rfl (by grind) (j.gL d bb h)}
 have au:dz G {e with w:=W,bx:=λ_=>ae}:=λg Z f=>by
  have ak:=J g Z f;refine R.gV ?_ ak;exact⟨λ_ _ h=>h,λk c h=>X.heap ab c h,c7 _,λid Q _ h=>⟨Q,h,hP.refl _ _⟩⟩
 have K:∀d,R {e with w:=W,bx:=λ_=>ae} (.agg (row (d%n))) (.agg (lj cs n d).toArray):=λd=>.agg _ _ (by grind[RL.gV,RL.mono,Zn]) (NI o a9 d);have N:∀d,aM e.H .cd (.agg (row (d%n))) (a (d%n)):=λd=>a3 _ (CJ _ o) _ λg c1=>by grind
 have ah:=Pz u .cd;have ax:dz G (({e with w:=W,bx:=λ_=>ae}:ar).dZ .cd):=au.Jo (PA .cd);have a5:=aM.fz u (N p) (by decide) (K p);have a6:=aM.fz u (N q) (by decide) (K q);let⟨B,a0⟩:=aR (p%n) (q%n) (CJ _ o) (CJ _ o);have F:(({e with w:=W,bx:=λ_=>ae}:ar).dZ .cd).w=W:=rfl;have aj:∀g,(({e with w:=W,bx:=λ_=>ae}:ar).dZ .cd).bx g=none:=λ_=>rfl
 have ci:∀g,(({e with w:=W,bx:=λ_=>ae}:ar).dZ .cd).h g=none:=λ_=>rfl;have ai:(({e with w:=W,bx:=λ_=>ae}:ar).dZ .cd).H=[]:=rfl;generalize({e with w:=W,bx:=λ_=>ae}:ar).dZ .cd=Y at*;have M:=a0.2 Y [.agg (lj cs n p).toArray,.agg (lj cs n q).toArray] ah aj ai (.cons _ _ _ _ a5 (.cons _ _ _ _ a6 .nil)) ax;rw[F]at M;refine M.mono λf bm h=>?_;cases f with
 |returned bi=>
  let⟨br,a4,l,_,_,az⟩:=h;subst a4;refine⟨by cases az;rfl,?_⟩;have T:=l.os;have U:=l.output;have A:=l.tape;have V:=l.size;rw[F]at T U A V;refine aoJ T U A.1 A.2 V λc co=>?_;have:=l.heap c (by grind) (by grind) (by grind);grind
 |panicked bi=>exact h.elim
 |_=>exact h.elim
end
open Go.Shelf
theorem aoP{a:FuncId}{b:Func}(h:(Rp aU.funcs[a]?== "runtime.NumGoroutine")=ab)(c:aU.funcs[a]?=aa (adV b (Rp aU.funcs[a]?))):Bears aU a b:=⟨_,h,c⟩
def aoQ:Ren:=⟨λ|6=>32|15=>80|14=>79|28=>136|29=>137|20=>128|21=>129|22=>130|23=>131|24=>132|25=>133|26=>134|27=>135|46=>183|47=>184|48=>185|49=>186|50=>187|57=>244|n=>n,λ|22=>28|24=>38|25=>66|39=>141|53=>202|55=>204|46=>196|45=>195|50=>68|66=>239|70=>243|76=>299|77=>300|n=>n,λ|n=>n⟩
theorem Zp:SlLaysF0.n6 aU aoQ:=by
 constructor<;>first|kernel_rfl|exactλ_=>by kernel_rfl|exact aoP (by kernel_rfl) (by kernel_rfl)
theorem Zq:∀(n:Nat)(a:List K)(b:Nat->List K),Z a=n*3->(∀c,c<n->(a.drop (c*3)).take 3=b c)->a=((ay n).map b).flatten
 |0,a,b,h,_=>by
  grind
 |n+1,a,b,h,d=>by
  rw[uR,hJ,xC,<-Zq n (a.take (n*3)) b (by grind) (by grind[List.drop_take])];grind[List.flatten_cons,List.flatten_nil,List.take_of_length_le,List.length_drop,List.take_append_drop]
theorem RL.Zr{a:Nat->List AV}{g:Nat->List Value}(h:∀b,RL Y (a b) (g b)):∀n,RL Y ((ay n).map a).flatten ((ay n).map g).flatten
 |0=>.nil
 |n+1=>by
  rw[uR];simp only[hJ,xC,ej,ns,xB,List.flatten_nil,sQ];exact RL.append (RL.Zr h n) (h n)
theorem aoR{b:Array Nat}(d:0<U)(g:U*3<=eJ.size)(k:b.size=U):(bJ (putCells (λe=>e) 0 (flatK (lj eJ U) 3 b) eJ)).take (U*3)=((ay U).map λa=>lj eJ U b[a]!).flatten:=by
 have n:(putCells (λe=>e) 0 (flatK (lj eJ U) 3 b) eJ).size=eJ.size:=by simp[putCells]
 refine Zq U _ _ (by grind) λa l=>?_;rw[OP,OO,OJ (by omega)];have j:=Ix d b[a]!;refine qs ?_ λc m h=>?_;grind[Iy,List.length_take,List.length_drop,Array.length_toList];rw[Iy d g]at h;have i:a*3+c<b.size*3:=by omega
 have f:=Zo (cs:=eJ) d g i;rw[show(a*3+c)/3=a by omega,show(a*3+c)%3=c by omega]at f;rw[getElem!_pos eJ _ (by omega)]at f;simp_all[putCells,lj]
theorem Zs:C1 aU 32:=⟨Tryz.f32,Tryz.f32.body.getD .skip,Tryz.func32,by kernel_rfl,by kernel_rfl⟩
theorem aoS:∀args w,(callFunc 33 args).run aU w=.ok (.enter 33 args) w:=by simp
theorem aoT{id:Nat}{row:Nat->List AV}{key:Nat->KF}{n:Nat->AV}(j:M[id]?=aa (.arr U 3 (b9 N row)))(f:0<N)(aR:N<=1000000)
 (ac:∀a,a<N->∀v:List Obj,(∀s,s≠id->v[s]?=M[s]?)->aM v .cd (.agg (row a)) (n a))(W:∀a r,a<N->r<N->∃H,jz aU G0 33 [n a,n r] [] (I (mz (key a) (key r))) H):
 jz aU G0 32 [.q id U 0 N,.fn 33 [] []] M (.aB []) (M.set id (.arr U 3 (b9 N λa=>row ((kH key N)[a]!%N)))):=by
 refine⟨Zs,λi l gd a0 Q S P=>?_⟩;subst Q;obtain⟨k,rfl,T⟩:∃k,l=[k,.func (.func 33) #[] #[]]/\R i (.q id U 0 N) k:=by
  cases S with
  |cons _ m _ _ L c=>cases c with
   |cons _ a9 _ _ O c=>cases c with
    |nil=>cases O with
     |fn _ _ _ l vs h K=>
      cases l with
      |mk l=>cases vs with
       |mk vs=>cases h;cases K;grind
 have z:=(gd.gL id _ j).2;have ai:=(gd.gL id _ j).1;rw[yL]at z;rcases z with⟨h,-⟩|⟨d,b,x,t,E,u,aj,D⟩;grind[yL];have Y:∃cap,k=.slice (aa ⟨d,0,ae⟩) N cap:=by
  cases T with
  |q _ _ _ _ _ _ L a3 h=>grind
 obtain⟨cap,rfl⟩:=Y;let⟨V,_,_⟩:=gd.dJ id d _ t;have p:(Array.range N).size=N:=Array.size_range;have a2:=aoO (P:=aU) (G:=G0) (fc:=33) gd P j f t E aj D ac W;have B:=AnyQ.slices_SortFunc_eq Zp 3 Tryz.isAgg38 Tryz.sizeOf38 (lj b N) (Iy f u) (NI f D) (yV key N) (NG key N) 33 #[] d 0 cap (Array.range N) i.w aoS (by grind)
  (λc C=>by
   rw[size_flatK,p]at C;rw[e];have X:=Zo (a:=Array.range N) (cs:=b) f u (U:=c) (by rw[p];exact C);rw[getElem!_pos (Array.range N) (c/3) (by omega),Array.getElem_range,Nat.mod_eq_of_lt (by omega),show c/3*3+c%3=c by omega,getElem!_pos b c (by omega)]at X;grind[World.cell?,World.frozen?])
  V (by omega)
 rw[p]at B;apply B.mono;rintro J am ⟨rfl,F,G,rfl⟩;let⟨ak,_⟩:=NH key N;have A:=aoR (b:=kH key N) f u ak;have af:(putCells (λm=>m) 0 (flatK (lj b N) 3 (kH key N)) b).size=b.size:=by simp[putCells]
 have Z:(sortWorldK (lj b N) 3 i.w d 0 F (kH key N) G).heap[d]?=aa (.cells (putCells (λm=>m) 0 (flatK (lj b N) 3 (kH key N)) b) x (0,0)):=aoK E;let⟨o,g⟩:=ar.sX gd (eI:=sortWorldK (lj b N) 3 i.w d 0 F (kH key N) G) (j:=.arr U 3 (b9 N λa=>row ((kH key N)[a]!%N))) (e:=aa (d,b.size))
  ⟨rfl,rfl,Zj.tape,Zi,by grind[Zh]⟩ j (by simp[hP,t,yL]) (by grind)
  (λo=>⟨λJ y=>by
   simp only[b9,cy,iz]at y;obtain⟨a,a4,rfl⟩:=y;exact ai _ (by simp only[b9,cy,iz];exact⟨_,CJ _ f,rfl⟩),
   .inr ⟨d,_,x,by simp[ar.bW,af],Z,by grind[yL],by
    rw[yL,A];exact RL.Zr (a:=λa=>row ((kH key N)[a]!%N)) (by grind[RL.mono,Zn]) N,λa6 ah=>by
    rw[yL,A]at ah;grind[NI]⟩⟩)
 exact⟨_,rfl,o,g,rfl,.aB _ _ .nil⟩
theorem aoU{id:Nat}(r:M[id]?=aa (.arr U 3 [])):jz aU G0 32 [.q id U 0 0,.fn 33 [] []] M (.aB []) M:=by
 refine⟨Zs,λa c gd o j k n=>?_⟩;subst j;obtain⟨b,rfl,l⟩:∃b,c=[b,.func (.func 33) #[] #[]]/\R a (.q id U 0 0) b:=by
  cases k with
  |cons _ t _ _ f e=>cases e with
   |cons _ u _ _ i e=>cases e with
    |nil=>cases i with
     |fn _ _ _ c vs h g=>
      cases c with
      |mk c=>cases vs with
       |mk vs=>cases h;cases g;exact⟨_,rfl,f⟩
 obtain⟨d,cap,rfl⟩:∃d cap,b=.slice d 0 cap:=by
  cases l with
  |q _ _ _ _ _ _ f p h=>grind
 apply(AnyF.slices_SortFunc_none Zp d cap (.func (.func 33) #[] #[]) a.w).mono;rintro m s ⟨rfl,rfl⟩;exact⟨a,rfl,Fr.refl a,gd,rfl,.aB _ _ .nil⟩
theorem NJ(a d:S)(f:dF a.af):PR C 33 [.agg (cF T a),.agg (cF F d)] (I (cr a d)):=by
 apply Tp.pr;simp only[pX,O,bh,aJ,oc,s7,e];apply c (zK a.ah d.ah);simp only[cv,O];refine b (λh=>?_) (λh=>?_);have:fE a.ah d.ah=cr a d:=by
  have:fE a.ah d.ah≠0:=by simpa using h
  unfold fE at this⊢;unfold cr;grind
 simp_all;refine c (KX a.af d.af f) ?_;have:jQ a.af d.af=cr a d:=by
  have:fE a.ah d.ah=0:=by simpa using h
  unfold fE at this;unfold cr;grind
 simp_all
theorem NK(c:List Int)(e:Int)(k:Sm c):PR C 11 [eS T cI c,I e] (.bool (c.contains e)):=by
 refine aeK.pr ?_;refine eB (U:=Z c) (c:=λd=>[ff,I d]) (λd=>(c.take d).contains e=ab) (by simp) rfl (λd f l g j=>?_) (λl g=>?_);simp only[i,G,aX,A,O,a,f,decide_true];refine a8 ?_;simp only[aE f (jh _),O,aJ,lN,c6];refine b (λh=>?_) (λh=>?_);have:c.contains e=true:=by
  have h:c[d]=e:=by simpa using h
  rw[O1,<-h];exact bn f
 rw[this];exact .bool _ _;have n:Z c<=1099511627776:=by unfold Sm at k;omega
 rw[aZ,O];refine j ?_;have h:¬c[d]=e:=by simpa using h
 rw[iy f];grind;simp only[i,G,aX,A,O,a,cn,decide_false];refine bw ?_;simp_all
theorem Zt(b:S)(a:List Int)(d:Sm a):PR C 27 [.agg (cF T b),.aH F [eS bC cI a] 0] (.bool (a.contains b.ah)):=by
 apply RW.pr rfl;simp only[cK,hZ];simp only[pX,O,bh,aJ,oc,e];apply aI (dW:=eS bC cI a) rfl;apply c (T5 a b.ah d);simp
theorem Zu(b:S)(a:List Int)(e:Sm a):PR C 31 [.agg (cF T b),.aH F [.fn 27 [] [.aH bC [eS c8 cI a] 0]] 0] (.bool (!a.contains b.ah)):=by
 apply Rv.pr rfl;simp only[cK,hZ];simp only[pX,O];refine aI (dW:=.fn 27 [] [.aH bC [eS c8 cI a] 0]) rfl ?_;simp only[ku,O];refine aY (dW:=27) (oR:=[.agg (cF T b),.aH bC [eS c8 cI a] 0]) rfl ?_;apply c (Zt b a e);simp
def Ct(a b:S):Bool:=cr a b==0&&a.aj==b.aj
theorem aoV(a b:S)(d:dF a.af):PR C 37 [.agg (cF T a),.agg (cF F b)] (.bool (Ct a b)):=by
 apply Tq.pr;simp only[pX,O,bz,ku];apply c (NJ a b d);simp only[c6,O];refine aV (λh=>?_) (by simp_all[Ct]);simp only[bh,aJ,s8,O,e,c6];simp_all[Ct]
def pD(c:D)(b d e:Int):Prop:=∀a,dI c b=aa a->dB a d.toNat e.toNat=ad
theorem pD.refl:pD V f ca ca:=λa _=>VM a _
def tL(b:D)(gs:List S)(a:S):Prop:=∃g∈gs,g.ah=a.ah/\g.af=a.af/\pD b a.ah a.aj g.aj
def vR(c:D)(a:S):Prop:=∃b,dI c a.ah=aa b/\a.aj=eD b []
def nm(b:D)(gs:List S)(a:S):Prop:=vR b a\/tL b gs a
def ei(c:D)(b gs:List S):Prop:=∀a∈b,tL c gs a
theorem ei.refl:ei V X X:=λa b=>⟨a,b,rfl,rfl,.refl⟩
variable{rk:Int}
theorem pD.trans{c:Int}(g:∀a,dI V f=aa a->eC a rk=ad)(h:pD V f ca rk)(d:pD V f rk c):pD V f ca c:=λa b=>by
 obtain⟨i,rfl,e⟩:=mo (g a b);exact LO e (h a b) (d a b)
theorem tL.trans{gs:List S}(f:∀g∈gs,gw V g)(h:tL V gs bZ)(b:ei V gs X):tL V X bZ:=by
 let⟨g,a,c,d,e⟩:=h;let⟨i,w1,l,k,n⟩:=b g a;refine⟨i,w1,l.trans c,k.trans d,e.trans (λj m=>f g a j (by grind)) ?_⟩;grind
variable{gG:List S}
theorem ei.trans{gs:List S}(d:∀g∈gs,gw V g)(h:ei V X gs)(b:ei V gs gG):ei V X gG:=λa c=>(h a c).trans d b
theorem aoX(h:eY dS=0)(a:eC dS f=ad)(i:dB dS f.toNat (eD dS []).toNat=ad):f=eD dS []:=by
 let⟨j,c,d,e⟩:=VO h;obtain⟨b,rfl,g⟩:=mo a;grind[Hw]
theorem vR.down(f:lV V){g:S}(e:gw V bZ)(i:g.ah=bZ.ah)(h:pD V bZ.ah bZ.aj g.aj)(d:vR V g):vR V bZ:=by
 let⟨b,a,c⟩:=d;rw[i]at a;refine⟨b,a,aoX (f b (vz a)) (e b a) ?_⟩;rw[<-c];exact h b a
theorem nm.down(b:lV V){g:S}(e:gw V bZ)(f:gw V g)(c:g.ah=bZ.ah)(d:g.af=bZ.af)(h:pD V bZ.ah bZ.aj g.aj)(a:nm V X g):nm V X bZ:=by
 rcases a with a|⟨i,w1,l,k,m⟩;exact .inl (a.down b e c h);refine .inr ⟨i,w1,l.trans c,k.trans d,h.trans (λj b=>f j (by grind)) ?_⟩;grind
theorem nm.trans{gs:List S}(b:∀g∈gs,gw V g)(h:nm V gs bZ)(a:ei V gs X):nm V X bZ:=
 h.imp id λh=>h.trans b a
theorem NL(h:eY dS=0)(u:eC dS f=ad)(a:eC dS ca=ad):
 eC dS (eD dS [f,ca])=ad/\dB dS f.toNat (eD dS [f,ca]).toNat=ad/\dB dS ca.toNat (eD dS [f,ca]).toNat=ad/\
 ∀b,eC dS b=ad->dB dS f.toNat b.toNat=ad->dB dS ca.toNat b.toNat=ad->dB dS (eD dS [f,ca]).toNat b.toNat=true:=by
 obtain⟨l,rfl,i⟩:=mo u;obtain⟨m,rfl,j⟩:=mo a;let⟨k,g,p,q,r⟩:=VN h i j;rw[g];refine⟨BY p,q,r,λb v s t=>?_⟩;obtain⟨x,rfl,w⟩:=mo v;have a:0<=qW (Z dS.az) (dB dS) λc=>y ((c:Int)∈[(l:Int),(m:Int)]):=by
  have d:=LP h i j;unfold mn at d;simp only[Jb,decide_eq_false_iff_not,aa1]at d;exact d.2
 let⟨c,n,_,_,o⟩:=LQ a;have e:(k:Int)=c:=by
  rw[<-g,<-n];simp_all[eD,BY]
 have e:k=c:=by omega
 subst e;refine o x w λca _ a=>?_;have a:ca=l\/ca=m:=by simp at a;omega
 rcases a with rfl|rfl;exact s;exact t
theorem Iz(c:D)(b:List S)(a:S):
 (vR c a/\db c b a=b)\/(¬vR c a/\(
  (∃i,∃h:i<Z b,b[i].ah=a.ah/\b[i].af=a.af/\(dI c a.ah=ae/\db c b a=b\/∃l,dI c a.ah=aa l/\db c b a=b.set i ⟨b[i].ah,b[i].af,eD l [b[i].aj,a.aj]⟩))\/
  ((∀d∈b,¬(d.ah=a.ah/\d.af=a.af))/\db c b a=jI b a))):=by
 have n:∀d:S,eL a.ah a.af d=ad<->d.ah=a.ah/\d.af=a.af:=by simp[eL]
 have o:b.findIdx? (eL a.ah a.af)=ae->∀d∈b,¬(d.ah=a.ah/\d.af=a.af):=λh d p m=>by
  grind
 have q:∀i,b.findIdx? (eL a.ah a.af)=aa i->∃h:i<Z b,b[i].ah=a.ah/\b[i].af=a.af:=λi h=>by
  grind[List.findIdx?_eq_some_iff_getElem]
 unfold db;rcases f:dI c a.ah with _|l;have e:¬vR c a:=by rintro⟨l,h,-⟩;rw[f]at h;cases h
 refine .inr ⟨e,?_⟩;rcases k:b.findIdx? (eL a.ah a.af)with _|i;grind;grind;by_cases e:a.aj=eD l [];exact .inl ⟨⟨l,f,e⟩,by simp[e]⟩;have j:¬vR c a:=by
  rintro⟨r,h,g⟩;rw[f]at h;cases h;exact e g
 grind
theorem aoY(j:lV V)(p:∀e∈X,gw V e)(o:gw V bZ):ei V X (db V X bZ)/\nm V (db V X bZ) bZ:=by
 rcases Iz V X bZ with⟨i,a⟩|⟨i,⟨k,c,a,b,⟨f,g⟩|⟨d,f,g⟩⟩|⟨a,b⟩⟩;rw[a];exact⟨.refl,.inl i⟩;rw[g];refine⟨.refl,.inr ⟨X[k],bn c,a,b,λd j=>?_⟩⟩;simp_all;rw[g];have n:=p _ (bn c) d (by grind);let⟨s,u,t,_⟩:=NL (j d (vz f)) n (o d f);refine⟨λe h=>?_,.inr ⟨_,asd c _,a,b,λr q=>?_⟩⟩;obtain⟨l,v,rfl⟩:=kg.1 h;by_cases m:k=l;subst m;refine⟨_,asd c _,rfl,rfl,λr q=>?_⟩;grind;refine⟨X[l],?_,rfl,rfl,.refl⟩
 grind[List.mem_iff_getElem,List.getElem_set_ne];grind;rw[b];exact⟨λe h=>⟨e,zZ.2 (.inr h),rfl,rfl,.refl⟩,.inr ⟨bZ,zZ.2 (.inl rfl),rfl,rfl,.refl⟩⟩
theorem aoZ(z:lV V){Q:Int->Prop}{gs:List S}(v:gj gs)(x:∀a∈X,gw V a)(y:∀a∈gs,gw V a)(w:gw V bZ)(h:∀a∈X,Q a.ah->tL V gs a)(n:Q bZ.ah->nm V gs bZ):∀a∈db V X bZ,Q a.ah->tL V gs a:=by
 rcases Iz V X bZ with⟨j,f⟩|⟨j,⟨A,o,f,k,⟨d,m⟩|⟨c,d,m⟩⟩|⟨f,k⟩⟩;grind;grind;rw[m];intro a e b;rcases OX e with e|rfl;grind;have b:=b;let⟨g,s,E,t,u⟩:=(n (f▸b)).resolve_left j;let⟨l,w1,C,p,B⟩:=h X[A] (bn o) b;have q:=yC v l w1 g s (by omega) (by rw[p,t,k]);subst q;refine⟨l,w1,C,p,λF i=>?_⟩;have i:=i;rw[f,d]at i;cases i;have r:=x _ (bn o) c (by omega)
 exact(NL (z c (vz d)) r (w c d)).2.2.2 _ (y l w1 c (by grind)) (B c (by omega)) (u c d);rw[k];intro a e b;rcases zZ.1 e with rfl|e;exact(n b).resolve_left j;grind
theorem AG(d:lV V):∀(bs:List S){a:List S},(∀e∈a,gw V e)->(∀e∈bs,gw V e)->ei V a (df V a bs)/\∀f∈bs,nm V (df V a bs) f
 |[],a,_,_=>⟨.refl,by simp⟩
 |b::bs,a,h,i=>by
  have c:=(z7 d h (i b (by simp))).2;let⟨k,l⟩:=aoY d h (i b (by simp));let⟨g,m⟩:=AG d bs c (by grind);have j:df V a (b::bs)=df V (db V a b) bs:=rfl;rw[j];refine⟨k.trans c g,λf hf=>?_⟩;rcases b6.1 hf with rfl|hf;exact l.trans c g;grind
theorem IA(g:lV V){Q:Int->Prop}{gs:List S}(e:gj gs)(f:∀a∈gs,gw V a):∀(bs:List S){c:List S},(∀a∈c,gw V a)->(∀a∈bs,gw V a)->(∀a∈c,Q a.ah->tL V gs a)->(∀d∈bs,Q d.ah->nm V gs d)->∀a∈df V c bs,Q a.ah->tL V gs a
 |[],c,_,_,h,_=>h
 |b::bs,c,h,k,i,j=>IA g e f bs (by grind[z7]) (by grind)
  (aoZ g e h f (k b (by simp)) i (j b (by simp))) (by grind)
theorem IB(k:lV V){gs:List S}(f:gj gs)(j:∀a∈gs,gw V a)(bs:List S)(h:∀a∈X,gw V a)(g:∀a∈bs,gw V a)(d:ei V X gs)(e:∀b∈bs,nm V gs b):ei V (df V X bs) gs:=
 λa c=>IA (Q:=λ_=>True) k f j bs h g (λa c _=>d a c) (λb i _=>e b i) a c trivial
def q6(f:D)(e:Int)(a b:bc):Prop:=b.aA=a.aA/\b.bH=a.bH/\b.aw=a.aw/\∃c:List (Int×Int),a.az=c.map Prod.fst/\b.az=c.map Prod.snd/\∀d∈c,pD f e d.1 d.2
variable{fI:bc}
theorem NM(b:fI.aA=H.aA)(c:fI.bH=H.bH)(a:aK):cD fI a=cD H a:=by
 grind[cD]
theorem Zv(b:fI.aA=H.aA)(c:fI.bH=H.bH)(a:List aK):j7 fI a=j7 H a:=by
 grind[j7,NM]
theorem Zw(h:q6 V f H fI)(a:aK)(b:aG):q6 V f (gO H a b) (gO fI a b):=by
 let⟨c,d,e,g⟩:=h;exact⟨by simp[gO,c],by simp[gO,d],by simp[gO,e],g⟩
theorem NN{i:D}{g:Int}:∀(b:List aK)(vs:List aG){d c e:bc},q6 i g d c->gP d b vs=aa e->∃j,gP c b vs=aa j/\q6 i g e j
 |[],vs,d,c,e,h,a=>by
  simp only[gP,e7]at a⊢;subst a;exact⟨c,rfl,h⟩
 |t::b,[],d,c,e,h,a=>by simp[gP]at a
 |t::b,l::vs,d,c,e,h,a=>by
  rw[gP]at a;rw[gP,NM h.1 h.2.1];split at a;rename_i f;rw[if_pos f];split at a;rename_i k;rw[if_pos k];exact NN b vs h a;cases a
  rename_i f;rw[if_neg f];exact NN b vs (Zw h t l) a
theorem ao0(h:q6 V f H fI)(a:Lit)(l:a.bind≠[]->pD V f ca rk):q6 V f (kC H a ca) (kC fI a rk):=by
 unfold kC;split;exact h;rename_i k;let⟨b,c,d,i,e,g,j⟩:=h;refine⟨b,c,by simp[d],i++[(ca,rk)],by simp[e],by simp[g],?_⟩;grind
theorem ao1(h:q6 V f H fI)(a:Lit):q6 V f (kQ H a) (kQ fI a):=by
 unfold kQ;split;rename_i b c _;simp only[NM h.1 h.2.1];grind[Zw];exact h
def gY(b:Int)(c gs:List S):Prop:=c.filter (λa=>a.ah==b)=gs.filter (λa=>a.ah==b)
theorem gY.find{gs:List S}(h:gY f X gs)(args:List aG):X.find? (eL f args)=gs.find? (eL f args):=by
 have key:∀a:List S,a.find? (eL f args)=(a.filter λb=>b.ah==f).find? (eL f args):=by
  intro a;rw[List.find?_filter]
  congr 1
  funext b
  unfold eL;grind
 rw[key X,key gs,h]
theorem ao2{c:Int}(h:sr V f ca rk=ad)(j:∀b,dI V f=aa b->eC b c=ad)(d:pD V f rk c)(e:dI V f≠ae):sr V f ca c=true:=by
 let⟨b,a⟩:=Option.ne_none_iff_exists'.1 e;have k:=d b a;have l:=j b a;unfold sr at h⊢;unfold dI at a;rcases i:V.Q[f.toNat]? with _|q;grind;rw[i]at h a;simp only at h a⊢;by_cases g:q.of<0;simp_all;rw[if_neg g]at a;rw[a]at h⊢;simp only[vr,ba,beq_iff_eq]at h⊢;obtain⟨n,rfl,m⟩:=mo h.1.2;grind[LO]
theorem ao3{r:aD}(l:D6 V r P){gs:List S}(u:∀g∈gs,gw V g)(v:ei V X gs)(k:jG P=ad->gY P.ah X gs){o:bc}(h:q6 V r.ah H fI)(b:o∈gk V X H P):
 ∃B∈gk V gs fI P,q6 V r.ah o B:=by
 unfold gk at b⊢;by_cases c:(P.ax==1||P.ax==3)=ad;rw[if_pos c]at b⊢;let⟨p,e,b⟩:=xE.1 b;let⟨e,a⟩:=l5.1 e;let⟨g,j,q,C,s⟩:=v p e;unfold q0 at b;obtain⟨w,y,rfl⟩:=dq.1 b;let⟨A,F,d⟩:=NN _ _ h y;unfold j8 at a;simp only[ba,beq_iff_eq,h5,bne_iff_ne,ne_eq]at a;refine⟨kC A P g.aj,xE.2 ⟨g,l5.2 ⟨j,?_⟩,?_⟩,ao0 d P λt=>?_⟩;unfold j8;simp only[ba,beq_iff_eq,h5,bne_iff_ne,ne_eq];refine⟨q.trans a.1,?_⟩
 by_cases m:P.ax=3;let⟨z,E,_⟩:=l.iG (.inl m);refine .inr (ao2 (a.2.resolve_left λh=>h m) (λf x=>u g j f (by grind)) ?_ (by grind));grind;omega;grind[q0];let⟨_,_,z,G,I⟩:=l.bind t;intro f x;apply s f;grind;rw[if_neg c]at b⊢;split at b;rename_i a;have d:=ao1 h P;simp only[l6]at b;subst b;refine⟨kQ fI P,?_,d⟩;rw[if_pos];simp;simp only[h5,beq_iff_eq,not_or]at c;unfold ss at a⊢;rw[Zv d.1 d.2.1]
 rw[if_neg c.1]at a⊢;by_cases i:P.ax=2;rw[if_pos i]at a⊢;rw[<-(k (by simp[jG,i])).find];exact a;rw[if_neg i]at a⊢;by_cases n:(P.ax==3||P.ax==4)=ad;rw[if_pos n]at a⊢;have J:P.ax=4:=by simpa[c.2]using n
 unfold yy at a⊢;rw[<-(k (by grind[jG])).find];exact a;grind;cases b
theorem NO{c:D}{r:aD}{l gs:List S}(m:∀g∈gs,gw c g)(n:ei c l gs){f:List Lit}(p:∀b∈f,D6 c r b)(o:∀b∈f,jG b=ad->gY b.ah l gs):
 ∀(d:List Nat){j e k:bc},q6 c r.ah j e->k∈kR c l f d j->∃s∈kR c gs f d e,q6 c r.ah k s
 |[],j,e,k,h,a=>by
  simp only[kR,l6]at a⊢;subst a;exact⟨e,rfl,h⟩
 |i::d,j,e,k,h,a=>by
  rw[kR]at a⊢;split at a;rename_i b t;have q:=qp t;let⟨w,v,a⟩:=aa5.1 a;let⟨A,y,u⟩:=ao3 (p b q) m n (o b q) h v;let⟨s,z,x⟩:=NO m n p o d u a;grind;exact NO m n p o d h a
def uM(a:D):Prop:=∀r∈a.ak,0<=r.ah->r.aj.ax=3->∀c,dI a r.ah=aa c->∀b,a.aO[r.aj.aR.toNat]?=aa b->ot c b.gU=ad
theorem Zx(h:q6 V f H fI)(a:d):pD V f (jT H a) (jT fI a):=by
 let⟨_,_,b,i,c,e,j⟩:=h;unfold jT;rw[b,c,e];split;rename_i g _;simp only[oK,sN];rcases k:i[g]? with _|u;exact .refl;grind;exact .refl
theorem ao4{r:aD}(m:uM V)(n:r∈V.ak)(o:Ad V r)(e:0<=r.ah)(h:q6 V r.ah H fI)(j:r.aj.ax=3->∀a,dI V r.ah=aa a->eC a (jT H r.aj.aF)=ad/\eC a (jT fI r.aj.aF)=ad):
 (kP V r fI).ah=(kP V r H).ah/\(kP V r fI).af=(kP V r H).af/\pD V (kP V r H).ah (kP V r H).aj (kP V r fI).aj:=by
 refine⟨rfl,Zv h.1 h.2.1 _,?_⟩;show pD V r.ah (su V r H) (su V r fI);unfold su;split;exact .refl;split;exact Zx h _;split;rename_i b;intro a c;let⟨d,y,i,z,v,w,x⟩:=o.fn e b;have f:=m r n e b a c V.aO[d] (by grind);let⟨p,q⟩:=j b a c;have l:=Zx h r.aj.aF a c;let⟨s,g,t⟩:=mo p;let⟨u,v1,v2⟩:=mo q;have k:V.aO[r.aj.aR.toNat]?=aa V.aO[d]:=by rw[i];simp
 rw[k,g,v1];rw[g,v1]at l;simp only[ot,ba,eQ,iz,h5,hv]at f;exact(f.2 s t u v2).resolve_left (by simp_all);exact .refl
theorem Zy(c:fb V aP)(u:uM V){gs:List S}(l:bE V aP X)(f:bE V aP gs)(t:ei V X gs){r:aD}(b:r∈V.ak)(q:0<=r.ah)(v:∀n∈r.ai,jG n=ad->gY n.ah X gs):
 ∀a∈lD V X r,∃g∈lD V gs r,g.ah=a.ah/\g.af=a.af/\pD V a.ah a.aj g.aj:=by
 intro a s;obtain⟨p,e,rfl⟩:=cy.1 s;have d:=c.iU r b;have i:=c.safe r b;have v1:=D7 d i (l.meet c b) (λa h=>(l.ok a h).aj) p e;simp only[uo,ba]at i;let⟨x,m⟩:=sK.1 i.1.1;rw[D5 m]at e;let⟨k,j,w⟩:=NO (λg h=>(f.ok g h).aj) t d.lits v x ⟨rfl,rfl,rfl,[],rfl,rfl,by simp⟩ e;rw[<-D5 m]at j;have v2:=D7 d (c.safe r b) (f.meet c b) (λa h=>(f.ok a h).aj) k j
 refine⟨kP V r k,cy.2 ⟨k,j,rfl⟩,ao4 u b d q w λo E C=>?_⟩;let⟨F,y,A⟩:=v1.az _ (D8 v1.Ae (v1.aw (.inr o)));let⟨G,z,B⟩:=v2.az _ (D8 v2.Ae (v2.aw (.inr o)));grind
variable{ct:List Int}
theorem yW{r:aD}(h:iq ct r=ad):0<=r.ah:=by
 grind[iq]
theorem IC{Q:List S->Prop}(b:Q [])(h:∀r∈V.ak,iq ct r=ad->∀out,Q out->Q (df V out (lD V X r))):Q (fD V ct X):=by
 have key:∀(a:List aD)(_:∀r∈a,r∈V.ak){out:List S},Q out->Q (a.foldl (kD V ct X) out):=by
  intro a;induction a with
  |nil=>grind
  |cons r a c=>
   grind[kD]
 exact key V.ak (λ_ h=>h) b
theorem Cu{d:Int->List aG->Prop}:∀(bs:List S){c:List S},(∀a∈c,d a.ah a.af)->(∀a∈bs,d a.ah a.af)->∀a∈df V c bs,d a.ah a.af
 |[],_,h,_=>h
 |b::bs,c,h,e=>Cu bs (c:=db V c b) (Hv h (e b (by simp))) (by grind)
theorem ID{b:Int->List aG->Prop}(h:∀r∈V.ak,iq ct r=ad->∀a∈lD V X r,b a.ah a.af):∀a∈fD V ct X,b a.ah a.af:=
 IC (Q:=λout=>∀a∈out,b a.ah a.af) (by simp) λr e c _ d=>Cu _ d (h r e c)
theorem Zz(f:fb V aP)(g:bE V aP X):∀(d:List aD)(_:∀r∈d,r∈V.ak){out:List S},bE V aP out->
 ei V out (d.foldl (kD V ct X) out)/\∀r∈d,iq ct r=ad->∀e∈lD V X r,nm V (d.foldl (kD V ct X) out) e
 |[],_,out,_=>⟨.refl,by simp⟩
 |r::d,q,out,l=>by
  have n:=q r (by simp);have m:=(HC f g ct [r] (by simpa using n) l).1;obtain⟨i,s⟩:=Zz f g d (by grind) m;rw[np];have k:∀b∈kD V ct X out r,gw V b:=λb a=>(m.ok b a).aj;have j:ei V out (kD V ct X out r)/\(iq ct r=ad->∀e∈lD V X r,nm V (kD V ct X out r) e):=by
   unfold kD;split;rename_i c;have o:0<=r.ah:=by
    simp only[iq,ba,decide_eq_true_eq]at c;exact c.1
   have:=AG f.aN (lD V X r) (λb a=>(l.ok b a).aj) (λb a=>(uy f g n o b a).aj);grind;rename_i c;exact⟨.refl,λh=>absurd h c⟩
  refine⟨j.1.trans k i,λb a c e p=>?_⟩;rcases b6.1 a with rfl|a;exact(j.2 c e p).trans k i;grind
theorem ZA(e:fb V aP){gs:List S}(c:bE V aP X)(g:bE V aP gs)(h:∀r∈V.ak,iq ct r=ad->∀f∈lD V X r,nm V gs f):ei V (fD V ct X) gs:=
 (IC (Q:=λout=>bE V aP out/\ei V out gs) ⟨.nil V aP,by intro f c;cases c⟩ λr k j out d=>by
  have i:=uy e c k (yW j);exact⟨w5 e.aN _ d.1 i,IB e.aN g.de (λb a=>(g.ok b a).aj) _ (λb a=>(d.1.ok b a).aj) (λb a=>(i b a).aj) d.2 (h r k j)⟩).2
theorem NP(c:fb V aP)(b:bE V aP X):∀r∈V.ak,iq ct r=ad->∀a∈lD V X r,nm V (fD V ct X) a:=
 (Zz c b V.ak (λ_ h=>h) (.nil V aP)).2
theorem NQ(a:fb V aP)(p:uM V){gs:List S}(e:bE V aP X)(c:bE V aP gs)(o:ei V X gs)(q:∀r∈V.ak,iq ct r=ad->∀k∈r.ai,jG k=ad->gY k.ah X gs):ei V (fD V ct X) (fD V ct gs):=by
 have s:=(oA a c ct).1;refine ZA a e s λr b f h j=>?_;have d:=yW f;let⟨g,i,l,m,n⟩:=Zy a p e c o b d (q r b f) h j;exact(NP a c r b f g i).down a.aN (uy a e b d h j).aj (uy a c b d g i).aj l m n
def vS(c:D)(b:List S):Prop:=∀a∈b,¬vR c a
theorem ao5(l:lV V)(p:∀b∈X,gw V b)(o:gw V bZ)(h:vS V X):vS V (db V X bZ):=by
 rcases Iz V X bZ with⟨f,g⟩|⟨f,⟨c,k,g,i,⟨e,j⟩|⟨d,e,j⟩⟩|⟨g,i⟩⟩;grind;simp_all;rw[j];intro b a;rcases OX a with a|rfl;exact h b a;have m:=p _ (bn k) d (by grind);let⟨_,q,_,_⟩:=NL (l d (vz e)) m (o d e);intro n;refine h X[c] (bn k) (vR.down (g:=⟨X[c].ah,X[c].af,eD d [X[c].aj,bZ.aj]⟩) l (by grind) rfl (λs r=>?_) n);grind;rw[i];intro b a;rcases zZ.1 a with rfl|a;exact f;exact h b a
theorem Cv(d:lV V):∀(bs:List S){a:List S},(∀c∈a,gw V c)->(∀c∈bs,gw V c)->vS V a->vS V (df V a bs)
 |[],_,_,_,h=>h
 |b::bs,a,h,e,f=>Cv d bs (by grind[z7]) (by grind) (by grind[ao5])
theorem ao6{gs:List S}(b:gj X)(h:ei V X gs)(c:Int):jq X c<=jq gs c:=by
 have f:((X.filter λa=>a.ah==c).map S.af).Nodup:=by
  rw[aa4,aa9];refine avO (λ{j q} d e i o=>i ?_) ((BZ b).filter _);have d:=l5.1 d;have e:=l5.1 e;exact(by grind[yC])
 have n:=Ab f (a:=(gs.filter λa=>a.ah==c).map S.af) λj d=>by
  obtain⟨a,b,rfl⟩:=cy.1 d;have b:=l5.1 b;let⟨g,k,l,m,_⟩:=h a b.1;grind
 simp_all[jq]
theorem ZB{gs:List S}(d:gj X)(h:ei V X gs)(e:iP gs=ab):iP X=false:=by
 unfold iP;rw[<-vY,Jd];rintro⟨b,a,c⟩;have a:b<Z X:=by simpa using a
 rw[w3,bq a]at c;simp only[decide_eq_true_eq]at c;have f:=VR e X[b].ah;have g:=ao6 d h X[b].ah;grind[jq,List.Sublist.length_le,List.take_sublist]
theorem IE{d:D}:∀(bs:List S){c:List S},(∀a∈bs,a.ah≠f)->gY f (df d c bs) c
 |[],_,_=>rfl
 |b::bs,c,h=>by
  have k:=IE (d:=d) bs (c:=db d c b) λa o=>h a (by simp[o]);have n:=h b (by simp);apply k.trans;rcases Iz d c b with⟨-,g⟩|⟨-,⟨e,p,g,l,⟨m,i⟩|⟨r,m,i⟩⟩|⟨-,l⟩⟩;rw[g];rw[i]
  ·rw[i]
   have j:¬(c[e].ah==f)=true:=by rw[g];simpa using n
   have q:c.filter (λa=>a.ah==f)=(c.take e).filter (λa=>a.ah==f)++(c.drop (e+1)).filter (λa=>a.ah==f):=by
    conv=>lhs;rw[<-vV e c,oI p,y7,ase (p:=λa:S=>a.ah==f) j]
   simp_all[aa8,if_pos,y7,ase,eD]
  grind[jH,List.take_append_drop,jI,List.filter_cons_of_neg]
theorem NR:∀a∈fD V ct X,a.ah∈ct:=
 ID (b:=λc _=>c∈ct) λr _ b a d=>by
  obtain⟨f,-,rfl⟩:=cy.1 d;simp only[iq,ba,O1]at b;exact b.2
def yX(d:D)(b:List Int)(c gs:List S):Prop:=∀r∈d.ak,iq b r=ad->∀a∈r.ai,jG a=ad->a.ah∉b/\gY a.ah c gs
theorem NS(h:f∉ct):gY f (ir V ct X) X:=
 IE _ (by grind[NR])
theorem yX.next{gs:List S}(h:yX V ct X gs):yX V ct (ir V ct X) gs:=λr d b e c a=>
 ⟨(h r d b e c a).1,(NS (h r d b e c a).1).trans (h r d b e c a).2⟩
theorem ZC(a:fb V aP)(q:uM V){gs:List S}(c:bE V aP X)(d:bE V aP gs)(l:ei V X gs)(s:yX V ct X gs)(b:∀r∈V.ak,iq ct r=ad->∀h∈lD V gs r,nm V gs h):ei V (ir V ct X) gs:=by
 have t:=(oA a c ct).1;refine IB a.aN d.de (λf b=>(d.ok f b).aj) _ (λf b=>(c.ok f b).aj) (λf b=>(t.ok f b).aj) l λh o=>.inr ?_;refine ZA a c d (λr e j g k=>?_) h o;have i:=yW j;let⟨m,w1,x,v,w⟩:=Zy a q c d l e i (λu p n=>(s r e j u p n).2) g k;exact(b r e j m w1).down a.aN (uy a c e i g k).aj (uy a d e i m w1).aj x v w
theorem NT(b:fb V aP)(j:uM V){r:Option (List S)}(h:qb V ct U X r){gs:List S}(a:bE V aP X)(g:bE V aP gs)(i:ei V X gs)(k:iP gs=ab)(c:yX V ct X gs)(l:∀r∈V.ak,iq ct r=ad->∀e∈lD V gs r,nm V gs e):
 ∃out,r=aa out/\ei V out gs:=by
 induction h with
 |over U X h=>
  have f:=ZC b j a g i c l;rw[ZB (Af b a ct).1.de f k]at h;cases h
 |stop U X h d=>grind
 |next U X r h d n m=>exact m (Af b a ct).1 (by grind[ZC]) c.next
theorem EM(e:fb V aP){r:Option (List S)}(h:qb V ct U X r)(c:bE V aP X):∀gs,r=aa gs->bE V aP gs/\ei V X gs/\iP gs=ab/\ir V ct gs=gs:=by
 induction h with
 |over U X h=>grind
 |stop U X h f=>
  intro gs d;cases d
  exact⟨c,.refl,by grind,f⟩
 |next U X r h f o n=>
  intro gs d;have g:=(Af e c ct).1;let⟨i,j,k⟩:=n g gs d;have m:=(oA e c ct).1;have l:=(AG e.aN (fD V ct X) (λb a=>(c.ok b a).aj) λb a=>(m.ok b a).aj).1;exact⟨i,l.trans (λb a=>(g.ok b a).aj) j,k⟩
theorem IF(g:fb V aP):∀{e:List (List Int)}{a:List S}{r:Option (List S)},j9 V e a r->bE V aP a->∀gs,r=aa gs->bE V aP gs/\ei V a gs
 |[],a,r,h,d=>by cases h;intro gs b;cases b;exact⟨d,.refl⟩
 |c::e,a,r,h,d=>by
  intro gs b;cases h with
  |none _ _ n _ h=>cases b
  |cons _ _ n _ i _ h o=>
   let⟨f,j,_,_⟩:=EM g h d i rfl;let⟨k,l⟩:=IF g o f gs b;exact⟨k,j.trans (λp m=>(f.ok p m).aj) l⟩
theorem ao9(h:iY V):∀b∈V.aO,∃d,V.aw[b.of.toNat]?=aa d/\0<=b.of/\ot d b.gU=true:=by
 intro b f;have e:=AD (congrArg D.aO h.2.2.2) b f;obtain⟨c,g,rfl⟩:=kg.1 f;have a:=h.2.1;simp only[qd,ba,eQ,iz]at a;have a:=a.1.2 c g;rw[px,bq g]at a;simp only[ba]at a;let⟨a,_⟩:=a;split at a;rename_i d i;simp only[ba,decide_eq_true_eq]at a;have j:V.aO[c].of=ef V V.aO[c].aN:=(congrArg Fn.of e).symm;have k:V.aO[c].gU=fM d V.aO[c]:=by
  apply(congrArg Fn.gU e).symm.trans;simp only[eP,i,if_pos a]
 grind[fG];cases a
theorem NU(h:iY V):uM V:=by
 intro r g x e A z w y;have t:V.aO=V.aO.map (eP V):=congrArg D.aO h.2.2.2;have u:V.Q=V.Q.map (ew V):=congrArg D.Q h.2.2.2;have m:=congrArg D.ak h.2.2.2;have o:eg V []=⟨V.aw,V.aO,V.Q,[]⟩:=by
  show(⟨V.aw,V.aO.map (eP V),V.Q.map (ew V),[]⟩:D)=_;grind
 have a:=AD m r g;let⟨c,_,_⟩:=h.2.2.1 r g;rw[o]at a c;have v:r.ah=ka ⟨V.aw,V.aO,V.Q,[]⟩ r:=(congrArg aD.ah a).symm;have n:r.aj.aR=oB ⟨V.aw,V.aO,V.Q,[]⟩ r:=(congrArg (λb:aD=>b.aj.aR) a).symm;have f:r.au≠[]:=by grind[ka]
 let⟨j,d,p,_,_,_,_,k⟩:=Eh c f;let⟨b,i,l,q⟩:=k e;have d:j<Z V.Q:=d;have i:=i;have s:r.aj.aR=b:=by rw[n,oB,if_neg f,if_neg (by omega),if_pos e,l]
 grind[ka,Int.toNat_natCast,List.getElem?_eq_getElem,ao9,List.getElem_mem,uL,yS]
noncomputable def uN(a:D):Bool:=lh a&&(Z (qV a):Int)==0&&(Z (qY a):Int)==0
theorem YR(a:D)(f:eA a)(d:Z a.ak<=20)(g:∀r∈a.ak,lS r)(e:iY a->mq a):PR C 23 [.agg (cP ab T a)] (.bool (uN a)):=by
 apply aen.pr;simp only[eE,O,gy,bz,G];refine c (WX a f) (aV (λh=>?_) (λh=>bK (by rw[uN,h]<;>rfl)));apply c (aiL a d g);simp only[aX,c6,O];refine aV (λb=>?_) (λb=>bK (by rw[uN,h,b]<;>rfl));apply c (ajD a (e (xe.1 h)) d);simp only[aX,c6,O];exact iW (by rw[uN,h,b]<;>rfl)
theorem NV(a:List S):NB (eS ab (cF ab) a):=B5 (λb=>.cons _ _ (.int _ _) (.cons _ _ (Ik _) (.cons _ _ (.int _ _) .nil))) a
structure xy(p:D)(fs:List S):Prop where
 kz:kz p fs 3000=ad
 ml:qU p fs
 val:iY p
 AH:qV p=[]
 str:qY p=[]
 form:hR p fs=ad
 ek:fs.all (qe p)=ad
theorem apb(i:e8 C)(j:vQ C)(l:xi C)(h:xy V X)(g:eA V)(c:∀k∈X,dF k.af):
 ∃a,j9 V (tA V) X a/\(∀gs,a=aa gs->bE V (fU V X) gs/\iP gs=ab)/\PR C 25 [.agg (cP ab T V),eS F (cF ab) X] (Ei a):=by
 let⟨p,_,o⟩:=yT h.ml;have e:=AF h.kz h.val g c h.AH;have d:=yU h.val h.form;have r:=h.ml.facts;let⟨a,f,m⟩:=V9 e.v (tA V) d (Wa (by omega));have n:xx V X=true:=by
  rw[xx,h.form,h.ek,xe.2 h.val]<;>rfl
 refine⟨a,f,m,kY i j l (T:=T) (F:=F) (bC:=false) V X g (by unfold Sm;omega) c (Ei a) (λb=>by rw[n]at b;cases b) λ_=>?_⟩;exact⟨o,p,Cp h.ml h.val,λb=>absurd h.AH b,λ_ b=>absurd h.str b,λ_ _=>⟨_,a,e,d,by omega,f,rfl⟩⟩
theorem apc{gs:List S}(h:gY P.ah X gs):gk V X H P=gk V gs H P:=by
 have c:∀b:List S,b.filter (j8 V P)=(b.filter λa=>a.ah==P.ah).filter (j8 V P):=by
  intro b;rw[Jc]
  congr 1
  funext a
  unfold j8;cases a.ah==P.ah<;>simp
 have d:X.filter (j8 V P)=gs.filter (j8 V P):=by
  rw[c X,c gs];exact congrArg (List.filter (j8 V P)) h
 have e:∀H,ss V X H P=ss V gs H P:=λH=>by
  unfold ss yy;simp only[h.find]
 unfold gk;rw[d,e]
theorem apd{gs:List S}{r:aD}(h:∀a∈r.ai,gY a.ah X gs):im V X r=im V gs r:=by
 have b:tm V X r.ai=tm V gs r.ai:=by
  funext d e
  unfold tm;split;rename_i a c
  congr 1
  funext b
  exact apc (h a (qp c));rfl
 unfold im;rw[b]
theorem ZF{gs:List S}(h:∀r∈V.ak,iq ct r=ad->∀g∈r.ai,gY g.ah X gs):fD V ct X=fD V ct gs:=by
 have key:∀(a:List aD)(_:∀r∈a,r∈V.ak)(out:List S),a.foldl (kD V ct X) out=a.foldl (kD V ct gs) out:=by
  intro a;induction a with
  |nil=>simp
  |cons r a f=>
   intro b out;have c:kD V ct X out r=kD V ct gs out r:=by
    unfold kD;split;rename_i d;unfold lD;rw[apd (h r (b r (by simp)) d)];rfl
   rw[np,np,c];exact f (λi e=>b i (by simp[e])) _
 exact key V.ak (λ_ h=>h) []
theorem Cw:∀{c d:List S},c.Pairwise (λi j=>cr i j<0)->d.Pairwise (λi j=>cr i j<0)->(∀x,x∈c<->x∈d)->c=d
 |[],[],_,_,_=>rfl
 |[],e::d,_,_,h=>by have:=(h e).2 (by simp);cases this
 |x::c,[],_,_,h=>by have:=(h x).1 (by simp);cases this
 |x::c,e::d,f,g,h=>by
  rw[AR]at f g;have k:∀a:S,¬cr a a<0:=λa b=>by
   have:=(oz a a).2 ⟨rfl,rfl⟩;omega
  have l:x=e:=by
   rcases b6.1 ((h x).1 (by simp))with h1|h1;exact h1;rcases b6.1 ((h e).2 (by simp))with h2|h2;exact h2.symm;exact absurd (zY _ _ _ (f.1 e h2) (g.1 x h1)) (k x)
  subst l
  congr 1
  refine Cw f.2 g.2 λa=>⟨λb=>?_,λb=>?_⟩;rcases b6.1 ((h a).1 (by simp[b]))with rfl|h1;exact absurd (f.1 a b) (k a);exact h1;rcases b6.1 ((h a).2 (by simp[b]))with rfl|h1;exact absurd (g.1 a b) (k a);exact h1
theorem ZG(v:lV V){gs:List S}(i:bE V aP X)(n:bE V aP gs)(h:ei V X gs)(u:ei V gs X):∀c∈X,c∈gs:=by
 intro c d;let⟨g,e,f,s,t⟩:=h c d;let⟨a,w1,y,w,x⟩:=u g e;have j:=yC i.de a w1 c d (y.trans f) (w.trans s);subst j;have j:g.aj=a.aj:=by
  rcases b:dI V a.ah with _|l;rw[(i.ok a d).none b,(n.ok g e).none (by grind)];let⟨z,o,p⟩:=mo ((i.ok a d).aj l b);let⟨A,q,r⟩:=mo ((n.ok g e).aj l (by rw[f];exact b));have k:=t l b;have m:=x l (by rw[f];exact b);rw[o,q]at k m⊢;rw[Hw (v l (vz b)) r p m k]
 have:g=a:=by
  cases g;cases a
  simp_all
 grind
theorem EN(d:lV V){gs:List S}(a:bE V aP X)(b:bE V aP gs)(h:ei V X gs)(c:ei V gs X):X=gs:=
 Cw (nO.1 a.de) (nO.1 b.de) λe=>⟨ZG d a b h c e,ZG d b a c h e⟩
def e1(a:List Int)(c:List S):List S:=c.filter λb=>a.contains b.ah
theorem gS:bZ∈e1 ct X<->bZ∈X/\bZ.ah∈ct:=by
 simp[e1]
theorem bE.part(h:bE V aP X)(a:List Int):bE V aP (e1 a X):=
 ⟨nO.2 ((nO.1 h.de).filter _),λb c=>h.ok b (gS.1 c).1⟩
def NW(c:D)(a:List Int):Prop:=∀r∈c.ak,iq a r=ad->∀b∈r.ai,jG b=ad->b.ah∉a
theorem gY.symm{gs:List S}(h:gY f X gs):gY f gs X:=Eq.symm h
theorem ZH(d:fb V aP)(c:bE V aP X):ei V X (ir V ct X)/\∀e∈fD V ct X,nm V (ir V ct X) e:=
 AG d.aN (fD V ct X) (λb a=>(c.ok b a).aj) λb a=>((oA d c ct).1.ok b a).aj
theorem ape(b:fb V aP)(C:uM V)(u:NW V ct){r:Option (List S)}(h:qb V ct U X r)(c:bE V aP X)(t:∀a∈X,a.ah∈ct->tL V (fD V ct X) a):
 ∀gs,r=aa gs->e1 ct gs=fD V ct gs:=by
 induction h with
 |over U X h=>grind
 |stop U X h q=>
  intro gs y;cases y
  have n:=(oA b c ct).1;refine EN b.aN (c.part ct) n (λa f=>t a (gS.1 f).1 (gS.1 f).2) λa f=>?_;have i:=(ZH b c).2 a f;rw[q]at i;have H:vS V (fD V ct X):=(IC (Q:=λout=>bE V aP out/\vS V out) ⟨.nil V aP,by intro a c;cases c⟩ λr k j out p=>by
   have v:=uy b c k (yW j);exact⟨w5 b.aN _ p.1 v,Cv b.aN _ (λe d=>(p.1.ok e d).aj) (λe d=>(v e d).aj) p.2⟩).2
  let⟨g,z,s,A,B⟩:=i.resolve_left (H a f);exact⟨g,gS.2 ⟨z,by rw[s];exact NR a f⟩,s,A,B⟩
 |next U X r h q I G=>
  have i:=(Af b c ct).1;have E:yX V ct X (ir V ct X):=λr k j o m l=>⟨u r k j o m l,(NS (u r k j o m l)).symm⟩;have n:=NQ b C c i (ZH b c).1 λr k j o m l=>(E r k j o m l).2;have w:=(oA b c ct).1;have x:=(oA b i ct).1;refine G i (IA b.aN x.de (λe d=>(x.ok e d).aj) _ (λe d=>(c.ok e d).aj) (λe d=>(w.ok e d).aj) (λa f F=>?_) λa f _=>.inr (n a f));exact(t a f F).trans (λe d=>(w.ok e d).aj) n
inductive qm(n:Nat)(D:cA):(Nat->Bool)->List (List Nat)->Prop
 |nil (done:Nat->Bool):qm n D done []
 |cons (done:Nat->Bool) (g:List Nat) (L:List (List Nat)) (h1:∀x∈g,x<n/\done x=ab) (h2:∀x∈g,∀b,b<n->D x b=ad->done b=ad\/b∈g) (h3:∀x∈g,∀y∈g,cY D x y=ad)
  (done':Nat->Bool) (h4:∀b,b<n->(done' b=ad<->done b=ad\/b∈g)) (t:qm n D done' L):qm n D done (g::L)
variable{cZ:cA}
theorem NX(h:cY cZ U N=ad):cY cZ N U=true:=by
 grind[cY]
theorem IG(b:∀U N z,cZ U N=ad->cZ N z=ad->cZ U z=ad)(h:cY cZ U N=ad)(a:cY cZ N z=ad):cY cZ U z=true:=by
 grind[cY]
theorem ZI(j:∀a b f,cZ a b=ad->cZ b f=ad->cZ a f=ad):∀(k:Nat){done:Nat->Bool},(∀a b,a<U->b<U->cY cZ a b=ad->done a=ad->done b=ad)->qm U cZ done (kE U cZ k done)
 |0,done,_=>.nil _
 |k+1,done,r=>by
  rw[kE];split;exact .nil _;rename_i a l;let⟨i,g,_⟩:=za.1 l;have g:a<U:=by simpa using g
  simp only[mZ,ba,hv,eQ,iz,h5]at i;have m:∀c,c∈(ay U).filter (cY cZ a)<->c<U/\cY cZ a c=true:=by simp
  refine .cons _ _ _ (λc d=>?_) (λc d b h t=>?_) (λc d o n=>?_) (λb=>done b||cY cZ a b) (λb h=>?_) (ZI j k λc o d n u s=>?_);grind[NX];let⟨p,e⟩:=(m c).1 d;have q:cZ a b=ad\/cY cZ a b=true:=by
   simp only[cY,h5,beq_iff_eq,ba]at e;rcases e with rfl|e;grind;grind
  grind;grind[IG,NX];simp[h];grind[IG]
theorem NY{e:List K->b0->List K}{Q:b0->K->Prop}(h:∀d x a,a∈e d x<->a∈d\/Q x a):∀(c:List b0)(b:List K)(a:K),a∈c.foldl e b<->a∈b\/∃x∈c,Q x a
 |[],b,a=>by simp
 |x::c,b,a=>by
  rw[np,NY h c,h];grind
theorem ZJ{a:Edge}:a∈kO V<->∃r∈V.ak,∃c∈r.ai,nN V r c=ad/\a=((r.ah,c.ah),jG c):=by
 have e:∀r b d(a:Edge),a∈j6 V r b d<->a∈b\/(nN V r d=ad/\a=((r.ah,d.ah),jG d)):=by grind[j6]
 have f:∀b r(a:Edge),a∈p7 V b r<->a∈b\/∃c∈r.ai,nN V r c=ad/\a=((r.ah,c.ah),jG c):=λb r a=>NY (e r) _ b a;have:=NY f V.ak [] a;grind[kO]
theorem NZ:p8 V U N=ad<->∃a∈kO V,a.1.1=U/\a.1.2=N:=by
 simp[p8,qX]
theorem ZK(a b:Nat)(h:p8 V a b=ad):a<Z V.Q/\b<Z V.Q:=by
 let⟨c,d,e,f⟩:=NZ.1 h;have:=BV c d;omega
theorem ZL(d:D):∀a b c,cQ d a b=ad->cQ d b c=ad->cQ d a c=true:=by
 intro a b c e f;rw[cQ,Hb ZK]at*;exact e.trans f
theorem IH(a:D):qm (Z a.Q) (cQ a) (λ_=>ab) (eN (Z a.Q) (cQ a)):=
 ZI (ZL a) _ (by simp)
variable{fo:List (List Nat)}
theorem qm.later{done:Nat->Bool}(h:qm U cZ done fo):∀g∈fo,∀a∈g,a<U/\done a=false:=by
 induction h with
 |nil=>simp
 |cons done g fo c d e b f j i=>
  grind
theorem N0{r:Option (List S)}(h:qb V ct U X r)(c:f∉ct):∀gs,r=aa gs->gY f gs X:=by
 induction h with
 |over U X h=>grind
 |stop U X h b=>intro gs a;cases a;rfl
 |next U X r h b e d=>exactλgs a=>(d gs a).trans (NS c)
theorem EO:∀{e:List (List Int)}{d:List S}{r:Option (List S)},j9 V e d r->∀{a:Int},(∀c∈e,a∉c)->∀gs,r=aa gs->gY a gs d
 |[],d,r,h,a,_=>by cases h;intro gs b;cases b;rfl
 |c::e,d,r,h,a,g=>by
  intro gs b;cases h with
  |none _ _ i _ h=>cases b
  |cons _ _ i _ f _ h j=>exact(EO j (by grind) gs b).trans (N0 h (g c (by simp)) f rfl)
theorem apf(h:qY V=[]):∀r∈V.ak,∀d∈r.ai,lg V r d=false:=by
 have key:∀(a:List aD){b:List (Int×Int)},a.foldl (p9 V) b=[]->b=[]/\∀r∈a,∀d∈r.ai,lg V r d=false:=by
  intro a;induction a with
  |nil=>simp
  |cons r a e=>
   intro b h;rw[np]at h;let⟨c,f⟩:=e h;unfold p9 at c;split at c;simp at c;grind
 exact(key V.ak h).2
theorem apg{r:aD}(d:r∈V.ak)(c:P∈r.ai)(a:r.ah=U)(b:P.ah=N)(e:U<Z V.Q)(f:N<Z V.Q)(g:P.ax≠5):cQ V U N=true:=by
 rw[cQ,DX];exact .hy _ _ (NZ.2 ⟨_,ZJ.2 ⟨r,d,P,c,by grind[nN,dZ],rfl⟩,a,b⟩)
def uO(d:D)(a:List Int)(c:List S):Prop:=∀b∈c,b.ah∉a
theorem N1(j:fb V aP){done:Nat->Bool}{g:List Nat}(l:∀b∈g,b<Z V.Q/\done b=ab)(m:∀b∈g,∀a,a<Z V.Q->cQ V b a=ad->done a=ad\/a∈g){r:aD}(k:r∈V.ak)(h:iq (g.map b4) r=ad)(i:P∈r.ai):
 P.ah= -1\/∃a:Nat,a<Z V.Q/\P.ah=a/\(done a=ad\/a∈g):=by
 have d:=(j.iU r k).lits P i;by_cases c:P.ax=5;exact .inl (d.cmp c).2;let⟨a,f,e,_⟩:=d.ah c;refine .inr ⟨a,f,e,?_⟩;simp only[iq,ba,decide_eq_true_eq,O1,cy]at h;grind[apg]
theorem N2(n:fb V aP)(d:qY V=[]){g:List Nat}(h:∀a∈g,a<Z V.Q)(i:∀a∈g,∀f∈g,cY (cQ V) a f=ad):NW V (g.map b4):=by
 intro r c l e b j m;have k:=apf d r c e b;grind[iq,jG,lg,nN,dZ,Hq,cY]
theorem EP{g:List Nat}:(U:Int)∈g.map b4<->U∈g:=by
 grind
theorem aph(k:fb V aP)(L:uM V)(R:qY V=[]){done:Nat->Bool}(T:qm (Z V.Q) (cQ V) done fo):
 ∀{j c:List S},j9 V (fo.map (·.map b4)) j (aa c)->bE V aP j->∀g∈fo,uO V (g.map b4) j->fD V (g.map b4) c=e1 (g.map b4) c:=by
 induction T with
 |nil=>grind
 |cons done g fo o E F W G B U=>
  intro j c A y i l z;rw[ej]at A;cases A with
  |cons _ _ am _ gs _ h u=>
   let⟨t,ai,_,af⟩:=EM k h y gs rfl;rcases b6.1 l with rfl|l;have N:=N2 k R (λm v=>(o m v).1) F;have ak:=ape k L N h y (λd s f=>absurd f (z d s)) gs rfl;have later:∀a:Nat,a<Z V.Q->(done a=ad\/a∈i)->∀n∈fo.map (·.map b4),(a:Int)∉n:=by
    intro a e x n f H;obtain⟨C,I,rfl⟩:=cy.1 f;have:=(B.later C I a (EP.1 H)).2;rw[(G a e).2 x]at this;cases this
   have q:∀a:Nat,a<Z V.Q->(done a=ad\/a∈i)->gY (a:Int) c gs:=by grind[EO]
   have X:=ZF λr P J w K=>by
    rcases N1 k o E P J K with b|⟨a,e,b,x⟩;rw[b];refine EO u (λn f aj=>?_) c rfl;grind;grind
   have Y:e1 (i.map b4) c=e1 (i.map b4) gs:=by
    have M:=(IF k u t c rfl).1;refine Cw (nO.1 (M.part _).de) (nO.1 (t.part _).de) λm=>?_;rw[gS,gS];refine and_congr_left λv=>?_;let⟨a,e,b⟩:=cy.1 v;have b:=b.symm;have:=q a (o a e).1 (.inr e);have p:∀w:List S,m∈w<->m∈w.filter λd=>d.ah==(a:Int):=by simp[b]
    rw[p c,p gs,show c.filter _=gs.filter _ from this]
   grind;refine U u t i l λd s f=>?_;let⟨a,e,b⟩:=cy.1 f;have b:=b.symm;let⟨p,ac⟩:=B.later i l a e;have O:(a:Int)∉g.map b4:=by grind
   have q:=N0 h O gs rfl;have:d∈gs.filter λd=>d.ah==(a:Int):=by simp[s,b]
   rw[show gs.filter _=j.filter _ from q]at this;exact z d (by grind) f
theorem api{c:List (List Int)}(h:j9 V c X (aa gG))(l:∀r∈V.ak,r.ah≠f):gY f gG X:=by
 have o:∀(a:List Int)(gs:List S),∀j∈fD V a gs,j.ah≠f:=λa gs=>ID (b:=λq _=>q≠f) λr n _ j m=>by
  obtain⟨i,-,rfl⟩:=cy.1 m;exact l r n
 have k:∀{a b X r},qb V a b X r->∀gs,r=aa gs->gY f gs X:=by
  intro a b X r h;induction h with
  |over b X h=>simp
  |stop b X h i=>intro gs d;cases d;rfl
  |next b X r h i p g=>exactλgs d=>(g gs d).trans (IE _ (o _ _))
 generalize e:aa gG=t at h;induction h with
 |nil X=>cases e;rfl
 |none a c b X h=>cases e
 |cons a c b X gs r h p g=>exact(g e).trans (k h gs rfl)
def II(g:D)(e:Int)(f:List aG):Prop:=∀c,g.Q[e.toNat]?=aa c->∀(a:Nat)(d:aG)(b:Int),f[a]?=aa d->c.a6[a]?=aa b->d.ty=b
def qn(f:d->Int)(a:bc):Prop:=∀(b:Nat)(e:d)(c:aG),a.aA[b]?=aa e->a.bH[b]?=aa c->c.ty=f e
variable{dU:d -> Int}
theorem qn.get(h:qn dU H)(j:Z H.bH=Z H.aA)(c:known H.aA bR=ad):(cD H bR).1.ty=ep dU bR:=by
 unfold ep cD;by_cases a:bR.aF=[];simp[a];rw[if_neg a,if_neg a];have k:bR.aF∈H.aA:=by
  simp only[known,h5,beq_iff_eq,decide_eq_true_eq]at c;exact c.resolve_left a
 rcases e:H.aA.findIdx? (λf=>f==bR.aF)with _|i;grind;let⟨g,b,_⟩:=qt.1 e;have b:H.aA[i]=bR.aF:=by simpa using b
 simp only;rw[oK,bq (by omega)];exact h i bR.aF _ (by grind) (bq (by omega))
theorem qn.put(h:qn dU H)(g:Z H.bH=Z H.aA)(j:bR.aF≠[])(i:ju.ty=ep dU bR):qn dU (gO H bR ju):=by
 intro c f w b a;simp only[gO]at b a;by_cases e:c<Z H.aA;rw[oG e]at b;rw[oG (by omega)]at a;exact h c f w b a;grind[ep]
variable{p:List d}
theorem N3(h:known p bR=ab):bR.aF≠[]:=by
 simp_all[known]
theorem qn.gP:∀(e:List aK)(vs:List aG){b g:bc},Z b.bH=Z b.aA->qn dU b->(∀(c:Nat)(t:aK)(f:aG),e[c]?=aa t->vs[c]?=aa f->f.ty=ep dU t)->AM.gP b e vs=aa g->qn dU g
 |[],vs,b,g,_,h,_,a=>by
  simp only[AM.gP,e7]at a;exact a▸h
 |t::e,[],b,g,_,h,_,a=>by simp[AM.gP]at a
 |t::e,f::vs,b,g,i,h,k,a=>by
  rw[AM.gP]at a;have l:∀(c:Nat)(t:aK)(f:aG),e[c]?=aa t->vs[c]?=aa f->f.ty=ep dU t:=λc m n o p=>k (c+1) m n (by grind) (by grind);split at a;split at a;exact qn.gP e vs i h l a;cases a
  rename_i j;rw[nP,vY]at j;refine qn.gP e vs (by simp[gO,i]) (h.put i (N3 j) ?_) l a;exact k 0 t f (by simp) (by simp)
structure ZM(p:D)(r:aD)(τ:d->Int):Prop where
 head:0<=r.ah->∀x∈lY p r.ah r.af,ep τ x.1=x.2
 lit:∀l∈r.ai,0<=l.ah->∀x∈lY p l.ah l.af,ep τ x.1=x.2
 eq:∀l∈r.ai,l.ax=5->∀a b,l.af=[a,b]->ep τ a=ep τ b
theorem apj(h:iY V){r:aD}(k:r∈V.ak):∃g,ZM V r g:=by
 have o:V.aO=V.aO.map (eP V):=congrArg D.aO h.2.2.2;have p:V.Q=V.Q.map (ew V):=congrArg D.Q h.2.2.2;have l:=congrArg D.ak h.2.2.2;have n:eg V []=⟨V.aw,V.aO,V.Q,[]⟩:=by
  show(⟨V.aw,V.aO.map (eP V),V.Q.map (ew V),[]⟩:D)=_;grind
 have m:=AD l r k;let⟨_,_,_,⟨g,b⟩,_⟩:=h.2.2.1 r k;rw[m,n]at b;simp only[w8,xa,xb,dt,cy,dY,uQ]at b;refine⟨g,λc a e=>?_,λf d c a e=>?_,λf d s i j q=>?_⟩;exact b (.ty a.1 a.2) (.inl ⟨a,.inl (by rw[B2,if_pos c];exact e),rfl⟩);exact b (.ty a.1 a.2) (.inl ⟨a,.inr ⟨_,⟨f,d,rfl⟩,by rw[jU,if_pos c];exact e⟩,rfl⟩);exact b (.eq i j) (.inr ⟨(i,j),⟨_,⟨f,d,rfl⟩,by grind[sw]⟩,rfl⟩)
variable{mF:List aK}
theorem ZN(h:∀a∈lY V f mF,ep dU a.1=a.2)(b:V.Q[f.toNat]?=aa oS)(e:mF[U]?=aa bR)(c:oS.a6[U]?=aa ca):ep dU bR=ca:=by
 apply h (bR,ca);unfold lY;rw[b];apply qp (i:=U);grind
theorem qn.ext{r:aD}(q:ZM V r dU)(E:bE V aP X)(x:∀e∈X,II V e.ah e.af)(o:P∈r.ai)(y:D6 V r P)(f:Z H.bH=Z H.aA)(h:qn dU H)(b:fI∈gk V X H P):qn dU fI:=by
 unfold gk at b;split at b;rename_i g;let⟨e,j,b⟩:=xE.1 b;obtain⟨J,z,rfl⟩:=dq.1 b;let⟨j,p⟩:=l5.1 j;have G:e.ah=P.ah:=by
  simp only[j8,ba,beq_iff_eq]at p;exact p.1
 have l:=h.gP _ _ f (λk I A a u=>by
  have i:P.ax≠5:=by
   intro i;simp[i]at g
  let⟨c,C,t,B⟩:=y.ah i;have w:V.Q[P.ah.toNat]?=aa V.Q[c]:=by rw[t];simp
  let⟨F,_⟩:=fH.1 a;have n:V.Q[c].a6[k]?=aa (V.Q[c].a6[k]'(by omega)):=bq _;rw[ZN (q.lit P o (by omega)) w a n];exact x e j _ (by grind) k A _ u n) z
 unfold kC;split;exact l;exact l;split at b;simp only[l6]at b;subst b;unfold kQ;split;rename_i c s v;split;rename_i g;simp only[ba,beq_iff_eq]at g;have m:=q.eq P o g.1 c s v;split;rename_i a;simp only[ba,hv]at a;rw[nP,nP]at a;exact h.put f (N3 a.2) ((h.get f a.1).trans m);split;rename_i a;simp only[ba,hv]at a;rw[nP,nP]at a;exact h.put f (N3 a.2) ((h.get f a.1).trans m.symm);exact h;exact h
 exact h;cases b
theorem ZO(d:fb V aP)(A:iY V)(f:bE V aP X)(z:∀a∈X,II V a.ah a.af){r:aD}(b:r∈V.ak)(s:0<=r.ah):∀a∈lD V X r,II V a.ah a.af:=by
 intro a x;obtain⟨c,g,rfl⟩:=cy.1 x;let⟨G,p⟩:=apj A b;have o:=d.iU r b;have k:=D7 o (d.safe r b) (f.meet d b) (λa h=>(f.ok a h).aj) c g;have n:=d.safe r b;simp only[uo,ba]at n;let⟨K,m⟩:=sK.1 n.1.1;rw[D5 m]at g;have key:=V4 (f.meet d b) (λ_ c=>qn G c) (λdone H c F q B e i j t u I v w=>by
  have l:=qp e;exact qn.ext p f z l (o.lits B l) (by rw[u,t]) v w) (HB m).1 e0 rfl rfl (by simp[e0]) (λq F E h=>by simp[e0]at h) c g
 intro L y q E J e i;simp only[kP,j7,sN,dq]at e;obtain⟨C,j,rfl⟩:=e;rw[key.1.get k.len (k.aA C (by grind))];exact ZN (p.head s) y j i
theorem apk{Q:List S->Prop}(h:∀d a,Q a->Q (ir V d a)):∀{f:List (List Int)}{a:List S}{c:Option (List S)},j9 V f a c->Q a->∀e,c=aa e->Q e:=by
 have m:∀{d b a c},qb V d b a c->Q a->∀e,c=aa e->Q e:=by
  intro d b a c g;induction g with
  |over b a h=>grind
  |stop b a h i=>grind
  |next b a r j i l k=>grind
 intro f a c g;induction g with
 |nil a=>grind
 |none d f b a h=>grind
 |cons d f b a gs r j l k=>grind
structure q8(p:D)(cf:List aG)(fs:List S):Prop where
 v:bE p cf fs
 ty:∀f∈fs,II p f.ah f.af
 nb:vS p fs
theorem apl(a:fb V aP)(k:iY V)(b:List Int)(h:q8 V aP X):q8 V aP (ir V b X):=by
 have j:=(oA a h.v b).1;exact⟨(Af a h.v b).1,Cu _ h.ty (ID λr i g e f=>ZO a k h.v h.ty i (yW g) e f),Cv a.aN _ (λd c=>(h.v.ok d c).aj) (λd c=>(j.ok d c).aj) h.nb⟩
theorem N4(r:iY V)(q:∀s∈aP,nJ s=ad)(h:q8 V aP X):hR V X=true:=by
 unfold hR;rw[eQ];intro e a;have a:e<Z X:=by simpa using a
 have b:=bn a;rw[mW,bq a];simp only[ba];refine⟨?_,?_⟩;let⟨d,i,f,t⟩:=(h.v.ok _ b).fz;have o:V.Q[X[e].ah.toNat]?=aa V.Q[d]:=by rw[f];simp
 unfold qZ;rw[o];simp only[ba,decide_eq_true_eq,vw,beq_iff_eq,eQ,iz];refine⟨by omega,⟨by omega,λc j=>?_⟩,?_⟩;have l:V.Q[d].a6[c]?=aa (V.Q[d].a6[c]'(by omega)):=bq _;unfold uv;rw[bq j,l];simp only[ba,beq_iff_eq];exact⟨q _ ((h.v.ok _ b).cf _ (bn j)),h.ty _ b _ o c _ _ (bq j) l⟩;unfold vv;split;rename_i k;have:=(h.v.ok _ b).none (by rw[uL,f,yS i,if_pos k]);simp[this];rename_i k;have u:=Co r _ (bn i)
 have m:V.Q[d].of.toNat<Z V.aw:=by omega
 rw[bq m];have n:dI V X[e].ah=aa V.aw[V.Q[d].of.toNat]:=by rw[uL,f,yS i,if_neg k,bq m]
 have g:=(h.v.ok _ b).aj _ n;simp only[eC,ba,decide_eq_true_eq]at g;simp only[ba,decide_eq_true_eq,bne_iff_ne,ne_eq];exact⟨g.1,g.2,λp=>h.nb _ b ⟨_,n,p⟩⟩;cases e with
 |zero=>rfl
 |succ c=>
  rw[vx,bq (by omega),bq a];simpa using h.v.de c (c+1) (by omega) a (by omega)
theorem IJ(q:iY V)(h:hR V X=ad):q8 V (fU V X) X/\∀a∈X,∀e∈a.af,nJ e=true:=by
 have o:=yU q h;rw[hR,eQ]at h;have n:∀a∈X,qZ V a=true:=by
  intro a b;obtain⟨c,i,rfl⟩:=kg.1 b;have:=h c (by grind);rw[mW,bq i]at this;simp only[ba]at this;exact this.1
 have m:∀a∈X,∃d,V.Q[a.ah.toNat]?=aa d/\(∀(c:Nat)(e:aG),a.af[c]?=aa e->nJ e=ad/\∀j,d.a6[c]?=aa j->e.ty=j)/\vv V d a=true:=by
  intro a b;have g:=n a b;simp only[qZ,ba]at g;have f:=g.2;split at f;cases f
  rename_i d l;simp only[vw,ba,beq_iff_eq,eQ,iz]at f;grind[uv]
 refine⟨⟨o,λa b d l c e j g f=>?_,λa b=>?_⟩,λa b e p=>?_⟩;grind;rintro⟨t,s,r⟩;let⟨d,l,_,k⟩:=m a b;simp_all[uL,hT,vv,if_neg,ba,decide_eq_true_eq,bne_iff_ne,ne_eq];obtain⟨c,i,rfl⟩:=kg.1 p;let⟨d,_,k,_⟩:=m a b;exact(k c _ (bq i)).1
theorem ZP(h:iN bR=ad)(a:bR.aF=[]):nJ bR.const=true:=by
 grind[iN]
theorem N5(j:iY V)(h:∀f∈X,∀b∈f.af,nJ b=ad):∀b∈fU V X,nJ b=true:=by
 refine Y0 h (λr i e a d=>?_);have c:=(B4 j.1).iU r i;simp only[jR,dt,uQ,cy]at a;rcases a with a|⟨_,⟨k,g,rfl⟩,a⟩;exact ZP (c.Aq e a) d;exact ZP ((c.lit k g).Aq e a) d
theorem ER(d:iY V){a:List (List Int)}(g:fb V (fU V X))(h:hR V X=ad)(c:j9 V a X (aa gG)):hR V gG=ad/\q8 V (fU V X) gG:=by
 let⟨b,e⟩:=IJ d h;have f:=apk (by grind[gs,apl]) c b gG rfl;grind[N4,N5]
theorem apm(h:U<Z X):e1 ct (X.take (U+1))=if ct.contains X[U].ah=ad then e1 ct (X.take U)++[X[U]]else e1 ct (X.take U):=by
 rw[e1,iy h,y7];grind[e1]
theorem apn(b:List Int)(a:List S):Z (e1 b a)<=Z a:=nX ..
theorem apo(d:List S)(f:List Int)(D:Z d<=1000000)(y:Z f<=1000000):PR C 13 [eS T (cF ab) d,eS F cI f] (eS ab (cF ab) (e1 f d)):=by
 refine ael.pr ?_;simp only[fh,e4,dR,e2,hG,jY];refine bG (K:=Nat) (λc=>[.q 1 (Z (e1 f (d.take c))) 0 (Z (e1 f (d.take c))),I c]) (λc=>a1 [.arr 0 3 [],.arr 0 3 []] 1 3 (cF ab) (Z (e1 f (d.take c))) (e1 f (d.take c))) (λc=>Z d -c) (λc=>c<=Z d) 0 (by simp) ?_ (by simp[e1]) (by simp[e1,a1]);intro c z w u;have t:=apn f (d.take c);rw[h0]at t;simp only[i,G,aX,A,O,a];refine b (λh=>?_) (λh=>?_)
 have h:c<Z d:=by simpa using h
 have l:=u (c+1) h (by omega);rw[apm h]at l;rw[bz];generalize e1 f (d.take c)=m at*;generalize n:a1 [Obj.arr 0 3 [],Obj.arr 0 3 []] 1 3 (cF ab) (Z m) m=o at*;have r:∀g(j:g<Z f),(f.take (g+1)).contains d[c].ah=((f.take g).contains d[c].ah||f[g]==d[c].ah):=λg j=>by
  rw[iy j,iA];simp only[O1,dt,l6,h5,beq_iff_eq];exact or_congr_right eq_comm
 refine eB (U:=Z f) (c:=λg=>[.bool ((f.take g).contains d[c].ah),I g]) (λ_=>True) trivial (by simp) (λg j _ p B=>?_) (λ_ p=>?_);simp only[i,G,aX,A,O,a,j,decide_true];refine a8 ?_;refine dA (M:=o) ((f.take (g+1)).contains d[c].ah) (λE s=>?_) ?_;rw[r g j]at s;refine dH (λk=>?_) (by grind);simp only[aE j (jh _),aJ,lN,aE h (fB _ _),bh,oc,c6,O,e];grind;simp only[G];rw[aZ,O];grind
 simp only[i,G,aX,A,O,a,cn,decide_false,dY];refine bw ?_;refine b (λk=>?_) (λk=>?_);rw[if_pos k]at l;simp only[aE h (fB _ _),ku,O,K8];rw[<-n];refine ys (a7:=cF ab) (by simp) rfl (by omega) ?_;rw[aZ,O];simp_all;rw[if_neg (by grind),n]at l;rw[aZ,O];exact l;have:c=Z d:=by simp at h;omega
 subst this;rw[dY];exact ic (oj (by simp)) (by simp)
def IK(a:D):List Int:=((ay (Z a.Q)).filter λb=>(a.Q[b]?.map cO.ek).getD ab).map b4
theorem N6(h:iY V){r:aD}(b:r∈V.ak)(j:U<Z V.Q)(e:r.ah=U):V.Q[U].ek=false:=by
 have f:V.aO=V.aO.map (eP V):=congrArg D.aO h.2.2.2;have g:V.Q=V.Q.map (ew V):=congrArg D.Q h.2.2.2;have d:eg V []=⟨V.aw,V.aO,V.Q,[]⟩:=by
  show(⟨V.aw,V.aO.map (eP V),V.Q.map (ew V),[]⟩:D)=_;grind
 have a:=AD (congrArg D.ak h.2.2.2) r b;let⟨c,_,_⟩:=h.2.2.1 r b;rw[d]at a c;have i:r.ah=ka ⟨V.aw,V.aO,V.Q,[]⟩ r:=(congrArg aD.ah a).symm;grind[ka,Eh]
theorem N7(b:U<Z V.Q)(a:bZ.ah=U):qe V bZ=V.Q[U].ek:=by
 grind[qe]
theorem ZQ(h:xy V X)(q:fb V (fU V X)){k:List (List Int)}(g:j9 V k X (aa gG)):e1 (IK V) gG=X:=by
 have c:=yU h.val h.form;have p:=(IF q g c gG rfl).1;refine Cw (nO.1 (p.part _).de) (nO.1 c.de) λb=>?_;have key:∀(a:Nat)(_:a<Z V.Q),V.Q[a].ek=ad->b.ah=a->(b∈gG<->b∈X):=λa f o d=>by
  have n:gY (a:Int) gG X:=api g λr s l=>by
   have:=N6 h.val s f l;grind
  have e:∀j:List S,b∈j<->b∈j.filter λm=>m.ah==(a:Int):=by simp[d]
  rw[e gG,e X,show gG.filter _=X.filter _ from n]
 rw[gS];constructor;grind[IK];intro i;let⟨a,f,d,_⟩:=(c.ok b i).fz;have o:=eQ.1 h.ek b i;grind[N7,IK,List.getElem?_eq_getElem]
theorem ZR(h:cQ V U N=ad):∃r∈V.ak,r.ah=U:=by
 have key:∀a,p8 V U a=ad->∃r∈V.ak,r.ah=U:=λa h=>by
  let⟨b,d,c,_⟩:=NZ.1 h;grind[ZJ]
 rw[cQ,Hb ZK]at h;cases h with
 |hy _ _ h=>grind
 |step _ a _ h e=>grind
theorem qm.tp{done:Nat->Bool}(h:qm U cZ done fo):∀g∈fo,∀a∈g,∀b∈g,cY cZ a b=true:=by
 induction h with
 |nil=>simp
 |cons done g fo d e f c i k j=>
  grind
theorem ZS(h:xy V X){g:List Nat}(f:g∈eN (Z V.Q) (cQ V))(l:U∈g)(s:U<Z V.Q)(t:V.Q[U].ek=ab):uO V (g.map b4) X:=by
 intro c p o;let⟨a,d,b⟩:=cy.1 o;have b:c.ah=(a:Int):=b.symm;have i:=IH V;have e:=(i.later g f a d).1;have n:=eQ.1 h.ek c p;rw[N7 e b]at n;by_cases m:a=U;grind;have j:=i.tp g f a d U l;simp only[cY,h5,beq_iff_eq,ba]at j;let⟨r,q,k⟩:=ZR (j.resolve_left m).1;have:=N6 h.val q e k;grind
def xz(c:AV)(d:K->List AV)(e:Nat)(a:List K)(b:aL):Prop:=(a=[]/\c=.aq/\b=[])\/∃id g J,c=.q id g 0 (Z a)/\b=[(id,.arr g e (a.map d++J))]
variable{a7:K -> List AV}
theorem bB.j(h:bB E a7 U x k):xz E a7 U x k:=by
 rcases h with h|⟨id,g,a,b⟩;exact .inl h;exact .inr (by simp_all)
variable{dG:AV}{lx:List K}
theorem xz.app{bytes:Nat}{F:aL}(h:xz E a7 U x k)(a:Holds M (k++F))(c:h6 M U dG=aa (lx.map a7))(e:(Z x+Z lx)*bytes<=2^47):
 ∃id g b,cJ U bytes E dG M=aa (.q id g 0 (Z (x++lx)),b)/\Holds b ((id,.arr g U ((x++lx).map a7))::F):=by
 rcases h with⟨rfl,rfl,rfl⟩|⟨id,g,J,rfl,rfl⟩;exact⟨Z M,0,M++[.arr 0 U (lx.map a7)],pe (a7:=a7) (x:=lx) rfl c (by grind),Holds.alloc a _⟩;have d:=a.get (U:=id) (gF:=.arr g U (x.map a7++J)) (by simp);refine⟨id,g+1,M.set id (.arr (g+1) U ((x++lx).map a7)),?_,Holds.set (k:=F) a _⟩;grind[cJ,AV.isNil]
def IL(a:AV)(c:List S)(d:aL):Prop:=a.pl=a/\a.bU=ad/\∀b,Holds b d->h6 b 3 a=aa (c.map (cF ab))/\gu .sl a b=aa (I (Z c))
theorem apq(a:Nat)(v:a<=1000000)(o:Holds M k):HR C 83 [.aq,I (a:Int)] M (λr l=>∃c,xz r (cF ab) 3 [] c/\Holds l (c++k)):=by
 apply S4.hq;apply aY rfl;have i:=o.alloc (.arr 0 3 []);refine kT (λe h=>e=[]/\h=M++[.arr 0 3 []]) (λs f=>?_) ?_;rw[A,O];refine b (λh=>?_) (by grind);grind;rintro e h ⟨rfl,rfl⟩;refine kT (λe h=>∃r c,(∃j,e=[r,j])/\xz r (cF ab) 3 [] c/\Holds h (c++k)) (λs f=>?_) ?_;refine aI (dW:=I 0) rfl (aI (dW:=I 0) rfl ?_);rw[nG (by omega) (by omega),O,nG (by omega) (by omega),O,eU,O];simp only[Int.sub_zero]
 refine b (λh=>?_) (λ_=>f _ _ ⟨.aq,[],⟨_,rfl⟩,.inl ⟨rfl,rfl,rfl⟩,by simpa using i.tail⟩);have u:0<a:=by
  have:(0:Int)<a:=by simpa using h
  omega
 refine aI (dW:=I 0) rfl (aI (dW:=.aq) rfl ?_);refine aY (dW:=.q (Z (M++[Obj.arr 0 3 []])) 0 0 a) (oR:=(M++[.arr 0 3 []])++[.arr 0 3 (dh a [I 0,.aq,I 0])]) ?_ ?_;grind[Df];refine aI (dW:=I 0) rfl ?_;have p:((M++[Obj.arr 0 3 []])++[Obj.arr 0 3 (dh a [I 0,.aq,I 0])])[Z (M++[Obj.arr 0 3 []])]?=aa (.arr 0 3 (dh a [I 0,.aq,I 0])):=by simp
 refine aI (dW:=.q (Z (M++[Obj.arr 0 3 []])) 0 0 0) ?_ ?_;simp[fA,eT,p];exact f _ _ ⟨_,_,⟨_,rfl⟩,.inr ⟨_,0,_,rfl,rfl⟩,by simpa using(i.tail).alloc (.arr 0 3 (dh a [I 0,.aq,I 0]))⟩;rintro e h ⟨r,c,⟨j,rfl⟩,m,n⟩;refine⟨c,?_,n⟩;simp only[G];rcases m with⟨_,rfl,rfl⟩|⟨id,g,J,rfl,rfl⟩;exact .inl ⟨rfl,rfl,rfl⟩;exact .inr (by simp)
theorem apr{F:aL}(U:IL E X F)(V:IL dG gG F)(T:Z X+Z gG<=1000000)(N:Holds M F):
 HR C 34 [.sl ab [[E],[dG]]] M (λr B=>∃id g,r=.q id g 0 (Z (X++gG))/\Holds B ((id,.arr g 3 ((X++gG).map (cF ab)))::F)):=by
 refine Sg.hq ?_;refine aY rfl ?_;have l:=(N.alloc (.arr 0 3 [])).tail;generalize M++[Obj.arr 0 3 []]=D at l;refine aI (dW:=I 2) rfl ?_;have v:∀f,bP 1 (.sl ab [[E],[dG]]) (I 0) f=aa (.aH ab [E] 0):=λ_=>rfl;have w:∀f,bP 1 (.sl ab [[E],[dG]]) (I 1) f=aa (.aH ab [dG] 0):=λ_=>rfl;obtain⟨ax,az,y⟩:=U;obtain⟨aA,aF,z⟩:=V
 refine eB (U:=2) (c:=λc=>[I (if c=0 then 0 else if c=1 then(Z X:Int)else Z X+Z gG),I c]) (λ_=>True) trivial rfl (λc ah _ J ai=>?_) (λ_ J=>?_);simp only[i,G,A,O];refine b (λ_=>?_) (by grind);refine kT (λu h=>(∃x,u=[I (if c+1=1 then(Z X:Int)else Z X+Z gG),x])/\h=D) (λam aj=>?_) ?_;have s:c=0\/c=1:=by omega
 rcases s with rfl|rfl;refine aI (v _) (aI (dW:=E) rfl (aI (y _ l).2 ?_));rw[if_pos rfl,ye (by omega) (by omega),O,A,O];refine b (λh=>?_) (by grind);grind;refine aI (w _) (aI (dW:=dG) rfl (aI (z _ l).2 ?_));rw[if_neg (by omega),if_pos rfl,ye (by omega) (by omega),O,A,O];refine b (λh=>?_) (by grind);grind;rintro u h ⟨⟨x,rfl⟩,rfl⟩;rw[aZ,O];simp_all;simp only[i,G,A,O];refine bw ?_
 have ak:I (Z X+Z gG:Int)=I ((Z X+Z gG:Nat):Int):=by simp
 apply c4 (apq (Z X+Z gG) T l) rfl;rintro r H ⟨k,m,af⟩;apply aI (dW:=I 2) rfl;apply bG (K:=Nat×AV×List Obj) (λa=>[a.2.1,I a.1]) (λa=>a.2.2) (λa=>2 -a.1) (λa=>(a.1=0/\∃k,xz a.2.1 (cF ab) 3 ([]:List S) k/\Holds a.2.2 (k++F))\/(0<a.1/\a.1<=2/\∃id g,a.2.1=.q id g 0 (Z (if a.1=1 then X else X++gG))/\Holds a.2.2 ((id,.arr g 3 ((if a.1=1 then X else X++gG).map (cF ab)))::F))) (0,r,H) (by grind)
 rintro⟨c,u,f⟩ P Y t;simp only[i,G,A,O]at t⊢;rcases P with⟨rfl,k,m,d⟩|⟨Q,R,id,g,n,d⟩;refine a8 ?_;refine aI (v _) (aI (dW:=E) rfl ?_);let⟨id,g,o,p,K⟩:=m.app (bytes:=40) (lx:=X) d (y _ d.sub).1 (by simp;omega);apply aY p;have:=t (1,.q id g 0 (Z X),o) (by grind) (by simp);grind[ye,O];have s:c=1\/c=2:=by simp at Q R;omega
 rcases s with rfl|rfl;refine a8 ?_;refine aI (w _) (aI (dW:=dG) rfl ?_);simp only[if_true]at n d;subst n;have m:xz (.q id g 0 (Z X)) (cF ab) 3 X [(id,.arr g 3 (X.map (cF ab)))]:=bB.of.j;let⟨W,L,o,p,K⟩:=m.app (bytes:=40) (lx:=gG) (F:=F) d (z _ d.tail).1 (by omega);apply aY p;have:=t (2,.q W L 0 (Z (X++gG)),o) (by grind) (by simp);grind[ye,O];refine bw ?_;simp only[Nat.reduceEqDiff,if_false]at n d
 subst n;exact⟨id,g,rfl,d⟩
theorem aps(xw:∀T M,C 30 [.sl T []] M (.q (Z M+1) 0 0 0) (M++[.arr 0 3 [],.arr 0 3 []]))(a:List S)(h:Z a<=1000000)(b:Holds M k):HR C 30 [eS T (cF ab) a] M (λr d=>∃id g,r=.q id g 0 (Z a)/\Holds d ((id,.arr g 3 (a.map (cF ab)))::k)):=by
 rcases a with _|⟨c,a⟩;refine⟨_,_,xw T M,Z M+1,0,rfl,?_⟩;have:=(b.alloc (.arr 0 3 [])).tail.alloc (.arr 0 3 []);grind;apply To.hq;simp only[fh,e4];apply aI (dW:=ff) rfl;simp only[c5,e6,if_false];apply aY (pe (a7:=cF ab) (x:=c::a) rfl (uk (fB ab) _ _ _) (by omega));refine⟨_,0,rfl,?_⟩;have:=(b.alloc (.arr 0 3 [])).tail.alloc (.arr 0 3 ((c::a).map (cF ab)));omega
theorem N8(d:K->Bool)(a:List K):(b2 d a= -1/\∀e∈a,d e=ab)\/∃(b:Nat)(h:b<Z a),b2 d a=(b:Int)/\d a[b]=ad/\∀e∈a.take b,d e=false:=by
 by_cases h:∃b,∃h:b<Z a,d a[b]=ad/\∀c(k:c<Z a),c<b->d a[c]=ab;let⟨b,g,f,i⟩:=h;refine .inr ⟨b,g,ue g i f,f,λe l=>?_⟩;grind[List.getElem_of_mem];have j:∀c(k:c<Z a),d a[c]=false:=by
  intro c;induction c using Nat.strongRecOn with
  |ind c m=>
   grind
 refine .inl ⟨wC j,λe l=>?_⟩;grind[List.getElem_of_mem]
abbrev ZT(a:Bool)(b:List Int):AV:=.fn 27 [] [.aH ad [eS a cI b] 0]
abbrev apt(a:Bool)(b:List Int):AV:=.fn 31 [] [.aH ad [ZT a b] 0]
theorem ZU(h:M[U]?=aa (.arr 0 1 [[eS T cI ct]])):aM M .cd (.ptr U 0 0 0) (.aH ad [eS T cI ct] 0):=
 .o2 _ _ _ _ _ _ _ _ h rfl (.cons _ _ _ _ _ (Im.snap (by simp)) (.nil _))
theorem ZV(h:M[U]?=aa (.arr 0 1 [[eS T cI ct]]))(a:M[N]?=aa (.arr 0 1 [[.fn 27 [] [.ptr U 0 0 0]]])):aM M .cd (.ptr N 0 0 0) (.aH ad [ZT T ct] 0):=
 .o2 _ _ _ _ _ _ _ _ a rfl (.cons _ _ _ _ _ (.fn _ _ _ _ _ _ (.nil _) (.cons _ _ _ _ _ (ZU h) (.nil _))) (.nil _))
theorem apu{id g:Nat}(h:M[id]?=aa (.arr g 3 b1))(i:U<Z b1)(j:∀b∈b1,Z b=3):du 3 (.ptr id g U 0) (.agg (cF ab bZ)) M=aa (M.set id (.arr g 3 (b1.set U (cF ab bZ)))):=by
 have c:Z (b1[U])=3:=by grind
 have f:(AV.agg (cF ab bZ)).pl.cells=cF ab bZ:=rfl;have d:(cF ab bZ).all AV.bU=true:=rfl;have a:Z (cF ab bZ)=3:=rfl;simp only[du,f,d,a,h,bq i,c];simp only[true_and,if_true,e,c7]
 congr 3
 simp only[e3,aaL,dR,a,e];rw[asc (by omega)];simp
theorem apv(X:Sm ct)(c:List S)(cs:Z c<=1000000){id g:Nat}(u:Holds M ((id,.arr g 3 (c.map (cF ab)))::(N,.arr 0 1 [[.fn 27 [] [.ptr U 0 0 0]]])::(U,.arr 0 1 [[eS T cI ct]])::k)):
 HR C 29 [.q id g 0 (Z c),.fn 31 [] [.ptr N 0 0 0]] M (λr af=>∃J,r=.q id g 0 (Z (c.filter λj=>ct.contains j.ah))/\Holds af ((id,.arr g 3 ((c.filter λj=>ct.contains j.ah).map (cF ab)++J))::(N,.arr 0 1 [[.fn 27 [] [.ptr U 0 0 0]]])::(U,.arr 0 1 [[eS T cI ct]])::k)):=by
 refine Ru.hq ?_;have W:=u.get (U:=id) (gF:=.arr g 3 (c.map (cF ab))) (by simp);have a2:=u.get (U:=N) (gF:=.arr 0 1 [[.fn 27 [] [.ptr U 0 0 0]]]) (by simp);have a3:=u.get (U:=U) (gF:=.arr 0 1 [[eS T cI ct]]) (by simp)
 refine eV _ (TZ (T:=true) (F:=false) (E:=apt T ct) (b:=λj=> !ct.contains j.ah) rfl c (by grind[Sm]) (λw _=>⟨31,_,rfl,Zu w ct X,λM=>bT.snap (by simp)⟩)) (.cons _ _ _ _ _ (om W (λ_ _=>QH _ _)) (.cons _ _ _ _ _ (.fn _ _ _ _ _ _ (.nil _) (.cons _ _ _ _ _ (ZV a3 a2) (.nil _))) (.nil _))) (.int _ _) ?_;rcases N8 (λj:S=> !ct.contains j.ah) c with⟨H,y⟩|⟨n,a9,H,y,a5⟩;rw[H,c6,O];refine a8 ?_
 have a6:(c.filter λj=>ct.contains j.ah)=c:=asf.2 λw L=>by simpa using y w L
 exact⟨[],by rw[a6]<;>rfl,by grind⟩;rw[H,c6,O];refine b (λh=>by have:=of_decide_eq_true h;omega) (λ_=>?_);rw[aZ,O];have br:(c.take n).filter (λj=>ct.contains j.ah)=c.take n:=asf.2 λw L=>by simpa using a5 w L
 have bm:ct.contains c[n].ah=false:=by simpa using y
 have bD:M.set id (.arr g 3 (c.map (cF ab)))=M:=by
  let⟨cc,ce⟩:=fH.1 W;rw[<-ce];exact zb cc
 generalize bv:(λj:S=>ct.contains j.ah)=e at*;have Y:∀j,e j=ct.contains j.ah:=λj=>by rw[<-bv]
 refine bG (K:=Nat×Nat×List (List AV)) (λf=>[I f.1,I f.2.1]) (λf=>M.set id (.arr g 3 f.2.2)) (λf=>Z c -f.2.1)
  (λf=>f.1<f.2.1/\f.2.1<=Z c/\Z f.2.2=Z c/\(∀F∈f.2.2,Z F=3)/\Z ((c.take f.2.1).filter e)=f.1/\f.2.2.take f.1=((c.take f.2.1).filter e).map (cF ab)/\f.2.2.drop f.2.1=(c.drop f.2.1).map (cF ab)) (n,n+1,c.map (cF ab)) ?_ ?_ rfl bD
 have c2:(c.take (n+1)).filter e=c.take n:=by
  rw[iy a9,y7,br];simp[Y];simpa using bm
 refine⟨by simp,by grind,by simp,by simp,?_,?_,?_⟩;grind;simp_all;simp;rintro⟨P,d,l⟩ ⟨ai,aj,ak,R,D,s,E⟩ ci ac;simp only at ai aj ak R D s E ac⊢;have K:=Holds.set u (.arr g 3 l);have t:=K.get (U:=id) (gF:=.arr g 3 l) (by simp);have aR:=K.get (U:=N) (gF:=.arr 0 1 [[.fn 27 [] [.ptr U 0 0 0]]]) (by simp);have a0:=K.get (U:=U) (gF:=.arr 0 1 [[eS T cI ct]]) (by simp);simp only[i,G,oa,O,A,a]
 refine b (λh=>?_) (λh=>?_);have h:d<Z c:=by simpa using h
 have be:l[d]?=aa (cF ab c[d]):=by
  have:(l.drop d)[0]?=((c.drop d).map (cF ab))[0]?:=by rw[E]
  simpa[h]using this
 refine kT (λQ h=>∃o m,Q=[I ((o:Nat):Int)]/\h=M.set id (.arr g 3 m)/\o<d+1/\Z m=Z c/\(∀F∈m,Z F=3)/\Z ((c.take (d+1)).filter e)=o/\m.take o=((c.take (d+1)).filter e).map (cF ab)/\m.drop (d+1)=(c.drop (d+1)).map (cF ab)) (λp bi=>?_) ?_;refine aI (fw t h) (aI (mj t be rfl) (aI (dW:=cF ab c[d]) rfl ?_));refine aY (dW:=31) (oR:=[.agg (cF ab c[d]),.ptr N 0 0 0]) rfl ?_
 apply eV _ (Zu (T:=false) (F:=true) (bC:=true) (c8:=T) c[d] ct X) (.cons _ _ _ _ _ (Im.snap (by simp)) (.cons _ _ _ _ _ (ZV a0 aR) (.nil _))) (.bool _);rw[bI,O,Ff,<-Y];have cb:(c.take (d+1)).filter e=(c.take d).filter e++(if e c[d]=ad then[c[d]]else[]):=by
  rw[iy h,y7];by_cases B:e c[d]=ad<;>simp[B]
 have co:l.drop (d+1)=(c.drop (d+1)).map (cF ab):=by
  have:=congrArg List.tail E;simpa[List.tail_drop,Ja]using this
 refine b (λB=>?_) (λB=>?_);have bb:P<Z l:=by omega
 apply aI (fw t (by omega));apply aI (apu t bb R);rw[I6,aZ,O];refine bi _ _ ⟨P+1,l.set P (cF ab c[d]),rfl,rfl,by omega,by grind,?_,?_,?_,?_⟩;grind;grind;rw[cb,if_pos B,hJ,<-s,iy (by grind)];simp[List.take_set_of_le];grind[List.drop_set_of_lt];grind;rintro Q y ⟨o,m,rfl,rfl,am,au,ax,az,aA,aF⟩;rw[aZ,O];exact ac (o,d+1,m) ⟨by simpa using am,by show d+1<=Z c;omega,au,ax,az,aA,aF⟩ (by simp;omega)
 have:d=Z c:=by simp at h;omega
 subst this;rw[dY]at D s;subst D;have c1:Z (c.filter e)<=Z c:=nX ..;refine aI (dW:=.q id g (Z (c.filter e)) (Z c -(Z (c.filter e)))) ?_ ?_;grind[fA,eT];refine aI (dW:=M.set id (.arr g 3 (l.take (Z (c.filter e))++(dh (Z c -(Z (c.filter e))) [I 0,.aq,I 0]++l.drop (Z (c.filter e)+(Z c -(Z (c.filter e)))))))) ?_ ?_;simp[Dg,t]
 have z:=Holds.set u (.arr g 3 (l.take (Z (c.filter e))++(dh (Z c -(Z (c.filter e))) [I 0,.aq,I 0]++l.drop (Z (c.filter e)+(Z c -(Z (c.filter e)))))));have a4:=z.get (AT ..);refine aI (dW:=.q id g 0 (Z (c.filter e))) ?_ ?_;have U:(Z (c.filter e):Int)<=(Z c:Int):=by omega
 have N:(Option.some (Z (c.filter e):Nat)).isSome:=rfl;simp only[fA,eT,a4];rw[if_pos (by omega)];simp;rw[s]at z;exact⟨_,rfl,by rw[<-s]at z⊢;exact z⟩
theorem apw(c:Nat->K)(key:Nat->KF)(a:Nat):((ay a).map λb=>c ((kH key a)[b]!%a)).Perm ((ay a).map c):=by
 let⟨h,d⟩:=NH key a;have g:bJ (kH key a)=(ay a).map λb=>(kH key a)[b]!:=by
  refine qs (by simp[h]) λb f _=>?_;have:b<(kH key a).size:=by simpa using f
  simp[getElem!_pos,this]
 rw[g]at d;have e:=d.map λb=>c (b%a);rw[vW]at e;refine e.trans (avP (sP λb f=>?_));grind[Nat.mod_eq_of_lt]
theorem IM(a b:KF):(mz a b<0<->0<mz b a):=by
 unfold mz;have:=TO.aB.uw a.2 b.2;grind
theorem N9{id:Nat}(k:M[id]?=aa (.arr U 3 (X.map (cF ab))))(y:Z X<=1000000)(w:∀b∈X,dF b.af)(r:gG.Perm X)(i:gG.Pairwise λc d=>cr c d<0):
 C 32 [.q id U 0 (Z X),.fn 33 [] []] M (.aB []) (M.set id (.arr U 3 (gG.map (cF ab)))):=by
 rcases o:Z X with _|K;have e:X=[]:=Je.1 o;subst e;have e:gG=[]:=r.eq_nil;subst e;have:=aoU k;have e:M.set id (.arr U 3 ([].map (cF ab)))=M:=by
  let⟨E,F⟩:=fH.1 k;rw[<-F];exact zb E
 rw[e];exact this;have A:0<Z X:=by omega
 rw[<-o];let b:Nat->S:=λa=>(X[a]?).getD ⟨0,[],0⟩;have x:(ay (Z X)).map b=X:=by
  refine qs (by simp) λa f g=>?_;simp[b,bq g]
 have D:b9 (Z X) (λa=>cF ab (b a))=X.map (cF ab):=by
  show Ra (cF ab∘b) (ay (Z X))=_;grind
 have z:∀a,a<Z X->b a∈X:=λa f=>by
  grind
 have n:=aoT (row:=λa=>cF ab (b a)) (key:=λa=>kF (b a)) (n:=λa=>.agg (cF ab (b a))) (by rw[D];exact k) A y (λa f G _=>Im.snap (by simp)) (λa j f g=>by
  let⟨L,u,h,i⟩:=NJ (T:=false) (F:=false) (b a) (b j) (w _ (z a f));cases i
  exact⟨u,h⟩)
 have s:=apw b (λa=>kF (b a)) (Z X);rw[x]at s;have v:(ay (Z X)).map (λa=>b ((kH (λa=>kF (b a)) (Z X))[a]!%Z X))=gG:=by
  have t:=s.trans r.symm;refine Cw ?_ i λN=>t.mem_iff;have p:((ay (Z X)).map (λa=>b ((kH (λa=>kF (b a)) (Z X))[a]!%Z X))).Pairwise λc d=>cr c d≠0:=by
   refine(t.pairwise_iff (R:=λc d=>cr c d≠0) λ{c d} h e=>?_).2 (i.imp λh=>by omega);have:=(oz d c).1 e;exact h ((oz c d).2 ⟨this.1.symm,this.2.symm⟩)
  rw[ar1]at p⊢;intro a j f g m;have l:=p a j f g m;simp only[xD,CD]at l⊢;simp only[jX,List.length_range]at f g;have I:=aoM (λa=>kF (b a)) m g;rw[NF]at l⊢;have J:=IM (kF (b ((kH (λa=>kF (b a)) (Z X))[j]!%Z X))) (kF (b ((kH (λa=>kF (b a)) (Z X))[a]!%Z X)));omega
 have B:b9 (Z X) (λa=>cF ab (b ((kH (λa=>kF (b a)) (Z X))[a]!%Z X)))=gG.map (cF ab):=by
  rw[<-v,b9,vW]<;>rfl
 rw[B]at n;exact n
theorem ZW(a b:S):Ct a b=ad<->a=b:=by
 rw[Ct,ba,beq_iff_eq,beq_iff_eq,oz];constructor;rintro⟨⟨c,d⟩,e⟩;cases a;simp_all;grind
theorem apx(b e:List S)(n:Sm b)(q:∀l∈b,dF l.af):PR C 36 [eS T (cF ab) b,eS F (cF ab) e,.fn 37 [] []] (.bool (y (b=e))):=by
 refine S2.pr ?_;simp only[aX,cv,O];refine dw (λh=>?_) (λh=>?_);have:¬b=e:=by rintro rfl;simp at h
 rw[decide_eq_false this];exact .bool _ _;have o:Z b=Z e:=by simp at h;omega
 refine eB (U:=Z b) (c:=λd=>[ff,I d]) (λd=>b.take d=e.take d) (by simp) rfl (λd f j k r=>?_) (λj k=>?_);have m:d<Z e:=by omega
 simp only[i,G,A,O,a,f,decide_true];refine a8 ?_;simp only[aE f (fB _ _),aE m (fB _ _),O,ku];refine aI (dW:=cF ab b[d]) rfl (aI (dW:=cF ab e[d]) rfl ?_);refine aY (dW:=37) (oR:=[.agg (cF ab b[d]),.agg (cF ab e[d])]) rfl ?_;refine c (aoV b[d] e[d] (by grind)) ?_;simp only[bI,O];refine dw (λh=>?_) (λh=>?_);have:¬b=e:=by
  rintro rfl;have:=(ZW b[d] b[d]).2 rfl;rw[this]at h;cases h
 simp_all;rw[n.inc f,O];grind[Ct,List.take_succ_eq_append_getElem,ZW];simp only[i,G,A,O,a,cn,decide_false];refine bw ?_;have:b=e:=by rwa[dY,o,dY]at j
 rw[decide_eq_true this];exact .bool _ _
theorem ZX(h:uJ X bZ U)(i:gj X):(kd X bZ U=ad->∃d:U<Z X,(bZ∈X<->X[U].aj=bZ.aj))/\(kd X bZ U=ab->bZ∉X):=by
 have key:∀a(c:a<Z X),cr X[a] bZ=0->U=a:=by
  intro a c f;have g:U<=a:=Nat.le_of_not_lt λk=>by have:=h.lo a c k;omega
  rcases asa g with h2|h2;have d:U<Z X:=by omega
  have n:=h.hi U d (c7 _);have o:=i U a d c h2;grind[oz,cr];exact h2
 refine⟨λb=>?_,λb e=>?_⟩;unfold kd at b;split at b;rename_i m j;obtain⟨d,rfl⟩:=fH.1 j;refine⟨d,λe=>?_,λp=>?_⟩;obtain⟨a,c,rfl⟩:=sO e;grind[oz];have b:cr X[U] bZ=0:=by simpa using b
 have:=(oz _ _).1 b;have f:X[U]=bZ:=by
  generalize X[U]=l at*;cases l;cases bZ;simp_all
 grind;cases b
 obtain⟨a,c,rfl⟩:=sO e;have:=key a c ((oz _ _).2 ⟨rfl,rfl⟩);grind[kd,List.getElem?_eq_getElem,oz]
variable{bu:List Nat}
theorem apy(i:fb V aP)(z:uM V)(aA:qY V=[]){out:List S}(az:iP X=ab)(s:bE V aP out)(ak:ei V out X)(o:∀E:Int,E∉bu.map b4->gY E out X)(aF:ei V (fD V (bu.map b4) out) out){done:Nat->Bool}(aR:qm (Z V.Q) (cQ V) done fo):
 ∀{e:List S},j9 V (fo.map (·.map b4)) e (aa X)->bE V aP e->bu∈fo->uO V (bu.map b4) e->∀a∈X,a.ah∈bu.map b4->tL V out a:=by
 induction aR with
 |nil=>grind
 |cons done g fo w P R a5 F C a0=>
  intro e B l q H;have L:=B;rw[ej]at B;cases B with
  |cons _ _ be _ gs _ h K=>
   let⟨ai,_,_,_⟩:=EM i h l gs rfl;rcases b6.1 q with rfl|q;let⟨bb,x⟩:=IF i L l X rfl;have mem:∀{a:S}{k n:List S},gY a.ah k n->a∈k->a∈n:=λ{a k n} b l=>by
    have:a∈k.filter λf=>f.ah==a.ah:=by simp[l]
    rw[show k.filter _=n.filter _ from b]at this;grind
   have ac:ei V e out:=λa m=>by
    let⟨f,a2,N,a3,a4⟩:=x a m;refine⟨f,mem (gY.symm (o f.ah (by rw[N];exact H a m))) a2,N,a3,a4⟩
   have au:=N2 i aA (λf u=>(w f u).1) R;have am:yX V (bu.map b4) e out:=λr t p M I j=>by
    have A:=au r t p M I j;refine⟨A,?_⟩;have m:gY M.ah X e:=by
     refine EO L (λO d=>?_) X rfl;rw[ej]at d;rcases b6.1 d with rfl|d;exact A;obtain⟨v,y,rfl⟩:=cy.1 d;intro J;rcases N1 i w P t p I with b|⟨c,a6,b,a9⟩;grind;rw[b]at J;have:=(C.later v y c (EP.1 J)).2;grind
    exact m.symm.trans (o _ A).symm
   let⟨bi,b,af⟩:=NT i z h l s ac (ZB s.de ak az) am λr t p a W=>by
    exact(NP i s r t p a W).trans (λf u=>((oA i s _).1.ok f u).aj) aF
   cases b
   intro a m Y;apply af a;let⟨c,j,b⟩:=cy.1 Y;have b:=b.symm;have u:gY a.ah X gs:=by
    rw[b];refine EO K (λO d U=>?_) X rfl;obtain⟨v,y,rfl⟩:=cy.1 d;have:=(C.later v y c (EP.1 U)).2;rw[(F c (w c j).1).2 (.inr j)]at this;cases this
   grind;refine a0 K ai q λa x d=>?_;let⟨c,j,b⟩:=cy.1 d;have b:=b.symm;let⟨T,G⟩:=C.later bu q c j;have ax:(c:Int)∉g.map b4:=λz=>by
    rw[(F c T).2 (.inr (EP.1 z))]at G;cases G
   have o:=N0 h ax gs rfl;have:a∈gs.filter λa=>a.ah==(c:Int):=by simp[x,b]
   rw[show gs.filter _=e.filter _ from o]at this;exact H a (l5.1 this).1 d
def da(a:D)(c:List Int)(b:List S):Nat->List S
 |0=>[]
 |n+1=>fD a c (df a b (da a c b n))
structure IN(p:D)(cf:List aG)(m:List S)(c:List Int):Prop where
 hp:fb p cf
 ZY:uM p
 neg:NW p c
 v:bE p cf m
 fix:fD p c m=e1 c m
 iG:∀out,bE p cf out->ei p out m->(∀a:Int,a∉c->gY a out m)->ei p (fD p c out) out->∀f∈m,f.ah∈c->tL p out f
structure Oa(p:D)(cf:List aG)(m:List S)(c:List Int)(K:List S):Prop where
 v:bE p cf K
 le:ei p K m
 fresh:uO p c K
 IP:∀r∈p.ak,iq c r=ad->∀l∈r.ai,l.ah∉c->gY l.ah K m
theorem apz(c:fb V aP)(a:bE V aP X)(g:List Int):vS V (fD V g X):=
 (IC (Q:=λout=>bE V aP out/\vS V out) ⟨.nil V aP,by intro j a;cases a⟩ λr i h out b=>by
  have f:=uy c a i (yW h);exact⟨w5 c.aN _ b.1 f,Cv c.aN _ (λe d=>(b.1.ok e d).aj) (λe d=>(f e d).aj) b.2⟩).2
structure q9(p:D)(cf:List aG)(c:List Int)(A:List S):Prop where
 v:bE p cf A
 nb:vS p A
 inc:∀f∈A,f.ah∈c
section
variable{p:D}{cf:List aG}{m:List S}{c:List Int}{K A B:List S}
theorem q9.nil:q9 p cf c []:=⟨.nil p cf,(by intro b a;cases a),by simp⟩
theorem q9.step(d:fb p cf){a:List S}(b:bE p cf a):q9 p cf c (fD p c a):=⟨(oA d b c).1,apz d b c,NR⟩
theorem ra(d:fb p cf)(b:bE p cf K)(a:q9 p cf c A):bE p cf (df p K A):=w5 d.aN A b a.v.ok
theorem IQ(j:fb p cf)(i:bE p cf K)(e:q9 p cf c A):ei p K (df p K A)/\ei p A (df p K A):=by
 let⟨g,h⟩:=AG j.aN A (λb a=>(i.ok b a).aj) λb a=>(e.v.ok b a).aj;exact⟨g,λd f=>(h d f).resolve_left (e.nb d f)⟩
theorem ES(l:fb p cf)(j:bE p cf K)(i:q9 p cf c A){g:List S}(d:bE p cf g)(f:ei p K g)(h:ei p A g):ei p (df p K A) g:=
 IB l.aN d.de (λb a=>(d.ok b a).aj) A (λb a=>(j.ok b a).aj) (λb a=>(i.v.ok b a).aj) f λe k=>.inr (h e k)
theorem ET(h:fb p cf)(i:bE p cf K)(j:uO p c K)(a:q9 p cf c A):e1 c (df p K A)=A:=by
 have s:=ra h i a;refine EN h.aN (s.part c) a.v (λe f=>?_) λe f=>?_;let⟨o,q⟩:=gS.1 f;exact IA (Q:=(· ∈c)) h.aN a.v.de (λd b=>(a.v.ok d b).aj) A (λd b=>(i.ok d b).aj) (λd b=>(a.v.ok d b).aj) (λd b r=>absurd r (j d b)) (λe j _=>.inr ⟨e,j,rfl,rfl,.refl⟩) e o q;let⟨g,l,k,m,n⟩:=(IQ h i a).2 e f;exact⟨g,gS.2 ⟨l,by rw[k];exact a.inc e f⟩,k,m,n⟩
theorem ZZ(i:f∈c){d e:List S}(h:e1 c d=e1 c e):gY f d e:=by
 have g:∀b:List S,b.filter (λa=>a.ah==f)=(e1 c b).filter λa=>a.ah==f:=λb=>by
  rw[e1,Jc];grind
 grind[gY]
theorem yY(d:q9 p cf c A)(e:f∉c):gY f (df p K A) K:=IE A λb g a=>e (a▸d.inc b g)
theorem Z0(m:fb p cf)(k:bE p cf K)(l:uO p c K)(e:q9 p cf c A){g:List S}(j:e1 c g=A)(d:∀r∈p.ak,iq c r=ad->∀a∈r.ai,a.ah∉c->gY a.ah g K):fD p c g=fD p c (df p K A):=
 ZF λr i f a h=>by
  by_cases b:a.ah∈c;grind[ZZ,ET];exact(d r i f a h b).trans (yY e b).symm
theorem pE(a:fb p cf)(b:bE p cf K):∀n,q9 p cf c (da p c K n)
 |0=>.nil
 |n+1=>.step a (ra a b (pE a b n))
theorem Z1(b:fb p cf){a:List S}(f:bE p cf K)(j:uO p c K)(g:bE p cf a)(k:uO p c a)(h:∀r∈p.ak,iq c r=ad->∀d∈r.ai,d.ah∉c->gY d.ah K a):∀n,da p c K n=da p c a n
 |0=>rfl
 |n+1=>by
  have q:=Z1 b f j g k h n;have e:=pE (c:=c) b f n;show fD p c (df p K (da p c K n))=fD p c (df p a (da p c a n));rw[<-q];exact Z0 b g k e (ET b f j e) λr o l d m i=>(yY e i).trans (h r o l d m i)
section
variable(hI:IN p cf m c)(hk:Oa p cf m c K)
include hI hk
theorem IS(a:Nat):ei p (da p c K a) (e1 c m):=by
 induction a with
 |zero=>intro e d;cases d
 |succ a s=>
  have b:=pE (c:=c) hI.hp hk.v a;have q:=ra hI.hp hk.v b;rw[<-hI.fix];refine NQ hI.hp hI.ZY q hI.v (ES hI.hp hk.v b hI.v hk.le λe d=>?_) λr j h k i o=>?_;let⟨g,l,n⟩:=s e d;exact⟨g,(gS.1 l).1,n⟩;have f:=hI.neg r j h k i o;exact(yY b f).trans (hk.IP r j h k i f)
omit hk in
theorem Z2(a:bE p cf K)(b:Nat):ei p (da p c K b) (da p c K (b+1)):=by
 induction b with
 |zero=>intro t h;cases h
 |succ b m=>
  have e:=pE (c:=c) hI.hp a b;have d:=pE (c:=c) hI.hp a (b+1);have v2:=ra hI.hp a d;let⟨o,q⟩:=IQ hI.hp a d;refine NQ hI.hp hI.ZY (ra hI.hp a e) v2 (ES hI.hp a e v2 o (m.trans (λs l=>(d.v.ok s l).aj) q)) λr k i n j g=>?_;have f:=hI.neg r k i n j g;exact(yY e f).trans (yY d f).symm
theorem apA(h:da p c K U=da p c K (U+1)):da p c K U=e1 c m:=by
 have b:=pE (c:=c) hI.hp hk.v U;have n:=IS hI hk U;have i:bE p cf (m.filter λa=> !c.contains a.ah):=⟨nO.2 ((nO.1 hI.v.de).filter _),λa e=>hI.v.ok a (by grind)⟩;have l:uO p c (m.filter λa=> !c.contains a.ah):=λa e C=>by
  grind
 have o:∀f:Int,f∉c->gY f (m.filter λa=> !c.contains a.ah) m:=λf d=>by
  unfold gY;rw[Jc];grind
 have A:fD p c (df p (m.filter λa=> !c.contains a.ah) (da p c K U))=da p c K U:=by
  conv=>rhs;rw[h]
  exact Z0 hI.hp hk.v hk.fresh b (ET hI.hp i l b) λr z w B x d=>(yY b d).trans ((o _ d).trans (hk.IP r z w B x d).symm)
 have D:=ET hI.hp i l b;have y:=hI.iG _ (ra hI.hp i b) (ES hI.hp i b hI.v (λa e=>⟨a,by grind,rfl,rfl,.refl⟩) λa e=>by
  let⟨g,k,j⟩:=n a e;exact⟨g,(gS.1 k).1,j⟩) (λf d=>(yY b d).trans (o f d)) (by rw[A];exact(IQ hI.hp i b).2)
 refine EN hI.hp.aN b.v (hI.v.part c) n λa e=>?_;let⟨t,u⟩:=gS.1 e;let⟨g,k,j,q,s⟩:=y a t u;refine⟨g,?_,j,q,s⟩;grind[gS]
end
theorem apB(b:fb p cf)(d:bE p cf A)(a:q9 p cf c B)(h:ei p A B)(j:A≠B):lW p A<lW p B:=by
 have i:df p A B=B:=by
  let⟨_,g⟩:=IQ b d a;exact EN b.aN (ra b d a) a.v (ES b d a a.v h .refl) g
 have:=(Hy b.aN B (λf e=>(d.ok f e).aj) λf e=>(a.v.ok f e).aj).1;grind
theorem Z3(a:IN p cf m c)(b:bE p cf K):∀n,(∀d,d<n->da p c K d≠da p c K (d+1))->n<=lW p (da p c K n)
 |0,_=>tN _
 |n+1,h=>by
  have e:=Z3 a b n (by grind);have f:=apB a.hp (pE (c:=c) a.hp b n).v (pE (c:=c) a.hp b (n+1)) (Z2 a b n) (h n (by omega));omega
theorem Ob(a:IN p cf m c)(b:bE p cf K)(n:Nat)(h:∀d,d<n->da p c K d≠da p c K (d+1)):n<=540000:=by
 have e:=Z3 a b n h;have f:=LS (V:=p) a.hp.V6 (da p c K n);rcases n with _|n;omega;have g:=(oA a.hp (ra a.hp b (pE (c:=c) a.hp b n)) c).2;grind[da]
end
theorem Z4:∀(k:Nat){done:Nat->Bool},∀g∈kE U cZ k done,g≠[]
 |0,done=>by simp[kE]
 |k+1,done=>by
  intro g a;rw[kE]at a;split at a;cases a
  rename_i b d;let⟨e,c,_⟩:=za.1 d;rcases b6.1 a with rfl|a;have:b∈(ay U).filter (cY cZ b):=by
   simp only[l5,iz]at c⊢;exact⟨by simpa using c,by simp[cY]⟩
  grind;exact Z4 k g a
theorem qm.yZ{done:Nat->Bool}(h:qm U cZ done fo):fo.Pairwise λg a=>∀b∈g,b∉a:=by
 induction h with
 |nil=>exact .nil
 |cons done g fo j k l i m f e=>
  refine .cons (λa c b p d=>?_) e;let⟨n,o⟩:=f.later a c b d;grind
def nU(b:D)(g:List Nat):Bool:=match g with|[]=>ad|a::_=>(b.Q[a]?.map cO.ek).getD ab
def dx(c:List S)(a:List (List Nat))(b:Nat):List S:=e1 ((a.take b).flatten.map b4) c
structure Cx(p:D)(c:List Int)(K:List S)(f:S)(n:Nat):Prop where
 bb:0<n
 at':f∈da p c K n
 no:∀k,k<n->f∉da p c K k
structure pF(p:D)(m:List S)(L:List (List Nat))(k:Nat)(f:S)(r:Nat):Prop where
 ek:∀j(hj:j<Z L),j<k->f.ah∈L[j].map b4->nU p L[j]=ad->r=0
 view:∀j(hj:j<Z L),j<k->f.ah∈L[j].map b4->nU p L[j]=ab->Cx p (L[j].map b4) (dx m L j) f r
 none:(∀j(hj:j<Z L),j<k->f.ah∉L[j].map b4)->r=0
def nV(f:D)(b:List Int)(d:List S)(r:Nat)(c:S)(g a:Nat):Prop:=if c.ah∈b then(a=0/\∀e,e<r->c∉da f b d e)\/(a<r/\Cx f b d c a)else a=g
section
variable{p:D}{c:List Int}{K:List S}{f:S}{r r0 v:Nat}
theorem nV.start(h:f.ah∈c->r0=0):nV p c K 1 f r0 r0:=by
 grind[nV,da]
theorem nV.next(g:0<r)(h:nV p c K r f r0 v):nV p c K (r+1) f r0 (if f.ah∈c/\v=0/\f∈da p c K r then r else v):=by
 unfold nV at h⊢;split;rename_i d;rw[if_pos d]at h;rcases h with⟨b,a⟩|⟨b,a⟩;by_cases e:f∈da p c K r;rw[if_pos ⟨d,b,e⟩];exact .inr ⟨by omega,g,e,a⟩;grind;have:=a.bb;grind;grind
theorem nV.done(h:nV p c K r f r0 v)(a:f.ah∈c)(d:U<r)(b:f∈da p c K U):Cx p c K f v:=by
 grind[nV,absurd]
theorem nV.out(h:nV p c K r f r0 v)(a:f.ah∉c):v=r0:=by
 grind[nV]
end
section
variable{p:D}{m:List S}{L:List (List Nat)}{k:Nat}{f:S}{r:Nat}
theorem pF.zero:pF p m L 0 f 0:=⟨λa _ h=>by omega,λa _ h=>by omega,λ_=>rfl⟩
theorem pF.fresh(b:L.Pairwise λg k=>∀a∈g,a∉k)(d:k<Z L)(h:pF p m L k f r)(c:f.ah∈L[k].map b4):r=0:=
 h.none (by grind[Int.ofNat.inj,List.pairwise_iff_getElem])
theorem pF.apC(i:L.Pairwise λg k=>∀n∈g,n∉k)(j:k<Z L)(o:nU p L[k]=ad)(h:pF p m L k f r):pF p m L (k+1) f r:=by
 refine⟨λa c l b d=>?_,λa c l b d=>?_,λq=>h.none (by grind)⟩;by_cases e:a=k;subst e;exact h.fresh i j b;exact h.ek a c (by omega) b d;by_cases e:a=k;grind;exact h.view a c (by omega) b d
theorem pF.apD(u:L.Pairwise λg k=>∀q∈g,q∉k)(l:k<Z L)(t:nU p L[k]=ab)(h:pF p m L k f r)(s:f.ah∈L[k].map b4->Cx p (L[k].map b4) (dx m L k) f U)(d:f.ah∉L[k].map b4->U=r):pF p m L (k+1) f U:=by
 have i:∀a(b:a<Z L),a<k->f.ah∈L[a].map b4->f.ah∉L[k].map b4:=by grind[Int.ofNat.inj,List.pairwise_iff_getElem]
 refine⟨λa b n c e=>?_,λa b n c e=>?_,λo=>?_⟩;by_cases j:a=k;grind;rw[d (i a b (by omega) c)];exact h.ek a b (by omega) c e;by_cases j:a=k;grind;rw[d (i a b (by omega) c)];exact h.view a b (by omega) c e;rw[d (o k l (by omega))];exact h.none (by grind)
end
theorem Oc(h:q8 V aP X)(c:List Int):q8 V aP (e1 c X):=
 ⟨h.v.part c,λa b=>h.ty a (gS.1 b).1,λa b=>h.nb a (gS.1 b).1⟩
theorem Od(c:fb V aP)(g:iY V){b:List Int}(a:q8 V aP X):∀n,q8 V aP (df V X (da V b X n))
 |0=>a
 |n+1=>by
  have h:=Od c g (b:=b) a n;have f:=pE (c:=b) c a.v (n+1);refine⟨ra c a.v f,Cu _ a.ty (ID λr l k i j=>ZO c g h.v h.ty l (yW k) i j),Cv c.aN _ (λe d=>(a.v.ok e d).aj) (λe d=>(f.v.ok e d).aj) a.nb⟩
theorem Z5(d:X.Nodup)(e:gG.Pairwise λb c=>cr b c<0)(h:∀a,a∈gG<->a∈X):gG.Perm X:=by
 refine(OZ ?_ d).2 h;exact e.imp (by grind[oz])
theorem apE(g:fb V aP)(d:bE V aP X)(e:uO V ct X)(b:q9 V aP ct gG):(df V X gG).Perm (X++gG)/\(df V X gG).Pairwise λk l=>cr k l<0:=by
 have i:=nO.1 (ra g d b).de;refine⟨Z5 ?_ i λa=>?_,i⟩;refine tQ.2 ⟨BZ d.de,BZ b.v.de,λa c q p m=>?_⟩;subst m;exact e a c (b.inc a p);by_cases c:a.ah∈ct;have o:a∈df V X gG<->a∈e1 ct (df V X gG):=by rw[gS];simp[c]
 rw[o,ET g d e b,dt];exact⟨.inr,λh=>h.resolve_left λh=>e a h c⟩;have f:∀j:List S,a∈j<->a∈j.filter λn=>n.ah==a.ah:=by simp
 rw[f (df V X gG),show(df V X gG).filter _=X.filter _ from yY b c,<-f X,dt];exact⟨.inl,λh=>h.resolve_right λh=>c (b.inc a h)⟩
theorem apF(d:bE V aP X)(p:fo.Pairwise λg U=>∀a∈g,a∉U)(r:U<Z fo):(dx X fo (U+1)).Perm (dx X fo U++e1 (fo[U].map b4) X)/\(dx X fo (U+1)).Pairwise λb c=>cr b c<0:=by
 have e:(dx X fo (U+1)).Pairwise λb c=>cr b c<0:=nO.1 (d.part _).de;have s:∀(a:S),a.ah∈(fo.take (U+1)).flatten.map b4<->a.ah∈(fo.take U).flatten.map b4\/a.ah∈fo[U].map b4:=by grind[List.take_succ_eq_append_getElem,List.flatten_append]
 refine⟨Z5 ?_ e λa=>?_,e⟩;refine tQ.2 ⟨BZ (d.part _).de,BZ (d.part _).de,λa l u m f=>?_⟩;subst f;let⟨b,j,h⟩:=cy.1 (gS.1 l).2;let⟨c,o,i⟩:=cy.1 (gS.1 m).2;have:b=c:=by
  have:=h.trans i.symm;exact asg this
 subst this;let⟨g,k,n⟩:=uQ.1 j;obtain⟨t,q,rfl⟩:=sO k;grind[List.length_take,List.pairwise_iff_getElem];grind[dx,gS]
theorem apG(x:fb V aP)(w:bE V aP X):∀{a:List (List Nat)}{done:Nat->Bool},qm (Z V.Q) (cQ V) done a->∀{k:Nat}(j:k<Z a){m:List Int},m=a[k].map b4->
 (∀b,done b=ab)->Oa V aP X m (dx X a k):=by
 intro a done l k j m E P;subst E;have O:=l.yZ;refine⟨w.part _,λd i=>⟨d,(gS.1 i).1,rfl,rfl,.refl⟩,λd i o=>?_,λr y n e v f=>?_⟩;let⟨q,f,s⟩:=cy.1 (gS.1 i).2;let⟨b,u,A⟩:=cy.1 o;have:q=b:=by
  have:=s.trans A.symm;exact asg this
 subst this;let⟨g,F,M⟩:=uQ.1 f;obtain⟨T,R,rfl⟩:=sO F;grind[List.length_take,List.pairwise_iff_getElem];have key:e.ah= -1\/e.ah∈(a.take k).flatten.map b4:=by
  have:∀{a:List (List Nat)}{done:Nat->Bool},qm (Z V.Q) (cQ V) done a->∀(k:Nat)(j:k<Z a),iq (a[k].map b4) r=ad->e.ah∉a[k].map b4->e.ah= -1\/∃b:Nat,e.ah=b/\(done b=ad\/b∈(a.take k).flatten):=by
   intro a done l;induction l with
   |nil=>grind
   |cons done g a B C K I L U G=>
    intro k j n f;rcases k with _|k;rcases N1 x B C y n v with c|⟨b,u,c,hd⟩;exact .inl c;grind;rcases G k (by grind) (by grind) (by grind)with c|⟨b,c,hd⟩;exact .inl c;refine .inr ⟨b,c,?_⟩;rcases hd with hd|hd;by_cases u:b<Z V.Q;grind;have z:=(x.iU r y).lits e v;by_cases t:e.ax=5;have:=(z.cmp t).2;omega;let⟨H,N,J,_⟩:=z.ah t;omega;grind
  rcases this l k j n f with c|⟨b,c,hd⟩;exact .inl c;grind
 unfold gY dx;rcases key with c|o;have no:∀p:List S,(∀d∈p,d∈X)->p.filter (λd=>d.ah==e.ah)=[]:=λp h=>by
  rw[Jk];intro d i o;let⟨q,f,s,_⟩:=(w.ok d (h d i)).fz;grind
 grind[gS];rw[e1,Jc];grind
structure apH(p:D)(cf:List aG)(m:List S)(L:List (List Nat)):Prop where
 ne:∀g∈L,g≠[]
 len:∀g∈L,Z g<=Z p.Q
 num:Z L<=Z p.Q
 lt:∀g∈L,∀a∈g,a<Z p.Q
 yZ:L.Pairwise λg k=>∀x∈g,x∉k
 IT:∀k(hk:k<Z L),nU p L[k]=ab->IN p cf m (L[k].map b4)
 AI:∀k(hk:k<Z L),Oa p cf m (L[k].map b4) (dx m L k)
 mL:q8 p cf m
theorem Z6{g:List Nat}(h:nU V g=ab)(c:∀a∈g,a<Z V.Q):∃a,∃b:a<Z V.Q,a∈g/\V.Q[a].ek=false:=by
 rcases g with _|⟨a,g⟩;cases h
 have b:=c a (by simp);refine⟨a,b,by simp,?_⟩;simpa[nU,bq b]using h
theorem EU(b:xy V X)(c:fb V (fU V X))(k:j9 V (tA V) X (aa gG))(w:iP gG=ab):apH V (fU V X) gG (eN (Z V.Q) (cQ V)):=by
 have n:=yU b.val b.form;have d:=IH V;have j:∀g∈eN (Z V.Q) (cQ V),∀e∈g,e<Z V.Q:=λg a e f=>(d.later g a e f).1;have i:=(ER b.val c b.form k).2;refine⟨λg a=>Z4 _ g a,λg a=>Mp _ g a,Mq _,j,d.yZ,λx h u=>?_,λx h=>apG c i.v d h rfl λ_=>rfl,i⟩;have a:=bn h;let⟨e,f,t,s⟩:=Z6 u (j _ a);have m:=ZS b a t f s;have l:=b.str
 refine⟨c,NU b.val,N2 c l (j _ a) (d.tp _ a),i.v,aph c (NU b.val) l d k n _ a m,λout o p q r=>?_⟩;exact apy c (NU b.val) l w o p q r d k n a m
def IU(a:D)(c:List S)(d:Nat->Nat):Prop:=∀b(_:b<Z c),pF a c (eN (Z a.Q) (cQ a)) (Z (eN (Z a.Q) (cQ a))) c[b] (d b)
def vT(c:Nat)(b:AV)(a:List S):Prop:=b=eS ab (cF ab) a\/(a=[]/\b=.q c 0 0 0)
theorem vT.pl(h:vT U E X):E.pl=E/\E.bU=true:=by
 rcases h with rfl|⟨-,rfl⟩<;>exact⟨rfl,rfl⟩
theorem vT.rd(h:vT U E X)(a:M[U]?=aa (.arr 0 3 [])):h6 M 3 E=aa (X.map (cF ab))/\gu .sl E M=aa (I (Z X)):=by
 rcases h with rfl|⟨rfl,rfl⟩;exact⟨uk (fB ab) _ _ _,by simp⟩;exact⟨BX a (by simp),rfl⟩
theorem vT.mr(h:vT U E X)(b:M[U]?=aa (.arr 0 3 [])):∃a,aM M .cd E (eS a (cF ab) X):=by
 rcases h with rfl|⟨rfl,rfl⟩;simp[Im.snap];exact⟨ad,om (a7:=cF ab) (x:=[]) b (by simp)⟩
theorem apI{id g:Nat}(h:vT U E X):fS 1 [.aq] 2 [(0,.q id g 0 N),(1,E)]=aa (.sl ab [[.q id g 0 N],[E]]):=by
 rcases h with rfl|⟨-,rfl⟩<;>rfl
abbrev qo(b:Nat)(c:Nat->Nat):Obj:=.arr 0 1 (b9 b λa=>cN (c a))
variable{kj:Nat -> Nat}
theorem apJ:(b9 U λN=>cN (kj N)).set N [I (z:Int)]=b9 U λa=>cN (if a=N then z else kj a):=by
 grind[MS,Cd,bN,cN]
variable{hK:Nat × Obj}
theorem Holds.two{a:Nat×Obj}(h:Holds M (hK::a::k)):Holds M [a,hK]:=by
 have c:=h.1;refine⟨?_,λb d=>h.2 b (by grind)⟩;grind
theorem Oe(d:gj X)(h:ei V X gG):Z X<=Z gG:=by
 have c:(X.map kF).Nodup:=by
  rw[aa4,aa9];exact(nO.1 d).imp λ{i j} h a=>by
   rw[NF,a,Zk]at h;omega
 have:=Ab c (a:=gG.map kF) λo f=>by
  obtain⟨b,e,rfl⟩:=cy.1 f;let⟨g,k,l,m,_⟩:=h b e;grind[kF]
 grind
theorem k7(f8:e8 C)(f9:vQ C)(aA:xi C)(xw:∀E L,C 30 [.sl E []] L (.q (Z L+1) 0 0 0) (L++[.arr 0 3 [],.arr 0 3 []]))(B:xy V X)(hk:eA V)(hf:∀s∈X,dF s.af):
 ∃U,j9 V (tA V) X U/\(∀gs,U=aa gs->bE V (fU V X) gs/\iP gs=ab)/\(U=ae->PR C 7 [.agg (cP ab T V),eS F (cF ab) X] (.aB [eS ab (cF ab) [],eS ab cN [],I 2]))/\
  ∀d,U=aa d->∃ci,PR C 7 [.agg (cP ab T V),eS F (cF ab) X] ci/\∃w,IU V d w/\ci=.aB [eS ab (cF ab) d,eS ab cN ((ay (Z d)).map w),I 0]:=by
 let⟨U,hj,ha,gU⟩:=apb f8 f9 aA (T:=T) (F:=F) B hk hf;refine⟨U,hj,ha,λbb=>?_,λd bb=>?_⟩;subst bb;refine r7.pr ?_;simp only[eE,O,gy];refine c gU ?_;refine aI (dW:=eS ab (cF ab) ([]:List S)) rfl (aI (dW:=I 2) rfl ?_);simp only[cv,O];refine a8 ?_;exact .aB _ _ _ (.cons _ _ _ _ _ (.aq _ _) (.cons _ _ _ _ _ (.aq _ _) (.cons _ _ _ _ _ (.int _ _ _) (.nil _))));subst bb;let⟨d1,he⟩:=ha d rfl
 have H:=AF B.kz B.val hk hf B.AH;have sp:=d1.small H.v he;have g2:=Cp B.ml B.val;let⟨st,_,hh⟩:=yT B.ml;have rt:=H.v.Q;have s1:=xe.2 B.val;have N:=EU B H.v hj he;have kw:=N5 B.val (IJ B.val B.form).2;have rx:∀w,IU V d w=∀k(_:k<Z d),pF V d (eN (Z V.Q) (cQ V)) (Z (eN (Z V.Q) (cQ V))) d[k] (w k):=λ_=>rfl;have i6:=XM aA (T:=false) (F:=T) V g2 hh;generalize eN (Z V.Q) (cQ V)=l at*;have rg:=N.num
 have f6:∀{hx:List S},bE V (fU V X) hx->∀s∈hx,dF s.af:=λh=>bE.Ah H h.ok;have i2:∀L,gu .sl (eS ab (cF ab) d) L=aa (I (Z d)):=λ_=>by simp
 have ty:dx d l 0=[]:=by unfold dx e1;rw[Jk];simp
 refine r7.ex ?_;simp only[eE,O,gy];refine c gU ?_;refine aI (dW:=eS ab (cF ab) d) rfl (aI (dW:=I 0) rfl ?_);simp only[cv,O];refine bw ?_;rw[i2,O];refine aY (dW:=.q 0 0 0 (Z d)) (oR:=[.arr 0 1 (dh (Z d) [I 0])]) (se (by omega) (by omega)) ?_;refine aY (dW:=.q 1 0 0 0) (oR:=[.arr 0 1 (dh (Z d) [I 0]),.arr 0 3 []]) rfl ?_;refine c i6 ?_;simp only[aX,O]
 refine bG (K:=Nat×(Nat->Nat)×AV×List Obj) (λn=>[n.2.2.1,I n.1]) (λn=>n.2.2.2) (λn=>Z l -n.1) (λn=>n.1<=Z l/\(∀k(h:k<Z d),pF V d l n.1 d[k] (n.2.1 k))/\∃id g,n.2.2.1=.q id g 0 (Z (dx d l n.1))/\Holds n.2.2.2 [(0,qo (Z d) n.2.1),(id,.arr g 3 ((dx d l n.1).map (cF ab)))])
  (0,λ_=>0,.q 1 0 0 0,[.arr 0 1 (dh (Z d) [I 0]),.arr 0 3 []]) ⟨tN _,λk _=>pF.zero,1,0,?_,?_,?_⟩ ?_
 grind;simp;intro a5 ho;simp only[b6,jN,or_false]at ho;rcases ho with rfl|rfl;simp only[dj,e7,qo,Obj.arr.injEq,true_and];refine qs (by simp[b9]) λk a6 c2=>?_;simp[b9,cN];grind;rintro⟨f,w,t0,L⟩ ⟨d0,d2,id,g,g8,es⟩ m9 hs;simp only at d0 d2 g8 es hs⊢;subst g8;simp only[i,G,A,O,a];refine b (λh=>?_) (λh=>?_)
 ·have am:f<Z l:=by simpa using h
  have f2:=bn am;have pp:=N.len _ f2;have cb:=N.AI f am;have lc:=N.IT f am;let⟨f3,g7⟩:=apF d1 N.yZ am;have ps:Z (dx d l f)<=Z d:=nX ..;have pu:Z (dx d l (f+1))<=Z d:=nX ..;have ro:Z (e1 (l[f].map b4) d)<=Z d:=nX ..
  refine kT (λF R=>∃d3 az be a5 d4,F=[.q az be 0 (Z (dx d l (f+1))),a5,d4]/\(∀k(h:k<Z d),pF V d l (f+1) d[k] (d3 k))/\Holds R [(0,qo (Z d) d3),(az,.arr be 3 ((dx d l (f+1)).map (cF ab)))]) (λs2 g5=>?_) ?_
  ·
   let⟨z,be,f1⟩:=List.exists_cons_of_ne_nil (N.ne _ f2);have g3:=N.lt _ f2 z (by grind);have K:nU V l[f]=V.Q[z].ek:=by rw[f1];simp[nU,bq g3]
   have os:Z (l[f].map b4)<=24:=by rw[jX];omega
   have ke:0<Z (l[f].map b4):=by rw[f1];simp
   have kl:(l[f].map b4)[0]=(z:Int):=by simp[f1]
   have aF:Sm (l[f].map b4):=by unfold Sm;omega
   have m5:=λk(h:k<Z d)(hf:d[k].ah∈l[f].map b4)=>(d2 k h).fresh N.yZ am hf;have i0:=λk(h:k<Z d) K=>(d2 k h).apC N.yZ am K;have v1:=λk(h:k<Z d) K(ci:Nat)=>(d2 k h).apD (U:=ci) N.yZ am K;simp only[aE am (w7 _),O,aJ,tq,xf];generalize pi:l[f].map b4=m at*;refine aY (dW:=.ptr (Z L) 0 0 0) (oR:=L++[.arr 0 1 [[.aq]]]) rfl ?_;have a6:=es.alloc (.arr 0 1 [[.aq]]);generalize op:Z L=x at*
   generalize L++[Obj.arr 0 1 [[.aq]]]=io at*;refine aI (lF (a6.get (U:=x) (gF:=.arr 0 1 [[.aq]]) (by simp)) rfl (by decide) rfl rfl) ?_;have c2:=a6.set (.arr 0 1 [[eS ab cI m]]);simp only[y9];generalize io.set x (.arr 0 1 [[eS ab cI m]])=cl at*;refine aY (dW:=.ptr (Z cl) 0 0 0) (oR:=cl++[.arr 0 1 [[.fP]]]) rfl ?_;have dl:=c2.alloc (.arr 0 1 [[.fP]]);generalize Z cl=ax at*
   generalize cl++[Obj.arr 0 1 [[.fP]]]=ip at*;refine aI (lF (dl.get (U:=ax) (gF:=.arr 0 1 [[.fP]]) (by simp)) rfl (by decide) rfl rfl) ?_;have br:=dl.set (.arr 0 1 [[.fn 27 [] [.ptr x 0 0 0]]]);simp only[y9,zz];generalize ip.set ax (.arr 0 1 [[.fn 27 [] [.ptr x 0 0 0]]])=co at*;clear a6 c2 dl;simp only[bh,aJ,kv,e,O];have go:=br.get (U:=x) (gF:=.arr 0 1 [[eS ab cI m]]) (by simp)
   refine aI (gA go rfl) ?_;have m3:∀p,bP 1 (eS ab cI m) (I 0) p=aa (.aH ab (cI m[0]) 0):=λp=>aE (a7:=cI) ke (jh _);rw[m3,O,kl];simp only[aJ,lN,O,aE g3 (ji _ _),bh,Ge,e];refine b (λjp=>?_) (λm0=>?_)
   ·
    have K:nU V l[f]=true:=by rw[K];exact jp
    refine c4 (aps xw d (by omega) br) rfl ?_;rintro r cs ⟨ce,gc,rfl,ak⟩;have ak:Holds cs ((ce,.arr gc 3 (d.map (cF ab)))::(ax,.arr 0 1 [[.fn 27 [] [.ptr x 0 0 0]]])::(x,.arr 0 1 [[eS ab cI m]])::[(0,qo (Z d) w),(id,.arr g 3 ((dx d l f).map (cF ab)))]):=ak;refine c4 (apv aF d (by omega) ak) rfl ?_;rintro r it ⟨J,rfl,el⟩;have mk:(d.filter λs=>m.contains s.ah)=e1 m d:=rfl;rw[mk]at el⊢
    have n8:=el.get (U:=ce) (gF:=.arr gc 3 ((e1 m d).map (cF ab)++J)) (by simp);have em:Holds it ([(id,.arr g 3 ((dx d l f).map (cF ab)))]++[(0,qo (Z d) w)]):=by
     have:=el.tail.tail.tail;exact this.perm (List.Perm.swap ..)
    let⟨az,bi,iG,d6,bv⟩:=xz.app (bytes:=40) (bB.j bB.of) em (dG:=.q ce gc 0 (Z (e1 m d))) (lx:=e1 m d) (by simp_all[BX]) (by omega);refine aY d6 ?_;have d7:=bv.get (AT ..);refine xk rfl (N9 (gG:=dx d l (f+1)) d7 (by simp;omega) (λs hf=>?_) f3 g7) ?_;rcases dt.1 hf with hf|hf;exact f6 d1 s (gS.1 hf).1;grind;refine g5 _ _ ⟨w,az,bi,_,_,by rw[f3.length_eq],λk h=>i0 k h K,?_⟩
    exact(bv.set (.arr bi 3 ((dx d l (f+1)).map (cF ab)))).perm (List.Perm.swap ..)
   ·
    have K:nU V l[f]=false:=by rw[K];exact m0
    have fy:=lc K;have Y:bE V (fU V X) (dx d l f):=cb.v;refine aY (dW:=.q (Z co) 0 0 0) (oR:=co++[.arr 0 3 []]) rfl ?_;have ak:=br.alloc (.arr 0 3 []);generalize Z co=a4 at*;generalize co++[Obj.arr 0 3 []]=cs at*;have ak:Holds cs ((0,qo (Z d) w)::((id,.arr g 3 ((dx d l f).map (cF ab)))::(ax,.arr 0 1 [[.fn 27 [] [.ptr x 0 0 0]]])::(x,.arr 0 1 [[eS ab cI m]])::[(a4,.arr 0 3 [])])):=by
     refine ak.perm ?_;exact(Jg (l₁:=[(a4,Obj.arr 0 3 []),(ax,.arr 0 1 [[.fn 27 [] [.ptr x 0 0 0]]]),(x,.arr 0 1 [[eS ab cI m]])]) (l₂:=[(0,qo (Z d) w),(id,.arr g 3 ((dx d l f).map (cF ab)))])).trans ((avQ _).append (l₁:=[(0,qo (Z d) w),(id,.arr g 3 ((dx d l f).map (cF ab)))]) (Jg (l₁:=[(a4,Obj.arr 0 3 [])]) (l₂:=[(ax,.arr 0 1 [[.fn 27 [] [.ptr x 0 0 0]]]),(x,.arr 0 1 [[eS ab cI m]])])))
    generalize i9:((id,Obj.arr g 3 ((dx d l f).map (cF ab)))::(ax,.arr 0 1 [[.fn 27 [] [.ptr x 0 0 0]]])::(x,.arr 0 1 [[eS ab cI m]])::[(a4,.arr 0 3 [])])=W at ak;have gid:∀{p:List Obj},Holds p W->p[id]?=aa (.arr g 3 ((dx d l f).map (cF ab))):=λh=>h.get (by grind);have i5:∀{p:List Obj},Holds p W->p[ax]?=aa (.arr 0 1 [[.fn 27 [] [.ptr x 0 0 0]]]):=λh=>h.get (by grind)
    have gt:∀{p:List Obj},Holds p W->p[x]?=aa (.arr 0 1 [[eS ab cI m]]):=λh=>h.get (by grind);have d9:∀{p:List Obj},Holds p W->p[a4]?=aa (.arr 0 3 []):=λh=>h.get (by grind);clear br go
    refine bG (K:=Nat×(Nat->Nat)×AV×List Obj) (λn=>[n.2.2.1,I ((n.1+1:Nat):Int)]) (λn=>n.2.2.2) (λn=>540001 -n.1) (λn=>(∀o,o<n.1->da V m (dx d l f) o≠da V m (dx d l f) (o+1))/\(∀k(h:k<Z d),nV V m (dx d l f) (n.1+1) d[k] (w k) (n.2.1 k))/\vT a4 n.2.2.1 (da V m (dx d l f) n.1)/\Holds n.2.2.2 ((0,qo (Z d) n.2.1)::W))
     (0,w,.q a4 0 0 0,cs) ⟨λo ac=>by omega,λk h=>nV.start (m5 k h),.inr ⟨rfl,rfl⟩,ak⟩ ?_
    rintro⟨t,f7,hH,p⟩ ⟨g9,f4,au,eq⟩ nl hu;simp only at g9 f4 au eq hu⊢;have sz:t<=540000:=Ob fy Y t g9;have bD:=pE (c:=m) H.v Y t;have a9:=pE (c:=m) H.v Y (t+1);have qr:Z (da V m (dx d l f) t)<=60000:=by
     rcases t with _|t;simp[da];exact(oA H.v (ra H.v Y (pE (c:=m) H.v Y t)) m).2
    have lm:Z (da V m (dx d l f) (t+1))<=60000:=(oA H.v (ra H.v Y bD) m).2;have hn:=ra H.v Y bD;let⟨hm,mt⟩:=apE H.v Y cb.fresh bD;have li:q8 V (fU V X) (df V (dx d l f) (da V m (dx d l f) t)):=Od H.v B.val (b:=m) (Oc N.mL _) t;have s0:=Oe hn.de (ES H.v Y bD d1 cb.le λs hf=>by
     let⟨g,i3,bm⟩:=IS fy cb t s hf;exact⟨g,(gS.1 i3).1,bm⟩)
    have pm:=N4 B.val kw li;have g4:da V m (dx d l f) t=da V m (dx d l f) (t+1)->da V m (dx d l f) t=e1 m d:=apA fy cb;have ls:=λk(h:k<Z d)=>(f4 k h).next (by omega);have hl:da V m (dx d l f) (t+1)=fD V m (df V (dx d l f) (da V m (dx d l f) t)):=rfl;simp only[i,G];rw[apI au,O]
    have m7:IL (.q id g 0 (Z (dx d l f))) (dx d l f) ((0,qo (Z d) f7)::W):=⟨rfl,rfl,λp aA=>⟨by rw[BX (gid aA.tail) (by simp),lq,gT (by simp)],rfl⟩⟩;have m6:IL hH (da V m (dx d l f) t) ((0,qo (Z d) f7)::W):=⟨au.pl.1,au.pl.2,λp aA=>au.rd (d9 aA.tail)⟩;generalize ol:da V m (dx d l f) t=ai at*;refine c4 (apr m7 m6 (by omega) eq) rfl ?_;rintro r h4 ⟨ce,gc,rfl,bm⟩;have hO:=bm.get (AT ..)
    refine xk rfl (N9 (gG:=df V (dx d l f) ai) hO (by simp;omega) (λs hf=>?_) hm mt) ?_;grind;have c1:=bm.set (.arr gc 3 ((df V (dx d l f) ai).map (cF ab)));generalize h4.set ce (.arr gc 3 ((df V (dx d l f) ai).map (cF ab)))=ii at*;have h1:=c1.get (AT ..);refine aI (gA (gt c1.tail.tail) rfl) ?_;rw[<-hm.length_eq];have ms:Z (df V (dx d l f) ai)<=100000:=by omega
    refine eV _ (Nx f8 f9 aA (T:=T) (F:=true) (bC:=false) (c8:=false) (df V (dx d l f) ai) m H hn ms (by grind) g2 hh B.AH B.str aF) (.cons _ _ _ _ _ (Im.snap (by simp)) (.cons _ _ _ _ _ (Im.snap (by simp)) (.cons _ _ _ _ _ (om h1 (by simp)) (.nil _)))) (NV _) ?_;rw[<-hl];have i4:=c1.tail;clear hO h1 bm c1 eq;have g1:da V m (dx d l f) (t+1)=da V m (dx d l f) (t+1):=rfl
    generalize g0:da V m (dx d l f) (t+1)=u at a9 lm g4 ls hl⊢;have m8:∀(s:S) o f(ac:o<Z u)(d0:f<Z u),o<f->(0<=cr u[o] s->0<cr u[f] s):=λs o f ac d0 l0 h=>by
     have a6:=a9.v.de o f ac d0 l0;rw[NF]at h a6⊢;have c2:=IM (kF s) (kF u[o]);have dl:=IM (kF u[o]) (kF u[f]);have br:=IM (kF s) (kF u[f]);by_cases bb:mz (kF u[o]) (kF s)=0;have:=(oz u[o] s).1 bb;grind[kF];grind[mz,kF,Zl]
    refine bG (K:=Nat×(Nat->Nat)×List Obj) (λn=>[I n.1]) (λn=>n.2.2) (λn=>Z d -n.1) (λn=>n.1<=Z d/\(∀k(h:k<Z d),nV V m (dx d l f) (if k<n.1 then t+2 else t+1) d[k] (w k) (n.2.1 k))/\Holds n.2.2 ((0,qo (Z d) n.2.1)::W)) (0,f7,ii) ⟨tN _,λk h=>by simpa using f4 k h,i4⟩ ?_;rintro⟨k,P,p⟩ ⟨kx,a3,M⟩ n6 hw;simp only at kx a3 M hw⊢;have e0:=M.get (AT ..);simp only[G,A,O,a];refine b (λh=>?_) (λh=>?_)
    ·have aR:k<Z d:=by simpa using h
     refine kT (λF R=>∃d5,(∀o(h:o<Z d),nV V m (dx d l f) (if o<k+1 then t+2 else t+1) d[o] (w o) (d5 o))/\Holds R ((0,qo (Z d) d5)::W)) (λk3 g6=>?_) ?_
     ·simp only[aE aR (fB _ _),O,ku]
      refine aI (dW:=cF ab d[k]) rfl ?_;let⟨f5,hg,i7⟩:=X1 (T:=false) (F:=false) (bC:=false) (λa5 d4 h=>NJ a5 d4 h) u d[k] (by grind[Sm]) (f6 a9.v) a9.v.de (m8 _);refine c i7 ?_;refine aI (dW:=I (f5:Int)) rfl (aI (dW:=.bool (kd u d[k] f5)) rfl ?_);refine kT (λF R=>∃r,F=.bool (y (d[k].ah∈m/\P k=0/\d[k]∈u))::r/\R=p) (λk4 ld=>?_) ?_
      have d8:∀E:Bool,(E=ad<->(d[k].ah∈m/\P k=0/\d[k]∈u))->∀r,k4 (.bool E::r) p:=λE K r=>ld _ _ ⟨r,by rw[show E=y (d[k].ah∈m/\P k=0/\d[k]∈u)by rw[iA,K,decide_eq_true_iff]],rfl⟩;refine aI (gA (i5 M.tail) rfl) ?_;refine aY (dW:=27) (oR:=[.agg (cF ab d[k]),.ptr x 0 0 0]) rfl ?_
      refine eV _ (Zt (T:=false) (F:=true) (bC:=false) d[k] m aF) (.cons _ _ _ _ _ (Im.snap (by simp)) (.cons _ _ _ _ _ (ZU (gt M.tail)) (.nil _))) (.bool _) ?_;refine aV (λa0=>?_) (λa0=>d8 _ (by simp at a0;simp[a0]) _);have a0:d[k].ah∈m:=by simpa using a0
      refine aI (fw e0 aR) ?_;rw[c0 e0 (xl _ aR)];simp only[wT,O,c6];refine aV (λcc=>?_) (λcc=>d8 _ (by simp at cc;simp[cc]) _);have cc:P k=0:=by simp at cc;omega
      refine aV (λf0=>?_) (λf0=>d8 _ (by simp[(ZX hg a9.v.de).2 f0]) _);let⟨mp,rc⟩:=(ZX hg a9.v.de).1 f0;simp only[aE mp (fB _ _),bh,aJ,s8,O,e];refine aI (dW:=.bool (u[f5].aj==d[k].aj)) rfl ?_;grind;rintro F R ⟨r,rfl,rfl⟩;simp only[G];have a2:=(a3 k aR);rw[if_neg (cn _)]at a2;have a2:=a2.next (by omega);rw[g1]at a2;rw[g0]at a2;refine b (λaF=>?_) (λaF=>?_);refine aI (fw e0 aR) ?_
      refine aI (BI e0 (xl _ aR) rfl rfl) ?_;rw[apJ];rw[if_pos (of_decide_eq_true aF)]at a2;refine g6 _ _ ⟨λo=>if o=k then t+1 else P o,λo ac=>?_,M.set _⟩;grind;rw[if_neg (of_decide_eq_false aF)]at a2;refine g6 _ _ ⟨P,λo ac=>?_,M⟩;grind
     rintro F R ⟨d5,m2,fd⟩;rw[aZ,O];exact hw (k+1,d5,R) ⟨aR,m2,fd⟩ (by simp;omega)
    ·have:k=Z d:=by simp at h;omega
     subst this;have a3:∀o(h:o<Z d),nV V m (dx d l f) (t+2) d[o] (w o) (P o):=λo ac=>by
      have:=a3 o ac;rwa[if_pos ac]at this
     let⟨i1,lw⟩:=au.mr (d9 M.tail);refine eV _ (apx (T:=i1) (F:=false) ai u (by grind[Sm]) (f6 bD.v)) (.cons _ _ _ _ _ (by rw[au.pl.1];exact lw) (.cons _ _ _ _ _ (Im.snap (by simp)) (.cons _ _ _ _ _ (Im.snap (by simp)) (.nil _)))) (.bool _) ?_;refine b (λds=>?_) (λds=>?_)
     ·have ds:ai=u:=of_decide_eq_true ds
      have i8:=g4 ds;have em:Holds p ([(id,.arr g 3 ((dx d l f).map (cF ab)))]++[(0,qo (Z d) P)]):=by
       rw[<-i9]at M;exact M.two
      let⟨az,bi,iG,d6,bv⟩:=xz.app (bytes:=40) (bB.j bB.of) em (dG:=hH) (lx:=ai) (au.rd (d9 M.tail)).1 (by omega);refine aY d6 ?_;have d7:=bv.get (AT ..);refine xk rfl (N9 (gG:=dx d l (f+1)) d7 (by simp;omega) (λs hf=>?_) (by grind) g7) ?_;grind;refine g5 _ _ ⟨P,az,bi,_,_,by rw[f3.length_eq,<-i8],λk h=>v1 k h K (P k) (λa0=>?_) (λmd=>(a3 k h).out md),?_⟩
      refine(a3 k h).done a0 (U:=t) (by omega) ?_;grind[gS,List.getElem_mem]
      ·exact(bv.set (.arr bi 3 ((dx d l (f+1)).map (cF ab)))).perm (List.Perm.swap ..)
     rw[aZ,O];refine hu (t+1,P,eS ab (cF ab) u,p) ⟨λo ac=>?_,a3,.inl (by rw[g1,g0]),M⟩ (by simp;omega);grind
  rintro F R ⟨d3,az,be,a5,d4,rfl,m1,fd⟩;simp only[G];rw[aZ,O];exact hs (f+1,d3,_,R) ⟨(by show f+1<=Z l;omega),m1,az,be,rfl,fd⟩ (by simp;omega)
 have:f=Z l:=by simp at h;omega
 subst this;refine⟨.aB [eS ab (cF ab) d,eS ab cN ((ay (Z d)).map w),I 0],?_,w,by grind,rfl⟩;have e0:=es.get (AT ..);refine .aB _ _ _ (.cons _ _ _ _ _ (Im.snap (by simp)) (.cons _ _ _ _ _ ?_ (.cons _ _ _ _ _ (.int _ _ _) (.nil _))));have e0:L[0]?=aa (.arr 0 1 (((ay (Z d)).map w).map cN)):=by
  rw[e0];simp[qo,b9]
 have:=ic e0 (by simp);simp_all
theorem Z7(b:ca<=rk):∀(k:Nat){a:Int},lR f ca k a<=ca->lR f rk k a=lR f ca k a
 |0,a,h=>rfl
 |k+1,a,h=>by
  rw[lR]at h⊢;rw[lR];split at h;rename_i c;rw[if_pos (by omega),if_pos c];exact Z7 b k h;omega
theorem Z8(a:f<=ca)(h:kz V X f=ad):kz V X ca=true:=by
 simp only[kz,ba,eQ,hv,decide_eq_false_iff_not]at h⊢;grind[Z7]
noncomputable def Cy(b:D)(a:List S):Bool:=y (Z a<=14)&&kz b a 190&&uN b&&hR b a&&a.all (qe b)
theorem Z9(h:Cy V X=ad):xy V X/\Z X<=14:=by
 simp only[Cy,ba,decide_eq_true_eq]at h;let⟨⟨⟨⟨c,a⟩,b⟩,d⟩,e⟩:=h;simp only[uN,ba,beq_iff_eq]at b;have a:=Z8 (ca:=3000) (by omega) a;exact⟨⟨a,AE a,xe.1 b.1.1,by simp_all,by simp_all,d,e⟩,c⟩
theorem k6(b:D)(d:List S)(m:eA b)(l:Sm d)(t:∀s∈d,dF s.af):PR C 6 [.agg (cP ab T b),eS F (cF ab) d] (.bool (Cy b d)):=by
 refine r6.pr ?_;simp only[eE,O,gy];refine dA (M:=[]) (!(y (Z d<=14)&&kz b d 190&&uN b&&hR b d)) (λL w=>?_) ?_;simp only[aX,eU,O];refine dH (λn=>?_) (by grind);have n:y (Z d<=14)=true:=by
  have:=of_decide_eq_false n;exact decide_eq_true (by omega)
 refine c (aiC b d 190 (by omega) m l) ?_;simp only[bI,O];refine dH (λh=>?_) (by grind);have h:kz b d 190=true:=by simpa using h
 have p:=AE (Z8 (ca:=3000) (by omega) h);obtain⟨B,x,-⟩:=yT p;refine c (YR b m x B (Cp p)) ?_;simp only[bI,O];refine dH (λg=>?_) (by grind);have g:uN b=true:=by simpa using g
 have E:iY b:=by
  simp only[uN,ba]at g;exact xe.1 g.1.1
 refine c (VC b d m (Co E) l t) ?_;simp only[bI,O];grind;simp only[G];refine dw (by simp_all[Cy]) (λh=>?_);have u:hR b d=true:=by
  simp only[ba]at h;exact h.2
 have v:=YS u;refine eB (U:=Z d) (c:=λf=>[ff,I f]) (λf=>(d.take f).all (qe b)=ad) (by simp) rfl (λf j z q w=>?_) (λz q=>?_);obtain⟨r,o,k⟩:=v _ (bn j);have K:qe b d[f]=b.Q[r].ek:=by
  unfold qe;rw[k,eR,bq o]
 simp only[i,G,aX,A,O,a,j,decide_true,bh,aJ,kv,e,aE j (fB _ _),oc,k,aE o (ji _ _),Ge,bI];refine a8 ?_;refine dw (λH=>bK ?_) (λH=>?_);grind[Cy];rw[l.inc j,O];grind[oi];simp only[i,G,aX,A,O,a,cn,decide_false];refine bw (jk ?_);grind[Cy]
theorem aaa(n:∀a c m,cZ a c=ad->cZ c m=ad->cZ a m=ad){done:Nat->Bool}:∀(k a:Nat),a<U->done a=ab->Z ((ay U).filter λb=> !done b&&(b==a||cZ a b))<=k->∃c,c<U/\mZ U cZ done c=ad
 |0,a,g,e,o=>by
  have:a∈(ay U).filter λb=> !done b&&(b==a||cZ a b):=by simp[g,e]
  rw[tO (ash.1 o)]at this;cases this
 |k+1,a,g,e,o=>by
  by_cases j:mZ U cZ done a=ad;exact⟨a,g,j⟩;simp only[mZ,e,ri,c3,vY,List.all_eq_false,iz,h5,hv,not_or]at j;let⟨c,p,⟨d,i⟩,f⟩:=j;have d:cZ a c=true:=by simpa using d
  have i:done c=false:=by simpa using i
  have f:¬cY cZ a c=true:=by rw[f];simp
  have q:¬cZ c a=true:=λh=>f (by simp[cY,d,h]);have r:¬a=c:=λh=>f (by simp[cY,h]);apply aaa n k c p i;have s:=L6 (cj:=λb=> !done b&&(b==c||cZ c b)) (rB:=λb=> !done b&&(b==a||cZ a b)) (λb l=>by
   simp only[ba,h5,beq_iff_eq]at l⊢;refine⟨l.1,.inr ?_⟩;rcases l.2 with rfl|h;exact d;exact n _ _ _ d h) (a:=ay U) (c:=a) (by simpa using g) (by simp[e]) (by
   have:¬a=c:=r;simp[e,this,q])
  omega
theorem aab(l:∀a b i,cZ a b=ad->cZ b i=ad->cZ a i=ad):∀(k:Nat){done:Nat->Bool},Z ((ay U).filter λc=> !done c)<=k->∀a,a<U->done a=ab->∃g∈kE U cZ k done,a∈g
 |0,done,m,a,d,e=>by
  have:a∈(ay U).filter λc=> !done c:=by simp[d,e]
  rw[tO (ash.1 m)]at this;cases this
 |k+1,done,m,a,d,e=>by
  rw[kE];split;rename_i n;let⟨b,h,t⟩:=aaa l _ a d e (c7 _);rw[Fh]at n;exact absurd t (n b (by simpa using h));rename_i b h;let⟨j,f,_⟩:=za.1 h;have f:b<U:=by simpa using f
  have q:done b=false:=by
   simp only[mZ,ba,hv]at j;exact j.1
  by_cases o:cY cZ b a=ad;exact⟨(ay U).filter (cY cZ b),AT,by simp[d,o]⟩;have u:=L6 (cj:=λc=> !(done c||cY cZ b c)) (rB:=λc=> !done c) (λc p=>by
   simp only[hv,Jb]at p⊢;exact p.1) (a:=ay U) (c:=b) (by simpa using f) (by simp[q]) (by simp[cY])
  let⟨g,r,s⟩:=aab l k (done:=λc=>done c||cY cZ b c) (by omega) a d (by
   rw[e];simpa using o)
  exact⟨g,List.mem_cons_of_mem _ r,s⟩
theorem apL(a:D)(b:U<Z a.Q):∃g∈eN (Z a.Q) (cQ a),U∈g:=
 aab (ZL a) _ (ix (nX ..) (by simp)) U b rfl
theorem aac(h:da V ct X U=da V ct X (U+1)):∀s,da V ct X (U+s)=da V ct X U
 |0=>rfl
 |s+1=>by
  show fD V ct (df V X (da V ct X (U+s)))=_;rw[aac h s];exact h.symm
theorem Cx.IV(h:Cx V ct X bZ U)(c:N<U):da V ct X N≠da V ct X (N+1):=λb=>by
 obtain⟨a,rfl⟩:∃a,U=N+a:=⟨U -N,by omega⟩;have:=h.at';rw[aac b]at this;exact h.no N c this
section
variable{p:D}{fs m:List S}
theorem apM(o:iY p){g:List Nat}(d:g∈eN (Z p.Q) (cQ p))(c:U∈g)(k:U<Z p.Q):p.Q[U].ek=nU p g:=by
 have e:=IH p;rcases g with _|⟨a,g⟩;cases c
 have i:=(e.later _ d a (by simp)).1;have j:nU p (a::g)=p.Q[a].ek:=by simp[nU,bq i]
 rw[j];by_cases h:U=a;grind;have key:∀b f,(m:b<Z p.Q)->b≠f->cY (cQ p) b f=ad->p.Q[b].ek=false:=λb f m n l=>by
  simp only[cY,h5,beq_iff_eq,ba]at l;grind[ZR,N6]
 rw[key U a k h (e.tp _ d U c a (by simp)),key a U i (CC h) (e.tp _ d a (by simp) U c)]
theorem aad{fs:List S}{a:S}(e:∀b∈fs,b.ah=a.ah->b.af=a.af->b=a):0<=mY fs a.ah a.af<->a∈fs:=by
 rcases N8 (eL a.ah a.af) fs with⟨c,d⟩|⟨g,f,c,d,-⟩;grind[mY,eL];grind[mY,eL]
section
variable(Fi:xy p fs)(hp:fb p (fU p fs))(nn:j9 p (tA p) fs (aa m))(aae:iP m=ab)
include Fi hp nn
theorem aaf:∀a∈fs,a∈m:=λa b=>by
 rw[<-ZQ Fi hp nn]at b;grind[gS]
theorem apN{a:S}(c:a∈m)(d:U<Z p.Q)(b:a.ah=U):a∈fs<->p.Q[U].ek=true:=by
 constructor;intro h;have:=eQ.1 Fi.ek a h;grind[N7];intro h;rw[<-ZQ Fi hp nn];refine gS.2 ⟨c,?_⟩;rw[b,IK];grind
omit nn in
theorem Of{m:List S}(nn:j9 p (tA p) fs (aa m)):bE p (fU p fs) m:=(ER Fi.val hp Fi.form nn).2.v
theorem apO{w:Nat->Nat}(o:IU p m w)(d:U<Z m):w U=0<->m[U]∈fs:=by
 have l:=Of Fi hp nn;let⟨q,b,f,_⟩:=(l.ok _ (bn d)).fz;let⟨g,i,h⟩:=apL p b;have c:=apM Fi.val i h b;rw[apN Fi hp nn (bn d) b f,c];obtain⟨e,a,rfl⟩:=sO i;have k:m[U].ah∈(eN (Z p.Q) (cQ p))[e].map b4:=by rw[f];exact EP.2 h
 have j:=o U d;constructor;intro r;rw[<-Bool.not_eq_false];intro n;have:=(j.view e a a k n).bb;omega;intro c;exact j.ek e a a k c
def nW(p:D)(fs m:List S)(a:List (List Nat)):Nat->List S
 |0=>fs
 |k+1=>df p (nW p fs m a k) (e1 ((a.getD k []).map b4) m)
theorem EW(d:List (List Nat)):∀k,q8 p (fU p fs) (nW p fs m d k)/\ei p (nW p fs m d k) m
 |0=>⟨(IJ Fi.val Fi.form).1,λe g=>⟨e,aaf Fi hp nn e g,rfl,rfl,.refl⟩⟩
 |k+1=>by
  let⟨c,i⟩:=EW d k;have h:=(ER Fi.val hp Fi.form nn).2;have f:=Oc h ((d.getD k []).map b4);refine⟨⟨w5 hp.aN _ c.v f.v.ok,Cu _ c.ty f.ty,Cv hp.aN _ (λb a=>(c.v.ok b a).aj) (λb a=>(f.v.ok b a).aj) c.nb⟩,?_⟩;exact IB hp.aN h.v.de (λb a=>(h.v.ok b a).aj) _ (λb a=>(c.v.ok b a).aj) (λb a=>(f.v.ok b a).aj) i λe g=>.inr ⟨e,(gS.1 g).1,rfl,rfl,.refl⟩
theorem apP(a:List (List Nat))(b:Nat):ei p (nW p fs m a b) (nW p fs m a (b+1))/\ei p (e1 ((a.getD b []).map b4) m) (nW p fs m a (b+1)):=by
 let⟨h,l⟩:=EW Fi hp nn a b;have k:=(ER Fi.val hp Fi.form nn).2;have g:=Oc k ((a.getD b []).map b4);let⟨i,j⟩:=AG hp.aN (e1 ((a.getD b []).map b4) m) (λd c=>(h.v.ok d c).aj) λd c=>(g.v.ok d c).aj;exact⟨i,λe f=>(j e f).resolve_left (g.nb e f)⟩
theorem aag(b:List (List Nat)):∀k a,a<k->ei p (e1 ((b.getD a []).map b4) m) (nW p fs m b k)
 |0,a,h=>by omega
 |k+1,a,h=>by
  let⟨c,g⟩:=apP Fi hp nn b k;by_cases f:a=k;grind;exact(aag b k a (by omega)).trans (λe d=>((EW Fi hp nn b k).1.v.ok e d).aj) c
omit hp nn in
theorem Og(a:List (List Nat)):∀k,∀b∈nW p fs m a k,(∃d∈fs,d.ah=b.ah)\/∃c,c<k/\b.ah∈(a.getD c []).map b4
 |0,b,e=>.inl ⟨b,e,rfl⟩
 |k+1,b,e=>by
  have:=Fi;have:=Cu (V:=p) (d:=λf _=>(∃d∈fs,d.ah=f)\/∃c,c<k+1/\f∈(a.getD c []).map b4) (e1 ((a.getD k []).map b4) m) (c:=nW p fs m a k) (λd g=>(Og a k d g).imp id (by grind)) (by grind[gS]) b e;exact this
theorem apQ(aae:iP m=ab)(D:U<Z (eN (Z p.Q) (cQ p)))(O:nU p (eN (Z p.Q) (cQ p))[U]=ab)(w:Nat):da p ((eN (Z p.Q) (cQ p))[U].map b4) (nW p fs m (eN (Z p.Q) (cQ p)) U) w=da p ((eN (Z p.Q) (cQ p))[U].map b4) (dx m (eN (Z p.Q) (cQ p)) U) w/\bE p (fU p fs) (nW p fs m (eN (Z p.Q) (cQ p)) U)/\q8 p (fU p fs) (nW p fs m (eN (Z p.Q) (cQ p)) U):=by
 have s:=EU Fi hp nn aae;have aF:=IH p;have G:=bn D;have o:=s.AI U D;let⟨q,E⟩:=EW Fi hp nn (eN (Z p.Q) (cQ p)) U;have X:=Of Fi hp nn;let⟨aj,K,N,L⟩:=Z6 O (s.lt _ G);have S:=ZS Fi G N K L;have aA:=s.yZ;have Y:=Og (m:=m) Fi (eN (Z p.Q) (cQ p)) U;have ac:=aag Fi hp nn (eN (Z p.Q) (cQ p)) U;generalize ax:nW p fs m (eN (Z p.Q) (cQ p)) U=y at*;generalize az:eN (Z p.Q) (cQ p)=f at*
 have am:∀e,e<U->∀b:Int,b∈(f.getD e []).map b4->b∉f[U].map b4:=λe u b n h=>by
  grind[List.getElem?_eq_getElem,Int.ofNat.inj,List.pairwise_iff_getElem]
 have R:uO p (f[U].map b4) y:=λa i d=>by
  rcases Y a i with⟨b,I,aR⟩|⟨e,u,I⟩;exact S b I (by grind);grind
 refine⟨(Z1 hp o.v o.fresh q.v R (λr H C c F B=>?_) w).symm,q.v,q⟩;apply(o.IP r H C c F B).trans;have M:=o.IP r H C c F B;by_cases t:∃a∈m,a.ah=c.ah;let⟨a,i,z⟩:=t;have P:a∈dx m f U:=by
  have:a∈m.filter λa=>a.ah==c.ah:=by simp[i,z]
  rw[<-show(dx m f U).filter _=m.filter _ from M]at this;exact(l5.1 this).1
 let⟨ai,af,A⟩:=cy.1 (gS.1 P).2;let⟨g,T,J⟩:=uQ.1 af;obtain⟨e,u,rfl⟩:=sO T;rw[h0]at u;rw[Fj]at J;have V:e<Z f:=by omega
 have W:c.ah∈(f.getD e []).map b4:=by
  rw[oK,bq V,nr,<-z,<-A];exact cy.2 ⟨ai,J,rfl⟩
 refine ZZ (c:=[c.ah]) (by simp) (EN hp.aN (X.part _) (q.v.part _) (λb d=>?_) λb d=>?_);let⟨n,h⟩:=gS.1 d;have h:b.ah=c.ah:=by simpa using h
 let⟨k,l,j,x⟩:=ac e (by omega) b (gS.2 ⟨n,by rw[h];exact W⟩);exact⟨k,gS.2 ⟨l,by rw[j,h];simp⟩,j,x⟩;let⟨n,h⟩:=gS.1 d;let⟨k,l,j,x⟩:=E b n;exact⟨k,gS.2 ⟨l,by rw[j];exact h⟩,j,x⟩;have au:m.filter (λa=>a.ah==c.ah)=[]:=by
  rw[Jk];intro a i d;exact t ⟨a,i,by simpa using d⟩
 have A:y.filter (λa=>a.ah==c.ah)=[]:=by
  rw[Jk];intro a i d;let⟨k,l,j,_⟩:=E a i;exact t ⟨k,l,by rw[j];simpa using d⟩
 grind
end
end
theorem aai(h:U<Z bL)(c:bL[U].toNat<128):qy bL U=(bL[U].toNat,1):=by
 have b:U<(⟨bL.toArray⟩:ByteArray).size:=by simpa[ByteArray.size]using h
 have a:(⟨bL.toArray⟩:ByteArray)[U]'b=bL[U]:=rfl;have:=decode_ascii ⟨bL.toArray⟩ U b (by rw[a];exact c);rw[a]at this;exact this
theorem aaj(h:U<Z bL)(b:¬bL[U].toNat<128):128<=(qy bL U).1:=by
 have a:U<(⟨bL.toArray⟩:ByteArray).size:=by simpa[ByteArray.size]using h
 have c:(⟨bL.toArray⟩:ByteArray)[U]'a=bL[U]:=rfl;exact(decode_high ⟨bL.toArray⟩ U a (by grind)).1
theorem Oi(h:128<=f):pc f=false:=by
 grind[decide,pc]
theorem apU(e:d):PR C 321 [.str e,.fn 222 [] [],tt] (I (b2 (λi=> !fa i) e)):=by
 refine Sc.pr ?_;refine aY (show wb (.str e) []=aa (.pI 0,[.iH e 0])from rfl) ?_;refine bG (K:=Nat) (λ_=>[I 0]) (λa=>[.iH e a]) (λa=>Z e -a) (λa=>a<=Z e/\∀f(j:f<Z e),f<a->fa e[f]=ad) 0 ⟨by simp,λf _ h=>by omega⟩ ?_;rintro a ⟨w,n⟩ s r;by_cases h:a<Z e;refine aY (show tX (.pI 0) [.iH e a]=aa (.aB [.bool ad,.int .i64 a,.int .i32 (qy e a).1],[.iH e (a+(qy e a).2)])by simp[tX,h]) ?_
 refine aI (dW:=.bool ad) rfl ?_;refine a8 ?_;refine aI (dW:=I (a:Int)) rfl ?_;refine aI (dW:=.int .i32 (qy e a).1) rfl ?_;refine aY (dW:=222) (oR:=[.int .i32 (qy e a).1]) rfl ?_;refine c (agH _) ?_;rw[ac3,O];have u:fa e[a]=pc ((qy e a).1:Int):=by
  by_cases g:e[a].toNat<128;rw[aai h g]<;>rfl
  have p:=aaj h g;rw[Oi (by omega),fa,Oi (by omega)]
 refine b (λl=>?_) (λl=>?_);have v:pc ((qy e a).1:Int)=false:=by simpa using l
 have:b2 (λi=> !fa i) e=a:=ue h (λf j m=>by rw[n f j m]<;>rfl) (by grind);simp_all;have o:pc ((qy e a).1:Int)=true:=by simpa using l
 have g:e[a].toNat<128:=xG λg=>by
  have p:=aaj h g;rw[Oi (by omega)]at o;cases o
 have q:(qy e a).2=1:=by rw[aai h g]
 rw[q];refine r (a+1) ⟨h,λf j m=>?_⟩ (by omega);grind;refine aY (show tX (.pI 0) [.iH e a]=aa (.aB [.bool ab],[.iH e a])by simp[tX,h]) ?_;refine aI (dW:=.bool ab) rfl ?_;refine bw ?_;have:b2 (λi=> !fa i) e= -1:=wC λf j=>by rw[n f j (by omega)]<;>rfl
 simp_all
variable{fq:List Obj}
theorem uZ{args:List AV}{r:AV}(h:jz aU G0 U args M r fq):C U args M r fq:=h
theorem Oj:EF C:=⟨λd b a c=>uZ (YC.q rfl d b a c)⟩
theorem Ol:e8 C:=⟨λa _=>apU a,by grind[uZ,an3]⟩
theorem apV(e:mq V)(d:Z V.ak<=12):yQ (kG dQ (gx V) (Z V.Q) (ay (Z V.Q)) TS.init).out/\Z (kG dQ (gx V) (Z V.Q) (ay (Z V.Q)) TS.init).out<=Z V.Q:=by
 have c:Nq V (pt 4) (pt 5) (pt 2) (pt 0) [one (.q 1 0 0 (Z V.Q)),.arr 0 1 (dh (Z V.Q) [I 0]),one (.q 3 0 0 (Z V.Q)),.arr 0 1 (dh (Z V.Q) [I 0]),one (eS ab cG ((ay (Z V.Q)).map (gx V))),one (.q 6 0 0 (Z V.Q)),.arr 0 1 (dh (Z V.Q) [I 0])]:=by
  refine⟨4,5,2,0,6,3,1,rfl,rfl,rfl,rfl,by simp,λk b=>?_⟩;simp only[b6,jN,or_false]at b;rcases b with rfl|rfl|rfl|rfl|rfl|rfl|rfl<;>rfl
 have a:=Yz Oj e d (E:=.aq) (dG:=.aq) (oM:=.aq) c;rw[Uq]at a;let⟨i,g,_,_,j⟩:=KM (An:=Ac) (X:=C) yR _ _ _ a;grind[zI]
theorem Om:xi C:=λe f g b a=>by
 let⟨c,d⟩:=apV b a;refine⟨_,_,?_,anL rfl c,d⟩;refine⟨_,_,uZ (YB Oj b a),?_⟩;simp[Im.snap]
theorem On:vQ C:=⟨λ{v b s r j id} a c l d f t=>by
 have i:=d.get (U:=id) (gF:=.arr 0 3 [cF ab c]) (by simp);rcases l with⟨rfl,rfl,rfl⟩|⟨e,g,rfl,rfl⟩;have:a=0:=by simpa using f
 subst this;refine⟨_,_,uZ (YL i),[(Z j,.arr 0 3 [cF ab c])],bB.of (x:=[c]),?_⟩;exact Holds.alloc d.tail _;have o:=d.get (U:=e) (gF:=.arr g 3 (b.map (cF ab))) (by simp);have n:e≠id:=by
  have:=d.1;simp only[ej,k0,b6,hG,dR,not_or]at this;exact(by omega)
 have k:(b.map (cF ab)).take a++cF ab c::(b.map (cF ab)).drop a=(b.take a++c::b.drop a).map (cF ab):=by
  simp[OV,Ja]
 have h:=YK (z:=a) o (by simp) i n f (by omega);rw[k]at h;refine⟨_,_,uZ h,[(e,.arr (g+1) 3 ((b.take a++c::b.drop a).map (cF ab)))],?_,?_⟩;have m:Z b+1=Z (b.take a++c::b.drop a):=by simp;omega
 rw[m];exact bB.of;exact Holds.set d.tail _⟩
open Go.Proofs.YtegalmbcaggfiaaGreatDoor Go.Deep Go.ChangeShapes Go.WideShapes Go.ChangeAt Go.RowKit
variable{cj:Nat -> Bool}{oV:List MemPlace}
section
variable{H:Type}{enc:TypeId×Value->H}{P:Program}
theorem aak{w:World}{l:String}{g:Nat}(r:P.globalNamed l=aa g)(j:w.var? P l=aa eJ)(f:RL (E0 w) bF (bJ eJ))(q:∀b∈bF,b.bU=ad):R (E0 w).base (.aH ab bF 0) (.pointer (aa ⟨g,0,ae⟩)):=by
 let⟨d,c,m⟩:∃d c,w.heap[g]?=aa (.cells eJ d c):=by
  grind[World.var?]
 have s:=f.length;have i:((bJ eJ).drop 0).take (Z bF)=bJ eJ:=by rw[lq,gT (by omega)]
 have one:∀{vs:List AV}{a:List Value},RL (E0 w) vs a->(∀b∈vs,b.bU=ad)->∀e∈a,e.oneCell'=true:=by
  intro vs a h;induction vs generalizing a with
  |nil=>intro _ e o;cases h;simp at o
  |cons b vs t=>
   cases h with
   |cons _ e _ a j i=>
    intro n u k;rcases b6.1 k with rfl|k;exact j.CU (n _ (by simp));grind
 exact R.aH (E:=(E0 w).base) ab bF 0 g 0 eJ d c (by show g<w.heap.size;grind) m (by grind) (by rw[i];exact f) (by grind)
theorem apW{w:World}(a:Fr (E0 w) Y)(d:MemPlace->Prop):w.keptBut Y.w d:=by
 refine⟨a.os,a.output,λb c=>?_⟩;have e:Y.w.heap[b]?=w.heap[b]?:=a.heap b c (λ_ _ h=>by cases h) (λ_ h=>by cases h);grind
theorem apX{w:World}(e:Fr (E0 w) Y){b:MemPlace}(d:b.block<w.heap.size):w.sameAt Y.w b:=by
 have c:∀a,a<w.heap.size->Y.w.heap[a]?=w.heap[a]?:=λa f=>e.heap a f (λ_ _ h=>by cases h) (λ_ h=>by cases h);cases b with
 |cell a off=>simp only[World.sameAt,World.cell?,c a d]
 |map a=>exact c a d
theorem apY{w:World}(a:Fr (E0 w) Y){off:Nat}(b:U<w.heap.size):Y.w.frozen? ⟨U,off,ae⟩=w.frozen? ⟨U,off,ae⟩:=by
 have c:Y.w.heap[U]?=w.heap[U]?:=a.heap U b (λ_ _ h=>by cases h) (λ_ h=>by cases h);grind[World.frozen?]
theorem aal{w:World}{T:TypeId->Prop}(g:Kids P T)(j:∀{d b:TypeId},T d->P.underlying d=aa (.slice b)->0<P.cellsOf b):∀{e:List TypeId}{vs:List Value}{f:List (DataW H)}{c:List MemPlace},(∀d∈e,T d)->DataW.TrodAll enc P w 0 (λ_=>ad) ad e vs f c->(∀a∈c,w.sameAt eI a)->(∀a∈c,cj a.block=ad)->DataW.TrodAll enc P eI 0 cj ad e vs f c
 |[],[],[],_,_,h,_,_=>h
 |_::_,_::_,_::_,_,n,⟨a,l,⟨k,m⟩,i,b⟩,o,p=>
  ⟨a,l,⟨k,by grind[DataW.trod_stays]⟩,
   aal g j (by grind) i (by grind) (by grind),b⟩
theorem apZ{c:Func}{e:ChangeSpec}{fresh:Bool}{W:World}{args:Array Value}{f gs:List (DataW H)}{h i:List MemPlace}
 (j:DataW.Whole enc P (bJ c.params) e.vars T W (bJ args) f gs oV)
 (n:∀(a:Nat)(d:Nat->Bool)(s:Bool),DataW.TrodAll enc P eI a d s (bJ c.resultTypes) (bA.resultList c.resultTypes.size) (e.fn H (f++gs)).results [])
 (k:∀d:Nat->Bool,(∀b∈oV,d b.block=ad)->DataW.TrodAll enc P eI 0 d ad (bJ c.params) (bJ args) (e.fn H (f++gs)).args h)
 (o:∀d:Nat->Bool,(∀b∈oV,d b.block=ad)->DataW.TrodVars enc P eI d e.vars (e.fn H (f++gs)).vars i)
 (x:oV=h++i)(u:W.keptBut eI (· ∈oV))(t:∀a off,a<W.heap.size->eI.frozen? ⟨a,off,ae⟩=W.frozen? ⟨a,off,ae⟩)
 (w:∀(p:Nat)(q:TypeId)(r:Value),c.resultTypes[p]?=aa q->(bA.resultList c.resultTypes.size)[p]?=aa r->Value.okWide P eI .any 0 q r):
 e.post enc P c T fresh F bC W args bA eI:=by
 have l:∀b∈oV,(λa=>y (a<W.heap.size)) b.block=true:=λb g=>by simpa using j.lt b g
 refine⟨f,gs,oV,[],h,i,j,n _ _ _,k _ l,o _ l,World.keptBut_mono (λb g=>⟨g,?_⟩) u,λ_=>?_⟩;grind;have v:=j.lt;let⟨_,_,_,_,_,z,A⟩:=j;refine⟨w,_,_,([]++h)++i,⟨[]++h,i,trodAll_append (k _ (λ_ _=>rfl)) (n _ _ _),o _ (λ_ _=>rfl),rfl,?_,?_⟩,?_⟩;intro a off g;have m:MemPlace.cell a off∈oV:=by rw[x];simpa using g
 rw[t a off (v _ m)];exact z a off m;grind;grind
end
def tl:List Nat:=[27,28,22,23,24,25,151,212,48,91,38,9,122,128,3,31,4,85,84,89,87,168,93,36,131,5,246]
def y0(b:Program)(e:Nat):Bool:=match b.underlying e with
 |aa (.pointer a)=>tl.contains a
 |aa (.slice a)=>tl.contains a&&y (0<b.cellsOf a)
 |aa (.array g a)=>tl.contains a&&y (b.cellsOf e=g*b.cellsOf a)
 |aa (.struct d)=>((bJ d).all λc=>tl.contains c.type)&&y (b.cellsOf e=((bJ d).map λc=>b.cellsOf c.type).sum)&&(ay (Z (bJ d))).all λf=>((bJ d)[f]?).all λc=>y (c.offset=(((bJ d).take f).map λc=>b.cellsOf c.type).sum)
 |aa (.map _ a)=>tl.contains a
 |_=>ad
theorem ap0:(tl.all λa=>y0 aU a)=true:=by kernel_rfl
theorem Cz(h:U∈tl):y0 aU U=true:=by grind[ap0]
theorem ap1:Kids aU (· ∈tl)where
 pointer:=λa b=>by have:=Cz a;grind[y0]
 slice:=λa b=>by have:=Cz a;grind[y0]
 array:=λa b=>by have:=Cz a;grind[y0]
 struct:=λ{t c} a b=>by
  have:=Cz a;grind[y0]
 map:=λa b=>by have:=Cz a;grind[y0]
variable{cu:TypeId}
theorem ap2(a:u∈tl)(b:aU.underlying u=aa (.slice cu)):0<aU.cellsOf cu:=by
 have:=Cz a;grind[y0]
theorem ap3:aU.globalNamed "porism/lattice.keys"=aa 2:=by kernel_rfl
theorem ap4:aU.globalNamed "porism/porismref03.Keys"=aa 1:=by kernel_rfl
theorem ap5:aU.globalNamed "porism/value.words"=aa 0:=by kernel_rfl
theorem ap6:(aU.globals[2]?).map (·.type)=aa 122:=by kernel_rfl
theorem ap7:(aU.globals[1]?).map (·.type)=aa 122:=by kernel_rfl
theorem ap8:(aU.globals[0]?).map (·.type)=aa 279:=by kernel_rfl
theorem ap9:aU.underlying 122=aa (.slice 9):=by kernel_rfl
theorem aam:aU.underlying 9=aa .string:=by kernel_rfl
theorem aqa:aU.underlying 279=aa (.array 10 9):=by kernel_rfl
theorem aqb:aU.cellsOf 279=10:=by kernel_rfl
theorem aqc{W:World}(h:laidMetH aU hY.laid W):laidMet aU [("porism/lattice.keys",Rows.laid_porism_lattice_keys),("porism/porismref03.Keys",Rows.laid_porism_porismref03_Keys),("porism/value.words",Rows.laid_porism_value_words)] W:=h
theorem aqd:(Rows.laid_porism_lattice_keys:DataW K)=.slice (gM.map uh) []:=rfl
theorem aqe:(Rows.laid_porism_porismref03_Keys:DataW K)=.slice (gM.map uh) []:=rfl
theorem aqf:(Rows.laid_porism_value_words:DataW K)=.agg (gM.map uh):=rfl
theorem aan{W:World}{g:Nat}{a:String}(b:aU.globalNamed a=aa g)(c:W.var? aU a=aa eJ)(d:DataW.trod (λ_=>()) aU W 0 (λ_=>ad) ab U 122 (bJ eJ)=aa (.slice (gM.map uh) [],oV)):R (E0 W).base (.aH ab [.sl ab (gM.map λh=>[.str h])] 0) (.pointer (aa ⟨g,0,ae⟩)):=by
 let⟨j,e,f⟩:=ahR (p:=gM) (by decide) ap9 aam p0 d;exact aak b c (by rw[e];exact .cons _ _ _ _ f .nil) (by simp)
theorem aqg{W:World}{g:Nat}{a:String}(b:aU.globalNamed a=aa g)(c:W.var? aU a=aa eJ)(d:DataW.trod (λ_=>()) aU W 0 (λ_=>ad) ab U 279 (bJ eJ)=aa (.agg (gM.map uh),oV)):R (E0 W).base (.aH ab (gM.map .str) 0) (.pointer (aa ⟨g,0,ae⟩)):=by
 let⟨f,e⟩:=ahQ (p:=gM) aqa aam p0 aqb d;exact aak b c (K2 f e) (by simp)
theorem aqh{W:World}(h:laidMetH aU hY.laid W):dz G0 (E0 W):=by
 let⟨I,⟨o,r,u,y,F,J,a,i,l,d,⟨p,s,v,z,G,K,b,j,m,e,⟨q,t,w,A,H,L,c,k,n,f,_,_⟩,_⟩,_⟩,_,_⟩:=aqc h;obtain rfl:2=o:=zc (ap3.symm.trans a);obtain rfl:1=p:=zc (ap4.symm.trans b);obtain rfl:0=q:=zc (ap5.symm.trans c);obtain rfl:122=r:=zc (ap6.symm.trans i);obtain rfl:122=s:=zc (ap7.symm.trans j);obtain rfl:279=t:=zc (ap8.symm.trans k);rw[aqd]at d;rw[aqe]at e;rw[aqf]at f;have C:=aan a l d;have D:=aan b m e
 have E:=aqg c n f;intro g x B;grind[G0]
abbrev Er:=Option (AV×List Obj)
abbrev Ke:=List AV->List Obj->Er
def fO(b:Option K)(a:K->Er):Er:=match b with|aa c=>a c|ae=>ae
def pG(c:Option (K×b0))(b:K->b0->Er):Er:=match c with|aa a=>b a.1 a.2|ae=>ae
def IW:List Ke->Nat->Ke
 |[],_=>λ_ _=>ae
 |v::_,0=>v
 |_::a,b+1=>IW a b
def Oo(a:List AV->List Obj->Ke->Er):Nat->Ke
 |0,_,_=>ae
 |n+1,b,h=>a b h (Oo a n)
def jL(b:K->Option b0):List K->Option (List b0)
 |[]=>aa []
 |a::d=>match b a with|aa c=>(match jL b d with|aa e=>aa (c::e)|ae=>ae)|ae=>ae
def lk(h:List Obj):Nat->Md->AV->Option AV
 |0,_,_=>ae
 |n+1,a,d=>match d with
  |.int _ _=>aa d
  |.bool _=>aa d
  |.str _=>aa d
  |.gH=>aa d
  |.fP=>aa d
  |.jZ=>aa d
  |.undef=>aa d
  |.aq=>aa (.sl ab [])
  |.dL=>aa (.sl ab [])
  |.agg c=>(jL (lk h n a) c).map .agg
  |.aB c=>(jL (lk h n a) c).map .aB
  |.sl b e=>match a with
   |.cd=>(jL (jL (lk h n .dm)) e).map (.sl b)<|>(jL (jL (lk h n .cd)) e).map (.sl ad)
   |_=>(jL (jL (lk h n a)) e).map (.sl b)
  |.q id g off len=>match a with
   |.dm=>ae
   |_=>match h[id]? with
    |aa (.arr j _ e)=>if j=g/\off+len<=Z e then(jL (jL (lk h n a)) ((e.drop off).take len)).map (.sl (match a with|.cd=>ad|_=>ab))else ae
    |_=>ae
  |.aH b c off=>match a with
   |.cd=>(jL (lk h n .dm) c).map (λf=>.aH b f off)<|>(jL (lk h n .cd) c).map (λf=>.aH ad f off)
   |_=>(jL (lk h n a) c).map λf=>.aH b f off
  |.ptr id g o off=>match a with
   |.dm=>ae
   |_=>match h[id]? with
    |aa (.arr j _ e)=>if j=g then match e[o]? with|aa c=>(jL (lk h n a) c).map λf=>.aH (match a with|.cd=>ad|_=>ab) f off|ae=>ae else ae
    |_=>ae
  |.il k vs=>match a with
   |.res=>ae
   |_=>match jL (lk h n a) k,jL (lk h n a) vs with|aa i,aa b=>aa (.il i b)|_,_=>ae
  |.b8 id=>match a with
   |.cd=>match h[id]? with
    |aa (.mp _ k vs)=>match jL (lk h n a) k,jL (lk h n a) vs with|aa i,aa b=>aa (.il i b)|_,_=>ae
    |_=>ae
   |_=>ae
  |.fn m l c=>match jL (lk h n a) l,jL (lk h n a) c with|aa i,aa b=>aa (.fn m i b)|_,_=>ae
  |.iface p d=>(lk h n a d).map (.iface p)
  |_=>ae
def AJ:Nat->AV->Bool
 |0,_=>ab
 |n+1,e=>match e with
  |.int _ _=>ad
  |.bool _=>ad
  |.str _=>ad
  |.gH=>ad
  |.fP=>ad
  |.jZ=>ad
  |.undef=>ad
  |.agg a=>a.all (AJ n)
  |.aB a=>a.all (AJ n)
  |.sl _ []=>ad
  |.sl b d=> !b&&d.all λc=>c.all (AJ n)
  |.aH b a _=> !b&&a.all (AJ n)
  |_=>ab
structure CE where
 c:Nat->List AV->List Obj->Er
 p:Nat->List AV->Option AV
def IX(call:CE)(d:Nat)(b:List AV)(a:AV->Er):Er:=match call.p d b with|aa r=>a r|ae=>pG (call.c d b []) λf e=>fO (lk e 30 .res f) a
def EX(call:CE)(c:Nat)(args:List AV)(h:List Obj)(b:AV->Er):Er:=
 match jL (lk h 30 .dm) (args.map AV.pl)with
 |aa a=>IX call c a b
 |ae=>fO (jL (lk h 30 .cd) (args.map AV.pl)) λa=>IX call c a λr=>if AJ 30 r then b r else ae
def EY(call:CE)(b:Nat)(args:List AV)(h:List Obj)(a:AV->List Obj->Er):Er:=pG (call.c b (args.map AV.pl) h) a
def Oq(c:AV)(a b:Er):Er:=match c.pl with|.bool ad=>a|.bool ab=>b|_=>ae
def IY(d:AV)(w:Bool)(a b:Er):Er:=match d.pl with|.bool c=>if c=w then a else b|_=>ae
def tM(b:AV->AV->Bool):List AV->List AV->Bool
 |[],[]=>ad
 |a::d,c::e=>b a c&&tM b d e
 |_,_=>ab
def IZ(b:AV->AV->Bool):List (List AV)->List (List AV)->Bool
 |[],[]=>ad
 |a::d,c::e=>tM b a c&&IZ b d e
 |_,_=>ab
def sI:Nat->AV->AV->Bool
 |0,_,_=>ab
 |n+1,o,w=>match o,w with
  |.int m a,.int c b=>m==c&&a==b
  |.bool a,.bool b=>a==b
  |.str a,.str b=>a==b
  |.agg a,.agg b=>tM (sI n) a b
  |.aq,.aq=>ad
  |.dL,.dL=>ad
  |.sl a c,.sl b j=>a==b&&IZ (sI n) c j
  |.q a b d e,.q f i g h=>a==f&&b==i&&d==g&&e==h
  |.b8 a,.b8 b=>a==b
  |.ptr a b d e,.ptr f i g h=>a==f&&b==i&&d==g&&e==h
  |.aH a c k,.aH b j l=>a==b&&tM (sI n) c j&&k==l
  |.undef,.undef=>ad
  |.gH,.gH=>ad
  |.oW,.oW=>ad
  |.pI a,.pI b=>a==b
  |.aB a,.aB b=>tM (sI n) a b
  |_,_=>ab
def ev(call:CE):Nat->Bool->List In->List AV->List Ke->List Obj->Er
 |0,_,_,_,_,_=>ae
 |_+1,_,[],_,_,_=>ae
 |f+1,ah,au::aj,r,ai,h=>
  match au with
  |.n ac=>fO (gu .sl (nv r ac) h) λx=>ev call f ah aj (x::r) ai h
  |.N aR ac=>fO (gu aR (nv r ac) h) λx=>ev call f ah aj (x::r) ai h
  |.L ac=>fO (aQ 1 ab (nv r ac) h) λx=>ev call f ah aj (x::r) ai h
  |.S af ac=>fO (aQ af ad (nv r ac) h) λx=>ev call f ah aj (x::r) ai h
  |.A af ac=>fO (dK af (nv r ac) h) λx=>ev call f ah aj (x::r) ai h
  |.a af ac=>fO (dK af (nv r ac) h) λx=>fO (aQ 1 ab x h) λx=>ev call f ah aj (x::r) ai h
  |.J af ac am=>fO (bP af (nv r ac) (nv r am) h) λx=>ev call f ah aj (x::r) ai h
  |.i ac am=>fO (bP 1 (nv r ac) (nv r am) h) λx=>fO (aQ 1 ab x h) λx=>ev call f ah aj (x::r) ai h
  |.s af ac am=>fO (bP af (nv r ac) (nv r am) h) λx=>fO (aQ af ad x h) λx=>ev call f ah aj (x::r) ai h
  |.b af w ac am=>fO (bP af (nv r ac) (nv r am) h) λx=>fO (dK w x h) λx=>fO (aQ 1 ab x h) λx=>ev call f ah aj (x::r) ai h
  |.C af ac=>fO (dO af (nv r ac)) λax=>ev call f ah aj (ap (gs ax af) r) ai h
  |.d af ac am=>fO (bP af (nv r ac) (nv r am) h) λx=>fO (aQ af ad x h) λx=>fO (dO af x) λax=>ev call f ah aj (ap (gs ax af) r) ai h
  |.D af ac=>fO (aQ af ad (nv r ac) h) λx=>fO (dO af x) λax=>ev call f ah aj (ap (gs ax af) r) ai h
  |.B aR ac am=>fO (aT .s aR (nv r ac) (nv r am)) λx=>ev call f ah aj (x::r) ai h
  |.l ac am=>fO (aT .s .lss (nv r ac) (nv r am)) λx=>ev call f ah aj (x::r) ai h
  |.p ac=>fO (aT .s .add (nv r ac) (I 1)) λx=>ev call f ah aj (x::r) ai h
  |.e ac am=>fO (aT .s .eql (nv r ac) (nv r am)) λx=>ev call f ah aj (x::r) ai h
  |.m ac am=>fO (aT .s .neq (nv r ac) (nv r am)) λx=>ev call f ah aj (x::r) ai h
  |.U bk_1 aR ac am=>fO (aT bk_1 aR (nv r ac) (nv r am)) λx=>ev call f ah aj (x::r) ai h
  |.u ac=>fO (nw .not (nv r ac)) λx=>ev call f ah aj (x::r) ai h
  |.E af ac=>fO (fK af (nv r ac)) λx=>ev call f ah aj (x::r) ai h
  |.I af ac=>fO (j2 af (nv r ac)) λx=>ev call f ah aj (x::r) ai h
  |.o ac=>fO (iL (nv r ac) h) λx=>ev call f ah aj (x::r) ai h
  |.O ac=>fO (nB (nv r ac)) λx=>ev call f ah aj (x::r) ai h
  |.q af=>pG (fh af h) λx h=>ev call f ah aj (x::r) ai h
  |.t af ac am=>fO (du af (nv r ac) (nv r am) h) λh=>ev call f ah aj r ai h
  |.P af w ac am=>pG (cJ af w (nv r ac) (nv r am) h) λx h=>ev call f ah aj (x::r) ai h
  |.M af ac=>pG (nC af (nv r ac) h) λx h=>ev call f ah aj (x::r) ai h
  |.W af az=>pG (lB af (vs r az) h) λx h=>ev call f ah aj (x::r) ai h
  |.X af az w ac am=>pG (u4 af (vs r az) w (nv r ac) (nv r am) h) λx h=>ev call f ah aj (x::r) ai h
  |.f af az w ak=>fO (fS af (vs r az) w (v2 r ak)) λx=>ev call f ah aj (x::r) ai h
  |.F af az w ak=>pG (FU af (vs r az) w (v2 r ak) h) λx h=>ev call f ah aj (x::r) ai h
  |.H az ak=>fO (mb (vs r az) (v3 r ak)) λax=>ev call f ah aj (.agg ax::r) ai h
  |.j af w ac am=>fO (pT af w (nv r ac) (nv r am) h) λx=>ev call f ah aj (x::r) ai h
  |.k af ak=>EX call af (vs r ak) h λx=>ev call f ah aj (x::r) ai h
  |.K af ak=>EY call af (vs r ak) h λx h=>ev call f ah aj (x::r) ai h
  |.v ac ak=>pG (lL (nv r ac) (vp r ak)) λaf au=>EX call af au h λx=>ev call f ah aj (x::r) ai h
  |.V ac ak=>pG (lL (nv r ac) (vp r ak)) λaf au=>EY call af au h λx h=>ev call f ah aj (x::r) ai h
  |.iv a0 ac ak=>pG (rS a0 (nv r ac) (vp r ak) h) λaf au=>EX call af au h λx=>ev call f ah aj (x::r) ai h
  |.iV a0 ac ak=>pG (rS a0 (nv r ac) (vp r ak) h) λaf au=>EY call af au h λx h=>ev call f ah aj (x::r) ai h
  |.x2 aA=>fO (aA r h) λx=>ev call f ah aj (x::r) ai h
  |.y2 aA=>pG (aA r h) λx h=>ev call f ah aj (x::r) ai h
  |.z2 aA=>fO (aA r h) λh=>ev call f ah aj r ai h
  |.z x=>ev call f ah aj (x::r) ai h
  |.y af=>ev call f ah aj (Go.AM.I af::r) ai h
  |.g ak=>ev call f ah aj (.agg (vs r ak)::r) ai h
  |.gg a2 af=>ev call f ah aj (.agg (tk (dr r a2) af)::r) ai h
  |.fn af ak w=>ev call f ah aj (.fn af (vp r ak) (vp r w)::r) ai h
  |.Y a0 ac=>ev call f ah aj (.iface a0 (nv r ac).pl::r) ai h
  |.c ac au=>Oq (nv r ac) (ev call f ah au r ai h) (ev call f ah aj r ai h)
  |.G ac au=>IY (nv r ac) ad (ev call f ah au r ai h) (ev call f ah aj r ai h)
  |.Gf ac au=>IY (nv r ac) ab (ev call f ah au r ai h) (ev call f ah aj r ai h)
  |.r au af=>ev call f ah au r ((λax h=>ev call f ah aj (ap (gs ax af) r) ai h)::ai) h
  |.w au af ak=>Oo (λax h aF=>ev call f ah au (ap (gs ax af) r) (aF::ai) h) 2000 (vs r ak) h
  |.h au=>match ev call f ab au r [] h with|aa _=>ev call f ah aj r ai h|ae=>ae
  |.ob ac am=>if !ah&&sI 40 (nv r ac) (nv r am)then aa (.undef,[])else ae
  |.tr=>if ah then ae else aa (.undef,[])
  |.Q ac=>if ah then aa ((nv r ac).pl,h)else ae
  |.T ak=>if ah then aa (.aB (vp r ak),h)else ae
  |.R aF ak=>IW ai aF (vs r ak) h
  |.Z aF ak a2 af=>IW ai aF (ap (vs r ak) (tk (dr r a2) af)) h
variable{dd:Md}
theorem mA{h:List Obj}{d:AV->Option AV}(e:∀g f,d g=aa f->aM h dd g f):∀{c r:List AV},jL d c=aa r->b7 h dd c r
 |[],r,b=>by cases b;exact .nil _
 |a::c,r,b=>by
  simp only[jL]at b;split at b;rename_i k i;split at b;rename_i l j;cases b
  exact .cons _ _ _ _ _ (e _ _ i) (mA e j);cases b
  cases b
theorem AK{h:List Obj}{d:AV->Option AV}(e:∀g f,d g=aa f->aM h dd g f):∀{c r:List (List AV)},jL (jL d) c=aa r->fJ h dd c r
 |[],r,b=>by cases b;exact .nil _
 |a::c,r,b=>by
  simp only[jL]at b;split at b;rename_i k i;split at b;rename_i l j;cases b
  exact .cons _ _ _ _ _ (mA e i) (AK e j);cases b
  cases b
variable{rK:Option K}{rL:K -> b0}
theorem sJ(h:rK.map rL=aa oR):∃a,rK=aa a/\oR=rL a:=by
 rcases rK with _|a;cases h
 cases h;exact⟨a,rfl,rfl⟩
theorem aao{b:Option K}(h:(rK<|>b)=aa dW):rK=aa dW\/b=aa dW:=by
 rcases rK with _|a;exact .inr h;exact .inl h
theorem EZ{h:List Obj}:∀(n:Nat)(d:Md){k l:AV},lk h n d k=aa l->aM h d k l
 |0,_,_,_,e=>by cases e
 |n+1,d,k,l,e=>by
  have b:=λd k l=>@EZ h n d k l;cases k<;>simp only[lk]at e
  case int=>cases e;exact .int _ _ _
  case bool=>cases e;exact .bool _ _
  case str=>cases e;exact .str _ _
  case gH=>cases e;exact .gH _
  case fP=>cases e;exact .fP _
  case jZ=>cases e;exact .jZ _
  case undef=>cases e;exact .undef _ _
  case aq=>cases e;exact .aq _ _
  case dL=>cases e;exact .dL _ _
  case agg=>obtain⟨c,a,rfl⟩:=sJ e;exact .agg _ _ _ (mA (b d) a)
  case aB=>obtain⟨c,a,rfl⟩:=sJ e;exact .aB _ _ _ (mA (b d) a)
  case iface=>obtain⟨c,a,rfl⟩:=sJ e;exact .iface _ _ _ _ (b _ _ _ a)
  case fn=>
   split at e;rename_i c m a i;cases e;exact .fn _ _ _ _ _ _ (mA (b d) a) (mA (b d) i);cases e
  case sl=>
   cases d<;>simp only at e
   case dm=>obtain⟨c,a,rfl⟩:=sJ e;exact .xN _ (by decide) _ _ _ (AK (b _) a)
   case res=>obtain⟨c,a,rfl⟩:=sJ e;exact .CS _ _ _ (AK (b _) a)
   case cd=>
    rcases aao e with e|e;obtain⟨c,a,rfl⟩:=sJ e;exact .xN _ (by decide) _ _ _ (AK (b _) a);obtain⟨c,a,rfl⟩:=sJ e;exact .AZ _ _ _ (AK (b _) a)
  case aH=>
   cases d<;>simp only at e
   case dm=>obtain⟨c,a,rfl⟩:=sJ e;exact .uV _ (by decide) _ _ _ _ (mA (b _) a)
   case res=>obtain⟨c,a,rfl⟩:=sJ e;exact .CT _ _ _ _ (mA (b _) a)
   case cd=>
    rcases aao e with e|e;obtain⟨c,a,rfl⟩:=sJ e;exact .uV _ (by decide) _ _ _ _ (mA (b _) a);obtain⟨c,a,rfl⟩:=sJ e;exact .A0 _ _ _ _ (mA (b _) a)
  case q id g off len=>
   cases d<;>simp only at e
   case dm=>cases e
   all_goals
    split at e;rename_i r s p f;split at e;rename_i j;obtain⟨c,a,rfl⟩:=sJ e;obtain⟨rfl,j⟩:=j
    first|exact .wc _ _ _ _ _ _ _ f j (AK (b _) a)|exact .pK _ _ _ _ _ _ _ f j (AK (b _) a)
    cases e
    cases e
  case ptr id g v off=>
   cases d<;>simp only at e
   case dm=>cases e
   all_goals
    split at e;rename_i r s p f;split at e;rename_i j;subst j;split at e;rename_i t o;obtain⟨c,a,rfl⟩:=sJ e
    first|exact .o2 _ _ _ _ _ _ _ _ f o (mA (b _) a)|exact .Fo _ _ _ _ _ _ _ _ f o (mA (b _) a)
    cases e
    cases e
    cases e
  case il=>
   cases d<;>simp only at e
   case res=>cases e
   all_goals
    split at e;rename_i c m a i;cases e
    first|exact .zk _ _ _ _ (mA (b _) a) (mA (b _) i)|exact .xO _ _ _ _ (mA (b _) a) (mA (b _) i)
    cases e
  case b8=>
   cases d<;>simp only at e
   case cd=>
    split at e;rename_i u w vs f;split at e;rename_i c m a i;cases e
    exact .xP _ _ _ _ _ _ f (mA (b _) a) (mA (b _) i);cases e
    cases e
   all_goals cases e
  all_goals cases e
theorem E1{d:AV->Bool}(e:∀f,d f=ad->NB f):∀{c:List AV},c.all d=ad->sV c
 |[],_=>.nil
 |a::c,b=>by
  simp only[oF,ba]at b;exact .cons _ _ (e _ b.1) (E1 e b.2)
theorem aap{d:AV->Bool}(e:∀f,d f=ad->NB f):∀{c:List (List AV)},c.all (λb=>b.all d)=ad->we c
 |[],_=>.nil
 |a::c,b=>by
  simp only[oF,ba]at b;exact .cons _ _ (E1 e b.1) (aap e b.2)
theorem aaq:∀(n:Nat){b:AV},AJ n b=ad->NB b
 |0,_,a=>by cases a
 |n+1,b,a=>by
  have c:=λb=>@aaq n b;unfold AJ at a;split at a;exact .int _ _;exact .bool _;exact .str _;exact .gH;exact .fP;exact .jZ;exact .undef;exact .agg _ (E1 c a);exact .aB _ (E1 c a);exact .Jm _;simp only[ba,hv]at a;obtain⟨rfl,a⟩:=a;exact .sl _ (aap c a);simp only[ba,hv]at a;obtain⟨rfl,a⟩:=a;exact .aH _ _ (E1 c a);cases a
theorem CA{e:AV->AV->Bool}(f:∀g w,e g w=ad->g=w):∀{c d:List AV},tM e c d=ad->c=d
 |[],[],_=>rfl
 |a::c,h::d,b=>by
  simp only[tM,ba]at b;rw[f _ _ b.1,CA f b.2]
 |[],_::_,b=>by cases b
 |_::_,[],b=>by cases b
theorem Ot{e:AV->AV->Bool}(f:∀g w,e g w=ad->g=w):∀{c d:List (List AV)},IZ e c d=ad->c=d
 |[],[],_=>rfl
 |a::c,h::d,b=>by
  simp only[IZ,ba]at b;rw[CA f b.1,Ot f b.2]
 |[],_::_,b=>by cases b
 |_::_,[],b=>by cases b
theorem E2:∀(n:Nat){b w:AV},sI n b w=ad->b=w
 |0,_,_,a=>by cases a
 |n+1,b,w,a=>by
  have c:=λb w=>@E2 n b w;unfold sI at a;split at a
  all_goals first
   |rfl
   |(simp only[ba,beq_iff_eq]at a
     first
      |rw[a.1,a.2]
      |rw[a]
      |(let⟨⟨⟨rfl,rfl⟩,rfl⟩,rfl⟩:=a;rfl)
      |rw[a.1,Ot c a.2]
      |rw[a.1.1,CA c a.1.2,a.2])
   |rw[CA c a]
   |rw[Ot c a]
   |cases a
variable{fp iB:Prop}
section
variable{x:AV×List Obj}
theorem CB{a:K->Er}{b:K->Prop}(h:fO rK a=aa x)(c:∀v,a v=aa x->b v):bd rK b:=by
 rcases rK with _|v;cases h
 exact c v h
theorem Ou{a:Option (K×b0)}{b:K->b0->Er}{c:K->b0->Prop}(h:pG a b=aa x)(d:∀v w,b v w=aa x->c v w):cq a c:=by
 rcases a with _|v;cases h
 exact d v.1 v.2 h
theorem aqi{d:AV}{b c:Er}(h:Oq d b c=aa x)(e:b=aa x->fp)(f:c=aa x->iB):ez d fp iB:=by
 unfold Oq at h;unfold ez;split at h;rename_i a;rw[a];exact e h;rename_i a;rw[a];exact f h;cases h
theorem aqj{d:AV}{w:Bool}{b c:Er}(h:IY d w b c=aa x)(f:b=aa x->fp)(g:c=aa x->iB):gd d w fp iB:=by
 unfold IY at h;unfold gd;split at h;rename_i e;rw[e];split at h;rename_i a;simp only[if_pos a];exact f h;rename_i a;simp only[if_neg a];exact g h;cases h
theorem aar{c:List AV->List Obj->Ke->Er}{d:List AV->List Obj->Kt->Prop}(f:∀a h i e,c a h i=aa x->(∀a h,i a h=aa x->e a h)->d a h e):∀(n:Nat){a:List AV}{h:List Obj},Oo c n a h=aa x->jB d a h
 |0,_,_,b=>by cases b
 |n+1,a,h,b=>λI g=>g _ _ (f _ _ _ _ b λ_ _ j=>aar f n j I g)
end
section
variable{call:CE}(hC:(∀f a h x,call.c f a h=aa x->C f a h x.1 x.2)/\∀f a r,call.p f a=aa r->PR C f a r){x:AV×List Obj}
include hC
theorem aas{f:Nat}{args:List AV}{h:List Obj}{c:AV->List Obj->Er}{d:AV->List Obj->Prop}(a:EY call f args h c=aa x)(e:∀b w,c b w=aa x->d b w):ch C f args h d:=by
 unfold EY pG at a;split at a;rename_i b g;exact⟨_,_,hC.1 _ _ _ _ g,e _ _ a⟩;cases a
theorem aat{f:Nat}{d:List AV}{c:AV->Er}(a:IX call f d c=aa x):∃r,PR C f d r/\c r=aa x:=by
 unfold IX at a;split at a;rename_i r b;exact⟨r,hC.2 _ _ _ b,a⟩
 ·unfold pG fO at a
  split at a
  ·rename_i g e
   try dsimp only at a
   split at a;rename_i r b;exact⟨r,⟨_,_,hC.1 _ _ _ _ e,EZ _ _ b⟩,a⟩;cases a
  cases a
theorem aau{f:Nat}{args:List AV}{h:List Obj}{g:AV->Er}{i:AV->Prop}(a:EX call f args h g=aa x)(j:∀k,g k=aa x->i k):cp C f args h i:=by
 unfold EX fO at a;split at a;rename_i c e;let⟨r,d,b⟩:=aat hC a;exact⟨.dm,c,r,by decide,mA (λ_ _=>EZ _ _) e,d,(λa=>by cases a),j _ b⟩;split at a;rename_i c e;let⟨r,d,b⟩:=aat hC a;split at b;rename_i l;exact⟨.cd,c,r,by decide,mA (λ_ _=>EZ _ _) e,d,(λ_=>aaq _ l),j _ b⟩;cases b
 cases a
theorem E3:∀(n:Nat){e:Bool}{p:List In}{r:List AV}{i:List Ke}{l:List Kt}{h:List Obj}{x:AV×List Obj}{Q:AV->List Obj->Prop},ev call n e p r i h=aa x->(e=ad->Q x.1 x.2)->(∀j c h,IW i j c h=aa x->nk l j c h)->cK Q n p r l h
 |0,_,_,_,_,_,_,_,_,b,_,_=>by cases b
 |n+1,e,[],_,_,_,_,_,_,b,_,_=>by cases b
 |n+1,e,a::p,r,i,l,h,x,Q,b,k,m=>by
  have d:=λ{p r h}(b:ev call n e p r i h=aa x)=>@E3 n e p r i l h x Q b k m;cases a<;>simp only[ev]at b<;>simp only[cK]<;>first
   |exact CB b λ_ b=>d b
   |exact Ou b λ_ _ b=>d b
   |exact d b
   |exact CB b λ_ b=>CB b λ_ b=>d b
   |exact CB b λ_ b=>CB b λ_ b=>CB b λ_ b=>d b
   |exact aau hC b λ_ b=>d b
   |exact aas hC b λ_ _ b=>d b
   |exact Ou b λ_ _ b=>aau hC b λ_ b=>d b
   |exact Ou b λ_ _ b=>aas hC b λ_ _ b=>d b
   |exact aqi b (λb=>d b) λb=>d b
   |exact aqj b (λb=>d b) λb=>d b
   |exact m _ _ _ b
   |exact trivial
   |(cases b;done)
   |skip
  case r f o=>
   exact@E3 n e f r _ _ h x Q b k λj c h b=>by
    rcases j with _|j;exact d b;exact m _ _ _ b
  case w f o A=>
   exact aar (c:=λc h j=>ev call n e f (ap (gs c o) r) (j::i) h) (λc h z y b s=>@E3 n e f _ _ _ h x Q b k λj c h b=>by
    rcases j with _|j;exact s _ _ b;exact m _ _ _ b) 2000 b
  case h f=>
   split at b;rename_i u t;exact⟨@E3 n ab f r [] l h u Q t (λb=>by cases b) (λ_ _ _ b=>by cases b),d b⟩;cases b
  case Q q=>
   split at b;rename_i g;cases b;exact k g
   cases b
  case T q=>
   split at b;rename_i g;cases b;exact k g
   cases b
  case ob q w=>
   split at b;rename_i g;simp only[ba]at g;exact E2 _ g.2;cases b
end
structure Te where
 f:Nat
 k:Nat
 t:List In
 h:∀args:List AV,Z args=k->dX f args λh Q=>cK Q 999 t args [] h
variable{hM:List String}{fk:List In}
def Ov(h:od U [] hM fk):Te:=⟨U,0,(dc 999 (sn hM) fk).1,λargs a=>match args,a with|[],_=>h⟩
def gZ(h:∀{a:AV},od U [a] hM fk):Te:=⟨U,1,(dc 999 (sn hM) fk).1,λargs b=>match args,b with|[a],_=>h⟩
def fj(h:∀{a b:AV},od U [a,b] hM fk):Te:=⟨U,2,(dc 999 (sn hM) fk).1,λargs c=>match args,c with|[a,b],_=>h⟩
def ll(h:∀{a b c:AV},od U [a,b,c] hM fk):Te:=⟨U,3,(dc 999 (sn hM) fk).1,λargs d=>match args,d with|[a,b,c],_=>h⟩
def xA(h:∀{a b c d:AV},od U [a,b,c,d] hM fk):Te:=⟨U,4,(dc 999 (sn hM) fk).1,λargs e=>match args,e with|[a,b,c,d],_=>h⟩
def Ow(h:∀{a b c d e:AV},od U [a,b,c,d,e] hM fk):Te:=⟨U,5,(dc 999 (sn hM) fk).1,λargs f=>match args,f with|[a,b,c,d,e],_=>h⟩
def aqk(h:∀{a b c d e f:AV},od U [a,b,c,d,e,f] hM fk):Te:=⟨U,6,(dc 999 (sn hM) fk).1,λargs g=>match args,g with|[a,b,c,d,e,f],_=>h⟩
def aql(h:∀{a b c d e f g:AV},od U [a,b,c,d,e,f,g] hM fk):Te:=⟨U,7,(dc 999 (sn hM) fk).1,λargs i=>match args,i with|[a,b,c,d,e,f,g],_=>h⟩
def aav(h:∀{a:AV},dX U [a] (dn fk [a])):Te:=⟨U,1,fk,λargs b=>match args,b with|[a],_=>h⟩
def jW(h:∀{a b:AV},dX U [a,b] (dn fk [a,b])):Te:=⟨U,2,fk,λargs c=>match args,c with|[a,b],_=>h⟩
def y1(h:∀{a b c:AV},dX U [a,b,c] (dn fk [a,b,c])):Te:=⟨U,3,fk,λargs d=>match args,d with|[a,b,c],_=>h⟩
def aqm:List Te:=[Ov r5,fj r7,Ov afI,ll aga,ll adY,gZ adZ,ll ad0,fj Tn,gZ RV,jW RW,jW S1,fj Ru,gZ To,jW Rv,fj aeM,fj Tp,gZ Sg,ll SA,ll S2,fj Tq,fj Rw,gZ Tt,xA afk,gZ Rx,fj aep,fj aeN,Ov aeO,ll aeP,fj afK,fj aeq,fj aeQ,ll aeR,ll afL,gZ afl,Ow aer,gZ SB,fj RX,gZ Sh,gZ Tu,jW Si,jW Ry,Ow afN,gZ Tv,fj Rz,fj S3,fj S4,gZ SD,fj Tw,gZ Tx,jW KT,ll S5,gZ S6,ll SE,gZ RA,fj RY,gZ RB,fj agh,gZ Ty,ll Sj,y1 aeY,jW RC,aqk afp,gZ RZ,fj S7,ll R0,xA afQ,aav qS,gZ Sk,ll RD,fj RE,gZ RF,ll SF,fj Sl,ll Tz,fj R1,fj TA,fj Sn,fj S8,jW RG,gZ SG,fj R2,jW SH,aql KS,xA SI,fj R3,aav Sp,fj afu,gZ afX,xA Sq,fj S9,fj TB,ll RH,fj R4,fj R5,gZ RI,gZ Ta,fj TC,fj RJ,fj R6,jW SJ,ll R7,fj TD,xA RK,xA SL,fj R8,gZ Tb,jW TE,Ow R9,gZ Tc,y1 TF,y1 RM,y1 RN,gZ Td,y1 SM,gZ SN,ll Tf,xA Tg,fj SO,gZ Sa,gZ SP,fj RO,fj Th,fj TG,fj SQ,xA SS,jW SU,jW Sr,gZ Ss,jW Su,jW TH,gZ SV,y1 Sv,jW TI,jW Sw,ll SX,gZ Sb,y1 Ti,gZ Sx,y1 Tj,gZ TJ,fj TK,fj Tk,fj KR,xA RP,ll Sc,jW SY,jW Sd,ll Tl,jW Se,jW Sf,jW RQ,jW Sy,jW SZ,jW RR,jW Tm,ll RS,jW TL,gZ Sz,fj RU,ll S0]
def aaw:AV->Bool
 |.lp _ _=>ab
 |_=>ad
theorem aax:∀{b:List AV},b.all aaw=ad->b.map AV.pl=b
 |[],_=>rfl
 |a::b,c=>by
  simp only[oF,ba]at c;rw[ej,aax c.2];cases a<;>first|rfl|cases c.1
abbrev Pc:=List (Nat×List AV×AV)
def E4(b:Pc)(d:Nat)(c:List AV):Option AV:=match b.find? (λa=>a.1==d&&tM (sI 40) a.2.1 c)with|aa a=>aa a.2.2|ae=>ae
def y3(b:Pc):Prop:=∀a∈b,PR C a.1 a.2.1 a.2.2
theorem y3.nil:y3 []:=λ_ h=>by cases h
theorem y3.cons{r:AV}{b:Pc}(h:PR C U bF r)(d:y3 b):y3 ((U,bF,r)::b):=λc a=>by
 rcases b6.1 a with rfl|a;exact h;exact d c a
theorem aqn{c:Pc}(g:y3 c)(e:Nat)(d:List AV)(r:AV)(a:E4 c e d=aa r):PR C e d r:=by
 unfold E4 at a;split at a;rename_i h f;cases a
 have b:=Jh f;simp only[ba,beq_iff_eq]at b;rw[<-b.1,<-CA (λ_ _=>E2 _) b.2];exact g _ (ar7 f);cases a
def E5(d:Nat->List AV->List Obj->Er)(b:Pc):Nat->CE
 |0=>⟨λ_ _ _=>ae,E4 b⟩
 |n+1=>⟨λc args h=>match aqm.find? (λa=>a.f==c)with
  |some a=>if Z args=a.k/\args.all aaw=ad then ev (E5 d b n) 999 ad a.t args [] h else ae
  |none=>d c args h,E4 b⟩
theorem aqo(c:Nat->List AV->List Obj->Er)(a:Pc):∀b,(E5 c a b).p=E4 a
 |0=>rfl
 |_+1=>rfl
theorem aay{i:Nat->List AV->List Obj->Er}{g:Pc}(j:y3 g)(l:∀d e h b,i d e h=aa b->C d e h b.1 b.2):∀(n d:Nat)(args:List AV)(h:List Obj)(b:AV×List Obj),(E5 i g n).c d args h=aa b->C d args h b.1 b.2
 |0,_,_,_,_,a=>by cases a
 |n+1,d,args,h,b,a=>by
  simp only[E5]at a;split at a;rename_i m u;split at a;rename_i k;have t:m.f=d:=by simpa using Jh u
  let⟨r,v,p,q,s⟩:=m.h args k.1 (aax k.2) h (λe o=>e=b.1/\o=b.2) (E3 ⟨aay j l n,λd e r a=>aqn j d e r (by rw[<-aqo i g n];exact a)⟩ 999 a (λ_=>⟨rfl,rfl⟩) λ_ _ _ a=>by cases a);subst q;subst s;rw[<-t];exact p;cases a
  exact l _ _ _ _ a
def Ox(i:Nat)(args:List AV)(h:List Obj):Er:=
 match i,args with
 |72,[.agg a]=>if tM (sI 40) a (cP ab ab pC)||tM (sI 40) a (cP ad ab pC)||tM (sI 40) a (cP ad ad pC)||tM (sI 40) a (cP ab ad pC)then match h with|[]=>aa (.aB [eS ab cN [0,1],eS ab cG [[0],[1]]],[])|_=>ae else ae
 |121,[.q id g 0 c,.int .i64 (.ofNat f),.q b 0 0 1]=>match h[id]?,h[b]? with
  |aa (.arr j 3 e),aa (.arr 0 3 [d])=>if j=g/\Z e=c/\id≠b/\f<=c/\(c+1)*40<=140737488355328 then aa (.q id (g+1) 0 (c+1),h.set id (.arr (g+1) 3 (e.take f++d::e.drop f)))else ae
  |_,_=>ae
 |121,[.aq,.int .i64 (.ofNat 0),.q b 0 0 1]=>match h[b]? with
  |aa (.arr 0 3 [d])=>aa (.q h.length 0 0 1,h++[.arr 0 3 [d]])
  |_=>ae
 |_,_=>ae
theorem aqp:gx pC 0=[]:=by decide+kernel
theorem aqq:gx pC 1=[0,1,0]:=by decide+kernel
theorem aqr:dQ [0]=[0]:=by decide+kernel
theorem aqs:dQ [1]=[1]:=by decide+kernel
theorem aaz:((ay 2).map (kG dQ (gx pC) 2 (ay 2) TS.init).of)=[0,1]/\(kG dQ (gx pC) 2 (ay 2) TS.init).out=[[0],[1]]:=by
 have a:ay 2=[0,1]:=rfl;rw[a];simp[kG,ja,sE,aqp,aqq,TS.init,TS.enter,TS.pop,Law.bW,aqr,aqs,List.idxOf,List.findIdx,List.findIdx.go]
theorem aqt(g:Nat)(args:List AV)(h:List Obj)(f:AV×List Obj)(a:Ox g args h=aa f):C g args h f.1 f.2:=by
 unfold Ox at a;split at a;rename_i o;split at a;rename_i b;split at a;cases a
 have m:∀c d,C 72 [.agg (cP c d pC)] [] (.aB [eS ab cN [0,1],eS ab cG [[0],[1]]]) []:=λc d=>by
  have:=YB Oj (T:=c) (F:=d) NA (V:=pC) (by decide);rw[show Z pC.Q=2 from rfl,aaz.1,aaz.2]at this;exact this
 simp only[h5]at b;rcases b with((b|b)|b)|b<;>(rw[CA (λ_ _=>E2 _) b];exact m _ _)
 cases a
 cases a
 split at a;rename_i n e;split at a;rename_i b;let⟨rfl,i,j,k,l⟩:=b;cases a
 exact uZ (YK n i e j k l);cases a
 cases a
 split at a;rename_i e;cases a
 exact uZ (YL e);cases a
 cases a
def aaA(b:Pc)(d:Nat)(args:List AV):Option AV:=match(E5 Ox b 60).c d args []with|aa a=>lk a.2 30 .res a.1|ae=>ae
theorem AL{b:Pc}(d:y3 b){args:List AV}{r:AV}(h:(match aaA b U args with|aa c=>sI 40 c r|ae=>ab)=ad):PR C U args r:=by
 unfold aaA at h;split at h;rename_i c a;split at a;rename_i f e;rw[<-E2 _ h];exact⟨_,_,aay d aqt _ _ _ _ _ e,EZ _ _ a⟩;cases a
 cases h
def hF:List S:=[hE 0 [97] [98],hE 0 [98] [97],hE 0 [98] [99]]
def AN:List S:=[hE 1 [97] [98],hE 1 [98] [97],hE 1 [98] [99]]
def rb:List S:=[hE 1 [97] [97],hE 1 [97] [98],hE 1 [97] [99],hE 1 [98] [97],hE 1 [98] [98],hE 1 [98] [99]]
theorem Oy:∀c∈hF++rb,dF c.af:=by
 have h:∀(g:Int)(a b:d),Z a<=10->Z b<=10->dF (hE g a b).af:=λg a b i j=>⟨nj (by simp[hE]),λk f=>by
  simp only[hE,b6,jN,or_false]at f;rcases f with rfl|rfl<;>exact nj (by simp[fN];omega)⟩
 intro c e;simp only[hF,rb,hG,dR,b6,jN,or_false]at e;rcases e with rfl|rfl|rfl|rfl|rfl|rfl|rfl|rfl|rfl<;>exact h _ _ _ (by decide) (by decide)
theorem Oz:hR pC hF=true:=by decide+kernel
theorem aqu:hR pC (hF++AN)=true:=by decide+kernel
theorem aqv:hR pC (hF++rb)=true:=by decide+kernel
theorem aaB(h:hR pC X=ad):bE pC (fU pC X) X:=yU Cr h
theorem aaC(c:kz pC X 3000=ad)(b:∀a∈X,dF a.af):q1 pC (fU pC X):=AF c Cr (Cs (.inl rfl)) b Iw
theorem OA:∀a∈hF,dF a.af:=λa h=>Oy a (OR _ h)
theorem aqw:∀a∈hF++AN,dF a.af:=λa h=>Oy a (by
 simp only[hF,AN,rb,hG,dR,b6,jN,or_false]at h⊢;grind)
theorem OB(e:kz pC X 3000=ad)(d:∀c∈X,dF c.af)(a:hR pC X=ad)(i:Z X<=100)(b:fD pC [1] X=gG):PR C 14 [.agg (cP ab ab pC),eS ab cI [1],eS T (cF ab) X] (eS ab (cF ab) gG):=by
 have:=Nx Ol On Om (T:=false) (F:=T) (bC:=false) (c8:=false) X [1] (aaC e d) (aaB a) (by omega) (by rw[NC,a]<;>rfl) NA (by decide) Iw Y8 (nj (by decide));rwa[b]at this
theorem aqx:PR C 14 [.agg (cP ab ab pC),eS ab cI [1],eS ad (cF ab) hF] (eS ab (cF ab) AN):=OB (by decide+kernel) OA Oz (by decide) (by decide+kernel)
theorem aqy:PR C 14 [.agg (cP ab ab pC),eS ab cI [1],eS ad (cF ab) (hF++AN)] (eS ab (cF ab) rb):=OB (by decide+kernel) aqw aqu (by decide) (by decide+kernel)
theorem aqz:PR C 14 [.agg (cP ab ab pC),eS ab cI [1],eS ad (cF ab) (hF++rb)] (eS ab (cF ab) rb):=OB (by decide+kernel) Oy aqv (by decide) (by decide+kernel)
theorem aqA:j9 pC (tA pC) hF (aa (hF++rb)):=by
 rw[Y9];refine .cons [0] [[1]] 0 hF hF _ (.stop 0 hF (by decide+kernel) (by decide+kernel)) (.cons [1] [] 3 hF (hF++rb) _ ?_ (.nil _));refine .next 2 _ _ (by decide+kernel) (by decide+kernel) ?_;have a:ir pC [1] hF=hF++AN:=by decide+kernel
 rw[a];refine .next 1 _ _ (by decide+kernel) (by decide+kernel) ?_;have b:ir pC [1] (hF++AN)=hF++rb:=by decide+kernel
 rw[b];exact .stop 1 _ (by decide+kernel) (by decide+kernel)
theorem I0:PR C 25 [.agg (cP ab ab pC),eS ab (cF ab) hF] (Ei (aa (hF++rb))):=by
 have ok:xx pC hF=true:=by rw[xx,NC,Oz];decide+kernel
 refine kY Ol On Om (T:=false) (F:=false) (bC:=false) pC hF (Cs (.inl rfl)) (nj (by decide)) OA _ (λh=>by rw[ok]at h;cases h) λ_=>?_;have b:=aaC (X:=hF) (by decide+kernel) OA;exact⟨by decide,(yT (AE (X:=hF) (by decide+kernel))).1,NA,λh=>absurd Iw h,λ_ h=>absurd Y8 h,λ_ _=>⟨_,_,b,aaB Oz,by decide,aqA,rfl⟩⟩
end AM
end Go
