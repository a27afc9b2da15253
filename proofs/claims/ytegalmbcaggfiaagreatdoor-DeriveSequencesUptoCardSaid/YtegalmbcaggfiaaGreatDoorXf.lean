/- The law DeriveSequencesUptoCardSaid: part 6 of 14 of the proof. No condition. -/
import Derived.Test.YtegalmbcaggfiaaGreatDoorXe
import Derived.Shelf.SlSortCmp.WholeK
import Derived.Shelf.SlSortCmp.NoneTotal
set_option maxRecDepth 100000
open List renaming length->Z,range->ay,map->QU,replicate->db,contains_iff_mem->OK,filter_cons_of_neg->ar0,filter_eq_self->ar1,mem_cons_self->AF,mem_set->arZ
open Option renaming some->aa,none->ae
open Bool renaming true->ad,false->ab,and_self->arY
open Decidable renaming decide->y
open Array renaming toList->bI
open Int renaming ofNat->cu
open Go.Proofs.Tryz renaming prog->aU
open Int.ofNat renaming inj->ar2
open List.Pairwise renaming imp_of_mem->avE
open List.Perm renaming of_eq->avF,refl->avG
open Nat renaming mod_lt->E8
open Option.some renaming inj->yY
namespace Go
namespace AM
open Go.Law
theorem anZ(a:bP):NB (.agg (bo ab a)):=.agg _ (.cons _ _ (.str _) (.cons _ _ (BU (λ_=>.cons _ _ (.str _) .nil) _) (.cons _ _ (WG _) (.cons _ _ (.int _ _) .nil))))
variable{X:List S}{b3:S}{U:Nat}
theorem an0(c:gm X)(a:uC X b3 U)(h:ka X b3 U=ab):jG X b3 (Z X)=U:=by
 let⟨d,f⟩:=Ly c (XV c a h) (Z X) (c5 _) (by omega);have j:=Vu X b3 (Z X);have:=a.le;generalize jG X b3 (Z X)=b at*;rcases IQ b U with dC|e|dC;have g:=f b (by omega) (c5 _);have i:=a.lo b (by omega) dC;omega;exact e;have g:=d U (by omega) dC;have i:=a.hi U (by omega) (c5 _);omega
variable{N:Nat}{T:Bool}{V:D}{k bn:aL}{M:List Obj}
theorem Yz(c1:xj C)(co:eI V)(ci:kN V)(aZ:N<Z V.Q)(a3:b3.ai=N)(em:Z X<1099511627776)(d8:∀b3∈X,dX b3.af)(L:gm X)
 (bv:sy U T V X k)(u:Holds M (k++bn)):
 HR C 70 [.ptr U 0 0 0,.agg (cF ab b3)] M (λr Y=>r=.bool (y (da V X b3≠X))/\∃A,sy U T V (da V X b3) A/\Holds Y (A++bn)):=by
 apply afc.hq;have eq:Sm X:=by unfold Sm;omega
 have d0:(cF ab b3)[0+0]?=aa (I b3.ai):=rfl;have d1:(cF ab b3)[0+1]?=aa (eS ab cV b3.af):=rfl;have d2:(cF ab b3)[0+2]?=aa (I b3.aj):=rfl;have bi:∀(l:bP),(AV.agg [g (bo ab l) 0,g (bo ab l) 1,g (bo ab l) 2,g (bo ab l) 3])=.agg (bo ab l):=λ_=>rfl;have d3:=XP (T:=true) (F:=false) (bC:=T) (c6:=true) (iB:=false) V X N aZ ci
 let⟨a,K,br⟩:=MP (T:=true) (F:=false) (bC:=T) (c6:=true) (iB:=false) (d:=false) V X N b3.af eq d8 L (H4 L _);have ax:uC X b3 a:=by
  have s:∀x,cm x b3=cm x ⟨N,b3.af,0⟩:=λx=>MT a3 rfl;exact⟨K.le,λa4 aE h=>by rw[s];exact K.lo a4 aE h,λa4 aE h=>by rw[s];exact K.hi a4 aE h⟩
 have d6:ka X ⟨N,b3.af,0⟩ a=ka X b3 a:=by
  unfold ka;rcases X[a]? with _|x;rfl;grind[MT]
 rw[d6]at br;have ce:=bv.ow u;have a0:dB V b3.ai=if V.Q[N].of<0 then ae else V.aw[V.Q[N].of.toNat]?:=by
  unfold dB;rw[a3,eN,bu aZ]
 have f6:=ci _ (bp aZ);generalize f3:V.Q[N]=d at*;simp only[pR,O,bj,aK,d0,a3];apply e4 _ d3 (.ck ce (bS.snap (by simp))) (.aB _ (.cons _ _ (by simp[ite_self,anZ]) (.cons _ _ (.bool _) .nil)));simp only[fH,de,eF,O,ite_self,zo,bi];have P:0<=d.of->∃l,dB V b3.ai=aa l/\q0 V d=l/\l∈V.aw:=by
  intro B;let⟨j,cl⟩:∃j:Nat,d.of=j:=⟨d.of.toNat,by omega⟩;have a2:j<Z V.aw:=by omega
  refine⟨V.aw[j],?_,?_,bp a2⟩;rw[a0,if_neg (by omega),cl,eN,bu a2];rw[q0,if_neg (by omega),cl,eN,bu a2]<;>rfl
 refine yr (M:=M) (y (0<=d.of)&&(b3.aj==eB (q0 V d) [])) [g (bo ab (q0 V d)) 0,g (bo ab (q0 V d)) 1,g (bo ab (q0 V d)) 2,g (bo ab (q0 V d)) 3] (λz f5=>?_) ?_;refine aW (λh=>?_) (by grind);let⟨l,o,p,H⟩:=P (by grind);refine c (Hb (q0 V d) (by rw[p];exact co.aN l H)) ?_;simp only[tw,O];grind;simp only[G,i,bi]
 have el:ka X b3 a=ab->(∀l,dB V b3.ai=aa l->b3.aj≠eB l [])->da V X b3=X.take a++b3::X.drop a:=by
  intro bm f1;let⟨_,f2⟩:=MV L ax bm;have d4:jH X b3=X.take a++b3::X.drop a:=by rw[jH,an0 L ax bm]
  rw[<-d4];unfold da;rcases aA:dB V b3.ai with _|l;grind;grind
 refine b (λE=>?_) (λE=>?_);rw[bc]at E;let⟨l,o,p,H⟩:=P (by grind);have m:da V X b3=X:=by
  unfold da;rw[o];simp only;rw[if_pos (by have:=E.2;rw[p]at this;simpa using this)]
 refine⟨?_,k,by grind,u⟩;rw[m];simp;have eo:∀l,dB V b3.ai=aa l->b3.aj≠eB l []:=by
  intro l aR m;by_cases B:0<=d.of;let⟨f7,o,p,H⟩:=P B;rw[aR]at o;simp only[e1]at o;subst o;rw[p,m]at E;simp[B]at E;rw[a0,if_pos (by omega)]at aR;cases aR
 simp only[d1,d2,O];apply e4 _ br (.ck ce (bS.snap (by simp))) (.aB _ (.cons _ _ (.int _ _) (.cons _ _ (.bool _) .nil)));simp only[de,eF,O,bK];obtain⟨n,ac,az,rfl⟩:=bv;have R:∀(be:List AV),[be][0]?=aa be:=λ_=>rfl;have w:=u.get (U:=U) (hL:=.arr 0 5 [[eS ab (bo ab) V.aw,eS ab (cg ab) V.aO,eS ab (bO ab) V.Q,eS T (aS ab) V.ak,n]]) (by simp)
 have W:∀n:AV,[eS ab (bo ab) V.aw,eS ab (cg ab) V.aO,eS ab (bO ab) V.Q,eS T (aS ab) V.ak,n][0+4]?=aa n:=λ_=>rfl;refine b (λF=>?_) (λF=>?_);have F:ka X b3 a=false:=by simpa using F
 have m:=el F eo;simp only[hT w,eD w,cY w (R _),W,O,kr];refine aY (oK:=M++[.arr 0 3 [cF ab b3]]) rfl ?_;have bD:=u.alloc (.arr 0 3 [cF ab b3]);have am:=bD.get (U:=U) (hL:=.arr 0 5 [[eS ab (bo ab) V.aw,eS ab (cg ab) V.aO,eS ab (bO ab) V.Q,eS T (aS ab) V.ak,n]]) (by simp);simp only[hT am,eD am,cY am (R _),W,O,mf,true_and]
 have d7:Holds (M++[.arr 0 3 [cF ab b3]]) ((Z M,.arr 0 3 [cF ab b3])::(ac++((U,.arr 0 5 [[eS ab (bo ab) V.aw,eS ab (cg ab) V.aO,eS ab (bO ab) V.Q,eS T (aS ab) V.ak,n]])::bn))):=by
  refine bD.perm (List.Perm.cons _ ?_);exact(qn [_] ac bn)
 apply c7 (c1.anY a b3 az d7 K.le em) (by simp[az.pl]);rintro fd Y ⟨A,cc,d5⟩;have J:Holds Y ((U,.arr 0 5 [[eS ab (bo ab) V.aw,eS ab (cg ab) V.aO,eS ab (bO ab) V.Q,eS T (aS ab) V.ak,n]])::(A++bn)):=d5.back;have t:=J.get (U:=U) (hL:=.arr 0 5 [[eS ab (bo ab) V.aw,eS ab (cg ab) V.aO,eS ab (bO ab) V.Q,eS T (aS ab) V.ak,n]]) (by simp);simp only[hT t,eD t,O]
 refine aI (lE t rfl (by decide) cc.pl cc.cell) ⟨?_,_,⟨fd,A,by grind,rfl⟩,J.set _⟩;have:da V X b3≠X:=by
  intro s;have:=congrArg List.length s;rw[m]at this;simp at this;omega
 simp[this];have d9:ka X b3 a=true:=by simpa using F
 let⟨v,f4,ca⟩:=MU ax d9;refine b (λaA=>?_) (λaA=>?_);let⟨l,o,p,H⟩:=P (by grind);have m:da V X b3=X.set a ⟨X[a].ai,X[a].af,eB l [X[a].aj,b3.aj]⟩:=by
  unfold da;simp only[o,ca,bu v];grind
 rcases az with⟨rfl,-,-⟩|⟨id,f,rfl,rfl⟩;simp at v;have gid:=u.get (U:=id) (hL:=.arr f 3 (X.map (cF ab))) (by simp);have es:(X.map (cF ab))[a]?=aa (cF ab X[a]):=by simp[v]
 have cs:∀x:S,(cF ab x)[0+2]?=aa (I x.aj):=λ_=>rfl;have a9:∀{a5:List Obj}{ds:List (List AV)},a5[id]?=aa (.arr f 3 ds)->dD 2 (.ptr id f a 0) a5=aa (.ptr id f a (0+2)):=λh=>o8 h;simp only[hT w,eD w,cY w (R _),W,O,fu gid v,a9 gid,cY gid es,cs];refine c (aje (q0 V d) X[a].aj b3.aj (by rw[p];exact co.aN l H)) ?_;rw[e,p];apply aI (Lx gid v)
 have J:Holds M ([(U,.arr 0 5 [[eS ab (bo ab) V.aw,eS ab (cg ab) V.aO,eS ab (bO ab) V.Q,eS T (aS ab) V.ak,.q id f 0 (Z X)]])]++(id,.arr f 3 (X.map (cF ab)))::bn):=u;have au:=J.su (.arr f 3 ((X.set a ⟨X[a].ai,X[a].af,eB l [X[a].aj,b3.aj]⟩).map (cF ab)));generalize M.set id (.arr f 3 ((X.set a ⟨X[a].ai,X[a].af,eB l [X[a].aj,b3.aj]⟩).map (cF ab)))=fx at*
 have t:=au.get (U:=U) (hL:=.arr 0 5 [[eS ab (bo ab) V.aw,eS ab (cg ab) V.aO,eS ab (bO ab) V.Q,eS T (aS ab) V.ak,.q id f 0 (Z X)]]) (by simp);have ah:=au.get (U:=id) (hL:=.arr f 3 ((X.set a ⟨X[a].ai,X[a].af,eB l [X[a].aj,b3.aj]⟩).map (cF ab))) (by simp);have ex:((X.set a ⟨X[a].ai,X[a].af,eB l [X[a].aj,b3.aj]⟩).map (cF ab))[a]?=aa (cF ab ⟨X[a].ai,X[a].af,eB l [X[a].aj,b3.aj]⟩):=by simp[v]
 simp only[hT t,eD t,cY t (R _),W,O,fu ah v,a9 ah,cY ah ex,cs,cx];refine⟨?_,_,⟨.q id f 0 (Z X),[(id,.arr f 3 ((X.set a ⟨X[a].ai,X[a].af,eB l [X[a].aj,b3.aj]⟩).map (cF ab)))],?_,rfl⟩,au⟩;rw[m];apply congrArg AV.bool;rw[iQ];simp only[bne_iff_ne,ne_eq,decide_eq_true_eq];refine not_congr ⟨λs=>?_,λs=>?_⟩;have:(⟨X[a].ai,X[a].af,eB l [X[a].aj,b3.aj]⟩:S)=X[a]:=by rw[s]
 rw[this,yX];grind;grind[bB.of,cF,g,eB,List.length_set];have m:da V X b3=X:=by
  have B:d.of<0:=by simpa using aA
  unfold da;rw[a0,if_pos B];simp only[ca,oD,if_true]
 refine⟨by rw[m];simp,_,⟨n,ac,by grind,rfl⟩,u⟩
theorem qW.YA{p:D}{cd:List aG}{r:aD}(a:qW p cd)(h:bH p cd X)(b:Z X<4294967296)(hr:r∈p.ak):Es p r X cd where
 sm:=a.Hr
 of:=a.LS
 aN:=a.v.aN
 fl:=by grind[Sm]
 B5:=bH.BO a h.ok
 dF:=h.dF
 iS:=a.v.iS r hr
 meet:=h.meet a.v hr
 aj:=λf hf=>(h.ok f hf).aj
 D0:=a.D0
 af:=λl b=>by have:=(a.Hs r hr).2.2.2 l b;grind[Sm]
variable{aP:List aG}{H:bb}
theorem qW.head{r:aD}(b:qW V aP)(h:bH V aP X)(c:r∈V.ak)(g:0<=r.ai)(a:H∈ik V X r):Ng V r H:=by
 have d:=b.v.iS r c;have a:=DW d (b.v.safe r c) (h.meet b.v c) (λf i=>(h.ok f i).aj) H a;refine⟨a.len,by have:=(b.Hs r c).2.2.1;grind[Sm],a.aw,d.kinds,λe=>?_⟩;let⟨j,q,k,t,l,m,n⟩:=d.fn g e;let⟨s,o,p⟩:=a.az _ (DX a.zS (a.aw (.inr e)));grind[mm]
theorem an1(a:S):NB (.agg (cF ab a)):=.agg _ (.cons _ _ (.int _ _) (.cons _ _ (H6 _) (.cons _ _ (.int _ _) .nil)))
def Cb(b d c e:Nat)(f:AV)(a:Bool)(r:aD):aL:=[(c,.arr 0 9 [aS a r]),(d,.arr 0 1 [[.ptr e 0 0 0]]),(b,.arr 0 1 [[f]])]
variable{z dh mH:Nat}{F bC c6 iB:Bool}
theorem an2(u:xj C){b a:Nat}{c d:Bool}{out:List S}{r:aD}(W:eI V)(P:kN V)(M:N<Z V.Q)(R:r.ai=N)(L:Z out<1099511627776)(I:∀l∈out,dX l.af)(G:gm out)(J:Ng V r H):
 pn C 98 [.agg (cM b a),.ptr dh 0 0 0,.ptr z 0 0 0,.ptr mH 0 0 0] b a (sy U bC V) (Cb z dh mH U (.aH T (cW F c6 iB c V X) 0) d r) H out (da V out (kO V r H)):=by
 intro s g h j i q f m y e;apply af5.hq;have o:∀(k:List AV),[k][0]?=aa k:=λ_=>rfl;have Y:j0 2 (.agg (cM b a))=aa (.aH ab (cM b a) 0):=rfl;have ac:∀f,aQ 2 ad (.aH ab (cM b a) 0) f=aa (.agg (cM b a)):=λ_=>rfl;have x:=e.get (U:=dh) (hL:=.arr 0 1 [[.ptr U 0 0 0]]) (by simp[Cb]);have v:=e.get (U:=z) (hL:=.arr 0 1 [[.aH T (cW F c6 iB c V X) 0]]) (by simp[Cb])
 have w:=e.get (U:=mH) (hL:=.arr 0 9 [aS d r]) (by simp[Cb]);have ah:aQ 9 ad (.ptr mH 0 0 0) f=aa (.agg (aS d r)):=mi w rfl rfl;simp only[Y,ac,cY x (o _),cY v (o _),ah,de,O];have K:bS (cW F c6 iB c V X):=by simp[cW]
 refine e4 _ (anX (T:=T) (F:=F) (bC:=c6) (c6:=iB) (iB:=c) (j:=d) V X r H g h J m) ?_ (an1 _) ?_;exact .ck (Im.snap (by simp[K])) (.ck eu (.ck (Em e) (.nil _)));have E:Holds f (s++(eY b a j i H g h++(Cb z dh mH U (.aH T (cW F c6 iB c V X) 0) d r++q))):=e.swap;apply c7 (Yz u (b3:=kO V r H) W P M (by exact R) L I G y E) rfl;rintro ak aj ⟨-,t,A,B⟩;exact⟨t,g,h,j,i,m,A,B.swap⟩
variable{E:AV}
theorem bB.res(h:bB E (cF ab) 3 X k)(a:Holds M (k++bn)):aM M .res E (eS ab (cF ab) X):=by
 rcases h with⟨rfl,rfl,rfl⟩|⟨id,g,rfl,rfl⟩;exact .aq _ _;exact h8 (U:=3) (a.get (by simp)) (by simp)
theorem an3{out:List S}{r:aD}:(ik V X r).foldl (λa b=>da V a (kO V r b)) out=dq V out (lC V X r):=by
 rw[dq,lC,aaZ]
theorem YB(aZ:xj C)(d:List S)(e:List Int)(g:qW V aP)(h:bH V aP d)(ca:Z d<4294967296)(bm:Sm e):
 PR C 46 [.aH T (cW ab F bC c6 V d) 0,eS iB cI e] (eS ab (cF ab) (fC V e d)):=by
 apply afz.pr;have E:∀(e:List AV),[e][0]?=aa e:=λ_=>rfl;have em:bS (cW ab F bC c6 V d):=by simp[cW]
 have es:=g.v.ak;apply aY (obO_1 (E:=.aH T (cW ab F bC c6 V d) 0) rfl);simp only[dK,eU];refine aI (dR:=.aH T (cW ab F bC c6 V d) 0) rfl ?_;refine aI (yB _ _ _ _) (aI rfl ?_);refine aI (dR:=.agg [eS ab (bo ab) V.aw,eS ab (cg ab) V.aO,eS ab (bO ab) V.Q,eS F (aS ab) V.ak]) rfl ?_;apply aI (dR:=[eS ab (bo ab) V.aw,eS ab (cg ab) V.aO,eS ab (bO ab) V.Q,eS F (aS ab) V.ak,.aq]) rfl
 refine aY (Al rfl rfl) (aY rfl ?_);apply aI (dR:=[Obj.arr 0 1 [[.aH T (cW ab F bC c6 V d) 0]],.arr 0 5 [[eS ab (bo ab) V.aw,eS ab (cg ab) V.aO,eS ab (bO ab) V.Q,eS F (aS ab) V.ak,.aq]],.arr 0 1 [[.ptr 1 0 0 0]]]) rfl;refine aI (dR:=.aH T (cW ab F bC c6 V d) 0) rfl ?_;refine aI (yB _ _ _ _) (aI rfl (aI rfl ?_));apply aI (dR:=eS F (aS ab) V.ak) rfl;rw[a1,O]
 have y:Holds [Obj.arr 0 1 [[.aH T (cW ab F bC c6 V d) 0]],.arr 0 5 [[eS ab (bo ab) V.aw,eS ab (cg ab) V.aO,eS ab (bO ab) V.Q,eS F (aS ab) V.ak,.aq]],.arr 0 1 [[.ptr 1 0 0 0]]]
  ([(1,.arr 0 5 [[eS ab (bo ab) V.aw,eS ab (cg ab) V.aO,eS ab (bO ab) V.Q,eS F (aS ab) V.ak,.aq]])]++[(2,.arr 0 1 [[.ptr 1 0 0 0]]),(0,.arr 0 1 [[.aH T (cW ab F bC c6 V d) 0]])]):=by
  refine⟨by simp,?_⟩;intro k z;simp only[b5,dm,jM,or_false]at z;grind
 have Y:sy 1 F V [] [(1,.arr 0 5 [[eS ab (bo ab) V.aw,eS ab (cg ab) V.aO,eS ab (bO ab) V.Q,eS F (aS ab) V.ak,.aq]])]:=⟨.aq,[],bB.nil _ _,rfl⟩
 apply bG (K:=Nat×aL×List Obj) (λi=>[I i.1]) (λi=>i.2.2) (λi=>Z V.ak -i.1) (λi=>i.1<=Z V.ak/\sy 1 F V ((V.ak.take i.1).foldl (ky V e d) []) i.2.1/\Holds i.2.2 (i.2.1++[(2,.arr 0 1 [[.ptr 1 0 0 0]]),(0,.arr 0 1 [[.aH T (cW ab F bC c6 V d) 0]])])) (0,_,_) ⟨by simp,Y,y⟩;clear y Y;rintro⟨j,L,n⟩ ⟨bv,t,u⟩ d1 am;simp only at bv t u am⊢;simp only[G,A,O,a];refine b (λm=>?_) (λm=>?_)
 have m:j<Z V.ak:=by simpa using m
 have q:V.ak[j]∈V.ak:=bp m;have ah:=Ho g.v h e (V.ak.take j) (by grind) (bH.nil V aP);rw[hW,eU]at ah;have el:=by omega
 have dl:=λl aE w X=>am (j+1,l,aE) ⟨m,w,X⟩ (by omega);simp only[mS m]at dl;generalize(V.ak.take j).foldl (ky V e d) []=out at*;refine kR (λp h=>(∃az,p=[az])/\∃l,sy 1 F V (ky V e d out V.ak[j]) l/\Holds h (l++[(2,.arr 0 1 [[.ptr 1 0 0 0]]),(0,.arr 0 1 [[.aH T (cW ab F bC c6 V d) 0]])])) (λYC af=>?_) (λp d9 ci=>?_);rw[aF m (mM _ _),O,nA,O];apply aY rfl
 have R:=u.alloc (.arr 0 9 [[.str [],I 0,.aq,I 0,.str [],.str [],I 0,.aq,I 0]]);have W:=R.get (U:=Z n) (hL:=.arr 0 9 [[.str [],I 0,.aq,I 0,.str [],.str [],I 0,.aq,I 0]]) (by simp);apply aI (stO_9 W rfl rfl rfl);have x:=R.set (.arr 0 9 [aS ab V.ak[j]]);generalize(n++[Obj.arr 0 9 [[AV.str [],I 0,.aq,I 0,.str [],.str [],I 0,.aq,I 0]]]).set (Z n) (.arr 0 9 [aS ab V.ak[j]])=K at*;generalize Z n=s at*
 clear R W;generalize eq:V.ak[j]=r at*;have N:=x.get (U:=s) (hL:=.arr 0 9 [aS ab r]) (by simp);have a4:=x.get (U:=0) (hL:=.arr 0 1 [[.aH T (cW ab F bC c6 V d) 0]]) (by simp);have a0:(aS ab r)[0+1]?=aa (I r.ai):=rfl;have c2:aQ 9 ad (.ptr s 0 0 0) K=aa (.agg (aS ab r)):=mi N rfl rfl;simp only[eD N,cY N (E _),a0,O,A];refine eb (M:=K) (!il e r) (λYD bD=>ei (λce=>?_) (λce=>kB bD ?_)) ?_
 refine c (TN e r.ai bm) ?_;simp only[bK,O];grind[il];grind[il];simp only[G];refine b (λo=>?_) (λo=>?_);have o:il e r=false:=by simpa using o
 refine af _ _ ⟨⟨_,rfl⟩,L,?_,x.tail⟩;grind[ky];have o:il e r=true:=by simpa using o
 have P:0<=r.ai:=by
  rw[il,bc]at o;simpa using o.1
 let⟨f,bi,cl,_⟩:=(g.v.iS r q).head P;simp only[cY a4 (E _),c2,de,O,zm];have be:=g.YA h ca q;have cc:=VU g.v h q;rw[lC,kc]at cc
 have a9:=Yy (K:=List S) (iB:=false) (rB:=sy 1 F V) (E:=.aH T (cW ab F bC c6 V d) 0) (ev:=.fn 98 [] [.ptr 2 0 0 0,.ptr 0 0 0 0,.ptr s 0 0 0]) (k:=[]) (bn:=Cb 0 2 s 1 (.aH T (cW ab F bC c6 V d) 0) ab r) (U:=98) (t:=λax au=>[.agg (cM ax au),.ptr 2 0 0 0,.ptr 0 0 0 0,.ptr s 0 0 0]) be (g.Hs r q) (.inl ⟨T,rfl,rfl⟩) rfl rfl (λ_ _=>rfl) (λ_ _=>rfl)
  (λf k=>da V f (kO V r k)) out ?_ (hG:=L) (js:=[]) (M:=K) t ?_
 refine c7 a9 rfl ?_;rintro ex aR ⟨l,w,ba⟩;rw[an3]at w;refine af _ _ ⟨⟨_,rfl⟩,l,?_,?_⟩;grind[ky];have:Holds aR (l++((s,.arr 0 9 [aS ab r])::[(2,.arr 0 1 [[.ptr 1 0 0 0]]),(0,.arr 0 1 [[.aH T (cW ab F bC c6 V d) 0]])])):=ba;exact this.back.tail;intro ax au pre k fd z;have cs:k∈ik V d r:=by rw[z];simp
 have co:∀J∈pre,J∈ik V d r:=by grind
 have aj:bH V aP (pre.foldl (λf k=>da V f (kO V r k)) out)/\Z (pre.foldl (λf k=>da V f (kO V r k)) out)<=Z out+Z pre:=by
  have a2:pre.foldl (λf k=>da V f (kO V r k)) out=dq V out (pre.map (kO V r)):=by rw[dq,aaZ]
  rw[a2];have U:=BL (c:=V) (pre.map (kO V r)) out;rw[kc]at U;refine⟨wV g.v.aN _ ah.1 ?_,U⟩;intro d7 br;obtain⟨J,c1,rfl⟩:=cy.1 br;exact uo g.v h q P _ (cy.2 ⟨J,co J c1,rfl⟩)
 have eo:Z pre<=Z (ik V d r):=by rw[z];simp
 exact an2 aZ g.Hr g.LS bi cl (by omega) (bH.BO g aj.1.ok) aj.1.dF (g.head h q P cs);exact x.front;obtain⟨⟨az,rfl⟩,l,w,X⟩:=ci;rw[a6,O];grind;have:j=Z V.ak:=by simp at m;omega
 subst this;rw[dU]at t;have y:V.ak.foldl (ky V e d) []=fC V e d:=rfl;rw[y]at t;obtain⟨p,d2,ac,rfl⟩:=t;have a5:=u.get (U:=2) (hL:=.arr 0 1 [[.ptr 1 0 0 0]]) (by simp);have M:=u.get (U:=1) (hL:=.arr 0 5 [[eS ab (bo ab) V.aw,eS ab (cg ab) V.aO,eS ab (bO ab) V.Q,eS F (aS ab) V.ak,p]]) (by simp);have ds:[eS ab (bo ab) V.aw,eS ab (cg ab) V.aO,eS ab (bO ab) V.Q,eS F (aS ab) V.ak,p][0+4]?=aa p:=rfl
 have a3:aQ 1 ab (.ptr 2 0 0 0) n=aa (.ptr 1 0 0 0):=cY a5 (E _);apply aI a3;simp only[O,hT M,eD M,cY M (E _),ds];rw[ac.pl];exact ac.res (bn:=[(2,.arr 0 1 [[.ptr 1 0 0 0]]),(0,.arr 0 1 [[.aH T (cW ab F bC c6 V d) 0]])]) u.tail
theorem YE(h:hP V X=ad):∀b∈X,∃a:Nat,∃e:a<Z V.Q,b.ai=a:=by
 intro b c;obtain⟨d,f,rfl⟩:=kf.1 c;rw[hP,eL]at h;have:=h d (by grind);grind[mT,qU]
noncomputable def xk(a:D)(b:List S):Bool:=lg a&&hP a b&&b.all (p8 a)
theorem Nh(b:List Obj)(a:Int):aM b .res (.aB [AV.aq.pl,(I a).pl]) (HD a):=.aB _ _ _ (.ck (.aq _ _) (.ck (.int _ _ _) (.nil _)))
theorem kX(br:e8 C)(bv:xj C)(ci:yx C)(d:D)(k:List S)(g0:eI d)(cs:Sm k)(X:∀j∈k,dX j.af)(u:AV)
 (hw:xk d k=ab->u=HD 1)
 (gt:xk d k=ad->Z d.ak<=12/\(∀r∈d.ak,lR r)/\mn d/\(qQ d≠[]->u=HD 80)/\(qQ d=[]->qT d≠[]->u=HD 90)/\
  (qQ d=[]->qT d=[]->∃N z,qW d N/\bH d N k/\Z k<=2000/\j7 d (ts d) k z/\u=D8 z)):
 PR C 25 [.agg (cP ab T d),eS F (cF bC) k] u:=by
 apply af1.pr;have g6:∀(q:List AV),[q][0]?=aa q:=λ_=>rfl;have ai:∀{o:List Obj}{id:Nat},o[id]?=aa (.arr 0 4 [cP ab T d])->aQ 4 ad (.ptr id 0 0 0) o=aa (.agg (cP ab T d)):=λh=>mi h rfl rfl;have bD:([Obj.arr 0 4 [cP ab T d]]:List Obj)[0]?=aa (.arr 0 4 [cP ab T d]):=rfl;refine aY (Al rfl rfl) ?_;simp only[dK,eU,ai bD,O,zm]
 have g8:∀ah:List S,NB (eS ab (cF ab) ah):=λah=>BU (λj=>.cons _ _ (.int _ _) (.cons _ _ (H6 _) (.cons _ _ (.int _ _) .nil))) ah;refine eb (M:=[Obj.arr 0 4 [cP ab T d]]) (!xk d k) (λi0 co=>?_) ?_;refine c (br.MO d k g0 cs X) ?_;simp only[bK,O];refine ei (λh=>?_) (λh=>kB co ?_);have h:(lg d&&hP d k)=true:=by rw[OD]at h;exact h
 rw[bc]at h;have f5:=YE h.2;have eq:=agK (T:=F) (F:=bC) (E:=.fn 68 [] [.aH ad (cP ab T d) 0]) (c:=λj=> !p8 d j) (Im.still (by simp)) k cs (λj X=>by
  let⟨au,V,e⟩:=f5 j X;refine⟨68,_,rfl,amF d j e V,by simp[bS.snap]⟩)
 refine e4 _ eq ?_ (.bool _) ?_;refine .ck eu (.ck (.fn _ _ _ _ _ _ (.nil _) (.ck ?_ (.nil _))) (.nil _));exact .oU 0 0 0 0 4 [cP ab T d] (cP ab T d) (cP ab T d) rfl rfl (bS.snap (by simp));refine kB co ?_;simp_all[xk,cZ,K8];grind[xk];simp only[G];refine b (λh=>?_) (λh=>?_);grind[Nh];let⟨c1,d1,cl,g3,g4,g5⟩:=gt (by grind);simp only[ai bD,O];apply c (La d (by omega) d1);simp only[a1,eX,O]
 refine b (λaA=>?_) (λaA=>?_);rw[g3 (by grind)];exact Nh _ 80;have d2:qQ d=[]:=by
  rcases ac:qQ d with _|⟨ba,ah⟩;rfl;rw[ac]at aA;simp at aA
 apply c (Xo ci d cl c1);simp only[a1,eX,O];refine b (λaE=>?_) (λaE=>?_);rw[g4 d2 (by grind)];exact Nh _ 90;have g1:qT d=[]:=by
  rcases ac:qT d with _|⟨ba,ah⟩;rfl;rw[ac]at aE;simp at aE
 obtain⟨N,z,t,f3,h1,ds,rfl⟩:=g5 d2 g1;have ip:=t.v.Q;have fd:Holds [Obj.arr 0 4 [cP ab T d]] [(0,.arr 0 4 [cP ab T d])]:=⟨by simp,by grind⟩;refine c7 (br.amG k (by omega) (λj X=>by let⟨au,V,_,e⟩:=(f3.ok j X).fG;have:=t.aZ _ (bp V);omega) fd) rfl ?_;rintro w bi ⟨l,n,aR⟩;have ca:=aR.get (U:=0) (hL:=.arr 0 4 [cP ab T d]) (by simp);simp only[ai ca,O,mf,true_and]
 refine aI (dR:=[eS ab (bo ab) d.aw,eS ab (cg ab) d.aO,eS ab (bO ab) d.Q,eS T (aS ab) d.ak,w]) ?_ ?_;have hk:w.pl.cells=[w]:=by
  rw[n.pl];rcases n with⟨-,h,-⟩|⟨id,ho,h,-⟩<;>rw[h]<;>rfl
 have hl:w.pl.bU=true:=by rw[n.pl];exact n.cell
 have hm:(AV.agg (cP ab T d)).pl.cells=[eS ab (bo ab) d.aw,eS ab (cg ab) d.aO,eS ab (bO ab) d.Q,eS T (aS ab) d.ak]:=rfl;have hn:w.bU=true:=n.cell;simp_all[ma,eV];apply aY (Al rfl (by simp[n.cell]));have am:=aR.alloc (.arr 0 5 [[eS ab (bo ab) d.aw,eS ab (cg ab) d.aO,eS ab (bO ab) d.Q,eS T (aS ab) d.ak,w]])
 generalize bi++[Obj.arr 0 5 [[eS ab (bo ab) d.aw,eS ab (cg ab) d.aO,eS ab (bO ab) d.Q,eS T (aS ab) d.ak,w]]]=bm at*;generalize Z bi=K at*;have fx:sy K T d k ((K,.arr 0 5 [[eS ab (bo ab) d.aw,eS ab (cg ab) d.aO,eS ab (bO ab) d.Q,eS T (aS ab) d.ak,w]])::l):=⟨w,l,n,rfl⟩
 have am:Holds bm (((K,.arr 0 5 [[eS ab (bo ab) d.aw,eS ab (cg ab) d.aO,eS ab (bO ab) d.Q,eS T (aS ab) d.ak,w]])::l)++[(0,.arr 0 4 [cP ab T d])]):=am;generalize((K,Obj.arr 0 5 [[eS ab (bo ab) d.aw,eS ab (cg ab) d.aO,eS ab (bO ab) d.Q,eS T (aS ab) d.ak,w]])::l)=el at*;have cc:=am.get (U:=0) (hL:=.arr 0 4 [cP ab T d]) (by simp);simp only[ai cc,O];refine c (Xy ci d cl c1) ?_;simp only[a1,O]
 have f1:∀g∈fa (Z d.Q) (c4 d),Z g<=Z d.Q:=λg n=>Mf _ g n;have hO:Z (fa (Z d.Q) (c4 d))<=Z d.Q:=Mg _;have d0:=ds;unfold ts at d0;generalize fa (Z d.Q) (c4 d)=q at*
 refine bG (K:=Nat×List S×aL×List Obj) (λf=>[.aq,I 0,I f.1]) (λf=>f.2.2.2) (λf=>Z q -f.1) (λf=>f.1<=Z q/\sy K T d f.2.1 f.2.2.1/\Holds f.2.2.2 (f.2.2.1++[(0,.arr 0 4 [cP ab T d])])/\bH d N f.2.1/\iL f.2.1=ab/\j7 d ((q.drop f.1).map (·.map cu)) f.2.1 z) (0,k,el,bm) (by grind[VW]) ?_;clear fx am cc aR ca d0 ds n;rintro⟨R,gs,l,o⟩ ⟨f4,s,p,E,Y,P⟩ he d3;simp only at f4 s p E Y P d3⊢
 simp only[G,i,A,O,a];refine b (λL=>?_) (λL=>?_)
 ·have L:R<Z q:=by simpa using L
  rw[oC L,eg]at P;have h3:=f1 _ (bp L);have x:∃J r,p5 d (q[R].map cu) J gs r/\((r=ae/\z=ae)\/∃U,r=aa U/\j7 d ((q.drop (R+1)).map (·.map cu)) U z):=by
   cases P with
   |none _ _ J _ h=>grind
   |cons _ _ J _ U _ h d6=>grind
  obtain⟨J,r,x,c2⟩:=x;clear P;simp only[aF L (D2 _),O,aK,zU,D7];generalize f0:q[R].map cu=m at*;have hH:Z m<=24:=by rw[<-f0];simp;omega
  refine bG (K:=Nat×Bool×List S×aL×List Obj) (λf=>[.aq,I 0,.bool f.2.1]) (λf=>f.2.2.2.2) (λf=>f.1+(if f.2.1=ad then 1 else 0)) (λf=>sy K T d f.2.2.1 f.2.2.2.1/\Holds f.2.2.2.2 (f.2.2.2.1++[(0,.arr 0 4 [cP ab T d])])/\bH d N f.2.2.1/\iL f.2.2.1=ab/\(f.2.1=ad->p5 d m f.1 f.2.2.1 r)/\(f.2.1=ab->r=aa f.2.2.1)) (J,ad,gs,l,o) (by grind) ?_;clear s p E Y x;clear l o gs J
  rintro⟨J,hs,gs,l,o⟩ ⟨s,p,E,Y,x,ce⟩ hg a9;simp only at s p E Y x ce a9⊢;simp only[G,i];refine b (λa5=>?_) (λa5=>?_)
  ·have x:=x a5
   have it:=E.small t.v Y;have g2:=om t.v E m;have ii:=zT t.v E m;apply e4 _ (YB bv (T:=true) (F:=T) (bC:=true) (c6:=false) (iB:=false) gs m t E (by omega) (by grind[Sm])) (.ck (s.ow p) (bS.snap (by simp))) (g8 _);simp only[a1,O];have ge:(fC d m gs).foldl (da d) gs=im d m gs:=rfl;generalize iC:fC d m gs=B at*
   refine bG (K:=Nat×List S×aL×List Obj) (λf=>[.bool (y (f.2.1≠gs)),I f.1]) (λf=>f.2.2.2) (λf=>Z B -f.1) (λf=>f.1<=Z B/\f.2.1=(B.take f.1).foldl (da d) gs/\bH d N f.2.1/\Z f.2.1<=Z gs+f.1/\(f.2.1=gs\/lV d gs<lV d f.2.1)/\sy K T d f.2.1 f.2.2.1/\Holds f.2.2.2 (f.2.2.1++[(0,.arr 0 4 [cP ab T d])])) (0,gs,l,o) (by grind) ?_ (by simp) rfl;clear s p;rintro⟨H,ax,l,o⟩ ⟨f6,a0,W,f2,f7,s,p⟩ d8 d4
   simp only at f6 a0 W f2 f7 s p d4⊢;simp only[G,i,A,O,a];refine b (λM=>?_) (λM=>?_);have M:H<Z B:=by simpa using M
   have a4:=g2.1.ok _ (bp M);let⟨au,V,gQ,hu⟩:=a4.fG;have f8:=zO t.v.aN (λba ac=>(W.ok ba ac).aj) a4.aj;have f9:=VT t.v.aN W a4;have h4:=Vw (V:=d) (X:=ax) (b3:=B[H]);rw[bw];have eo:∀j:S,dS 3 (.agg (cF ab j))=aa (cF ab j):=λ_=>rfl;have gc:∀j:S,(AV.agg [g (cF ab j) 0,g (cF ab j) 1,g (cF ab j) 2])=.agg (cF ab j):=λ_=>rfl;rw[aF M (fR _ _)];simp only[O,kr,eo,gc]
   apply c7 (Yz bv (b3:=B[H]) t.Hr t.LS V gQ (by omega) (bH.BO t W.ok) W.dF s p) rfl;rintro i1 be ⟨rfl,d9,es,ex⟩;have io:d8 [.bool (y (da d ax B[H]≠gs)),I ((H+1:Nat):Int)] be:=by
    refine d4 (H+1,da d ax B[H],d9,be) ⟨M,by grind[mS],f9,by simp only;omega,?_,es,ex⟩ (by omega);rcases f8.1 with e|e;grind;grind
   grind[ei,da,G,a6,O,decide]
   ·have:H=Z B:=by simp at M;omega
    subst this;rw[dU,ge]at a0;subst a0;apply e4 _ (amJ (T:=true) (F:=false) (bC:=T) (c6:=true) (iB:=false) d (im d m gs) (by grind[Sm])) (.ck (s.ow p) (.nil _)) (.bool _);refine b (λgo=>?_) (λgo=>?_)
    ·have dl:r=none:=by
      cases x with
      |over _ _ h=>rfl
      |stop _ _ h _=>grind
      |next _ _ _ h _ _=>grind
     rcases c2 with⟨-,rfl⟩|⟨U,e,-⟩;exact .aB _ _ _ (.ck (.aq _ _) (.ck (.int _ _ _) (.nil _)));grind
    ·cases x with
     |over _ _ h=>grind
     |stop _ _ h a3=>
      have a2:y (im d m gs≠gs)=false:=by simpa using a3
      rw[a2];apply a9 (J,ab,im d m gs,l,o) (by grind);grind
     |next g7 _ _ h a3 d1=>
      have a2:y (im d m gs≠gs)=true:=by simpa using a3
      rw[a2];apply a9 (g7,ad,im d m gs,l,o) (by grind);grind
  have dl:=ce a5;rcases c2 with⟨e,-⟩|⟨U,e,ht⟩;grind;rw[dl]at e;simp only[e1]at e;subst e;rw[a6,O];exact d3 (R+1,gs,l,o) (by grind) (by omega)
 have:R=Z q:=by simp at L;omega
 subst this;rw[qk]at P;cases P with
 |nil=>
  obtain⟨u,hh,n,rfl⟩:=s;have az:=p.get (U:=K) (hL:=.arr 0 5 [[eS ab (bo ab) d.aw,eS ab (cg ab) d.aO,eS ab (bO ab) d.Q,eS T (aS ab) d.ak,u]]) (by simp);have g9:[eS ab (bo ab) d.aw,eS ab (cg ab) d.aO,eS ab (bO ab) d.Q,eS T (aS ab) d.ak,u][0+4]?=aa u:=rfl;simp only[hT az,eD az,cY az (g6 _),g9,O];rw[n.pl]
  exact .aB _ _ _ (.ck (n.res (bn:=[(0,.arr 0 4 [cP ab T d])]) p.tail) (.ck (.int _ _ _) (.nil _)))
variable{K:Type}{x:List K}
theorem Aq{b:K->K}(h:x=x.map b):∀a∈x,b a=a:=by
 intro a c;obtain⟨e,d,rfl⟩:=kf.1 c;grind
theorem Ni{r:aD}:∀{b:List Lit}{c g:Bool},mW V r b c=aa g->(∀a∈b,a.bind≠[]->a.bind=r.aj.aE/\hR V a.ai=hR V r.ai/\c=ab)/\
 (∀(d e:Nat)(a f:Lit),b[d]?=aa a->b[e]?=aa f->a.bind≠[]->f.bind≠[]->d=e)/\(g=ad->c=ad\/∃a∈b,a.bind≠[])
 |[],c,g,h=>by
  grind[mW]
 |x::b,c,g,h=>by
  rw[mW]at h;split at h;rename_i k;let⟨i,j,l⟩:=Ni h;grind;rename_i k;split at h;cases h
  rename_i m;let⟨i,j,_⟩:=Ni h;grind
theorem uE(a:D)(b:Int):dB a b=if hR a b<0 then ae else a.aw[(hR a b).toNat]?:=by
 grind[dB,hR]
theorem yF(a:U<Z V.Q):hR V (U:Int)=V.Q[U].of:=by
 grind[hR]
variable{oL:cO}{bL:d}{dL:bP}
theorem YF(b:V.aw[oL.of.toNat]?=aa dL)(a:0<=fw V oL bL):eA dL (fw V oL bL)=true:=by
 simp_all[fw,Ad,bV,eA,decide_true,arY]
theorem an4{a:Fn}(h:fD dL a=ad):Z (fJ dL a)=Z dL.az/\(fJ dL a).all (eA dL)=true:=by
 simp only[fD,bc,eL,iw,decide_eq_true_eq]at h;let⟨⟨⟨d,i⟩,e⟩,j⟩:=h;refine⟨by simp[fJ],?_⟩;rw[eL];intro g c;simp only[fJ,cy]at c;obtain⟨b,f,rfl⟩:=c;have k:=e b f;have l:bV a.src b<Z a.src:=(Ad _ _).2;have m:=(d (bV a.src b).toNat (by omega)).2;simp_all[bV,Ad,eA,decide_true,arY]
variable{f b9:Int}
theorem an5(h:n0 f b9 bL=ad):Z bL<=16:=by
 rcases bL with _|⟨a,b⟩;simp;grind[n0]
variable{jt:aG}
theorem an6(h:nE jt=ad):Sm jt.s:=by
 unfold nE at h;split at h;grind[Sm];simp only[bc,bY]at h;grind[an5,Sm]
variable{bQ:aJ}
theorem YG(h:iJ bQ=ad):Sm bQ.const.s:=by
 grind[iJ,an6,Sm]
theorem Ih(h:iW V):kN V:=by
 intro a c;have b:=h.2.2.2;have:=HC V (V.ak.map (fh (ee V []))) a (by grind);exact this
theorem YH(h:iW V):lU V:=by
 intro d a;obtain⟨c,b,rfl⟩:=kf.1 a;have:=h.2.1;simp_all[p7,p6]
theorem an7(h:iW V):∀b∈V.aO,∃d,V.aw[b.of.toNat]?=aa d/\0<=b.of/\Z b.gQ=Z d.az/\b.gQ.all (eA d)=true:=by
 intro b f;have i:=congrArg D.aO h.2.2.2;have e:=Aq i b f;obtain⟨c,g,rfl⟩:=kf.1 f;have a:=h.2.1;simp only[p7,bc,eL,iw]at a;have a:=a.1.2 c g;rw[ph,bu g]at a;simp only[bc]at a;let⟨a,_⟩:=a;split at a;rename_i d j;simp only[bc,decide_eq_true_eq]at a;have k:V.aO[c].of=ed V V.aO[c].aN:=(congrArg Fn.of e).symm;have l:V.aO[c].gQ=fJ d V.aO[c]:=by
  apply(congrArg Fn.gQ e).symm.trans;simp only[eK,j,if_pos a]
 grind[an4];cases a
theorem an8(h:iW V){r:aD}(x:r∈V.ak):zR V r:=by
 have O:=Ih h;have T:V.aO=V.aO.map (eK V):=congrArg D.aO h.2.2.2;have U:V.Q=V.Q.map (ew V):=congrArg D.Q h.2.2.2;have J:=congrArg D.ak h.2.2.2;have L:ee V []=⟨V.aw,V.aO,V.Q,[]⟩:=by
  show(⟨V.aw,V.aO.map (eK V),V.Q.map (ew V),[]⟩:D)=_;grind
 have p:=Aq J r x;let⟨z,u,_,_,m⟩:=h.2.2.1 r x;rw[p]at m;rw[L]at p z u m;have q:=(BT h.1).iS r x;have y:=Aq (congrArg aD.ah p).symm;have W:r.ai=j8 ⟨V.aw,V.aO,V.Q,[]⟩ r:=(congrArg aD.ai p).symm;have K:r.aj.aR=oo ⟨V.aw,V.aO,V.Q,[]⟩ r:=(congrArg (λe:aD=>e.aj.aR) p).symm;have N:0<=r.ai->r.au≠[]:=by grind[j8]
 rw[eL]at u;unfold tm at m;split at m;cases m
 rename_i az M;let⟨E,F,G⟩:=Ni M;have lit:∀b∈r.ah,b.ax≠5->∃a:Nat,∃c:a<Z V.Q,b.ai=a/\Z b.af=Z V.Q[a].aZ/\(b.bind≠[]\/b.ax=3\/b.ax=4->0<=V.Q[a].of)/\
  (b.ax=3\/b.ax=4->0<=fw V V.Q[a] b.aj/\b.iC=fw V V.Q[a] b.aj):=by
  intro b f d;let⟨a,c,g,j,i,n⟩:=HB (u b f) d;have o:b.ai=a:=by
   have:=(congrArg Lit.ai (y b f)).symm;rw[this,iq];grind[nN]
  refine⟨a,c,o,j,i,λA=>⟨(n A).1,?_⟩⟩;have:=(congrArg Lit.iC (y b f)).symm;rw[this,iq];rw[zZ,if_pos A,g,eN,bu c];rfl
 have head:0<=r.ai->∃a:Nat,∃c:a<Z V.Q,r.ai=a/\Z r.af=Z V.Q[a].aZ/\(r.aj.ax=0<->V.Q[a].of<0)/\
  (r.aj.ax=1->0<=fw V V.Q[a] r.aj.au/\r.aj.aR=fw V V.Q[a] r.aj.au)/\(r.aj.ax=3->∃e:Nat,∃l:e<Z V.aO,r.aj.aR=e/\V.aO[e].of=V.Q[a].of):=by
  intro k;have t:=N k;let⟨a,c,g,_,j,i,n,o⟩:=D6 z t;refine⟨a,c,by grind[j8],j,i,λd=>⟨n d,?_⟩,λd=>?_⟩;rw[K,oo,if_neg t,if_pos d,g,eN,bu c];rfl;let⟨e,l,H,I⟩:=o d;grind[oo]
 have s:∀{a:Nat}(c:a<Z V.Q),0<=V.Q[a].of->∃e,V.aw[V.Q[a].of.toNat]?=aa e/\dB V (a:Int)=aa e:=by
  intro a c k;have:=O _ (bp c);have l:V.Q[a].of.toNat<Z V.aw:=by omega
  refine⟨V.aw[V.Q[a].of.toNat],bu l,?_⟩;rw[uE,yF c,if_neg (by omega),bu l]
 refine⟨λb f=>⟨(q.lit b f).ax,λd=>⟨(q.lit b f).cmp d,?_⟩,λd=>?_,λd=>?_,λv=>?_⟩,F,λk=>?_,λk=>?_,λk d=>?_,λd=>?_,λk d=>?_,q.ax⟩;grind[iq,nN];let⟨a,c,g,j,_⟩:=lit b f d;grind;let⟨a,c,g,j,i,n⟩:=lit b f (by omega);let⟨e,l,w⟩:=s c (i (.inr d));grind[YF];have d:=(q.lit b f).bind v;let⟨a,c,g,j,i,n⟩:=lit b f (by omega);let⟨e,l,w⟩:=s c (i (.inl v));let⟨R,S,_⟩:=E b f v;grind[hR,uE];let⟨a,c,g,j,_⟩:=head k
 grind;let⟨a,c,g,j,i,_⟩:=head k;rw[i,g];constructor;intro B;rw[uE,yF c,if_pos B];intro t;refine xu λB=>?_;let⟨e,_,w⟩:=s c (by omega);grind;let⟨a,c,g,j,i,n,_⟩:=head k;have:¬V.Q[a].of<0:=by omega
 let⟨e,l,w⟩:=s c (by omega);grind[YF];have C:=q.aE.1 d;refine⟨C,?_⟩;have P:(r.aj.aE==[])=false:=by simpa using C
 rw[P,l3]at m;rcases G m with h|⟨b,f,t⟩;cases h
 grind;let⟨a,c,g,j,i,_,o⟩:=head k;let⟨e,l,H,I⟩:=o d;let⟨b,X,Y,ac,am⟩:=an7 h _ (bp l);grind
variable{bZ:Type}{dR:K}
theorem Ex{e:List K->bZ->List K}(h:∀a b dR,dR∈a->dR∈e a b):∀(d:List bZ){a:List K},dR∈a->dR∈d.foldl e a
 |[],_,c=>c
 |b::d,a,c=>Ex h d (h a b dR c)
variable{oK:bZ}
theorem Ey{b:List K->bZ->List K}(h:∀a oK dR,dR∈a->dR∈b a oK)(f:∀a,dR∈b a oK):∀{e:List bZ}{a:List K},oK∈e->dR∈e.foldl b a
 |c::e,a,d=>by
  rw[ni];rcases b5.1 d with rfl|d;grind[Ex];exact Ey h f d
theorem Ez{f:List K->bZ->List K}{Q:K->Prop}:∀{d:List bZ}{a:List K},(∀b∈d,∀a,(∀c∈a,Q c)->∀c∈f a b,Q c)->(∀c∈a,Q c)->∀c∈d.foldl f a,Q c
 |[],_,_,e=>e
 |b::d,a,h,e=>Ez (d:=d) (by grind) (h b (by simp) a e)
theorem Nj(a:List aG)(c b:aG)(h:b∈a):b∈nH a c:=by grind[nH]
theorem YI(b:List aG)(a:aG):a∈nH b a:=by grind[nH]
theorem YJ(a:List aG)(c:aJ)(b:aG)(h:b∈a):b∈pY a c:=by grind[pY,Nj]
theorem an9(a:List aG)(c:S)(b:aG)(h:b∈a):b∈wL a c:=Ex Nj _ h
theorem YK(a:List aG)(r:aD)(b:aG)(h:b∈a):b∈yh a r:=Ex YJ _ h
theorem aoa(b:b3∈X)(c:jt∈b3.af):jt∈gK V X:=
 Ex YK _ (Ey an9 (λ_=>Ey Nj (λa=>YI a jt) c) b)
theorem aob{r:aD}(a:r∈V.ak)(b:bQ∈jQ r)(c:bQ.aE=[]):bQ.const∈gK V X:=
 Ey YK (λ_=>Ey YJ (by simp_all[pY,YI]) b) a
theorem YL{Q:aG->Prop}(b:∀a∈aP,Q a)(c:Q jt):∀a∈nH aP jt,Q a:=by
 grind[nH]
theorem YM{Q:aG->Prop}(g:∀e∈X,∀b∈e.af,Q b)(h:∀r∈V.ak,∀c∈jQ r,c.aE=[]->Q c.const):∀b∈gK V X,Q b:=by
 refine Ez (λr j d a=>Ez (λc k d a=>?_) a) (Ez (λe i d a=>Ez (λb f d a=>YL a (g e i b f)) a) (by simp));unfold pY;split;rename_i f;exact YL a (h r j c k f);exact a
theorem YN:∀{c:List aD}{a:List (Int×Int)},c.foldl ta a=[]->a=[]/\∀r∈c,uf r=ad
 |[],a,h=>⟨h,by simp⟩
 |r::c,a,h=>by
  rw[ni]at h;let⟨b,d⟩:=YN h;unfold ta at b;split at b;grind;simp at b
variable{P:Lit}
theorem YO{r:aD}(a:P∈r.ah)(b:bQ∈P.af):bQ∈jQ r:=by
 grind[jQ]
theorem aoc{r:aD}(a:bQ∈r.af):bQ∈jQ r:=by
 grind[jQ]
theorem Ar(h:qP V X):(∀r∈V.ak,lR r)/\Z V.ak<=20/\Z V.ak<=12:=by
 refine⟨λr a=>⟨?_,?_,?_,λc b=>?_⟩,by have:=h.ak;omega,by have:=h.ak;omega⟩;have:=h.ah r a;omega;have d:=h.ah r a;have e:=DK Lit.af 10 r.ah (h.vi r a);omega;have:=h.GO r a;omega;have:=h.vi r a c b;omega
theorem EA(h:qP V X)(b:iW V):mn V:=by
 refine⟨by have:=h.ak;omega,λr a=>by have:=h.ah r a;omega,by have:=(BT b.1).Q;omega⟩
theorem As(h:kK V X 3000=ad):qP V X:=by
 simp_all[kK,bc,Ux]
theorem Cc(b:kK V X 3000=ad)(c:iW V)(n:eI V)(k:∀h∈X,dX h.af)(o:qQ V=[]):qW V (gK V X):=by
 have i:=As b;have f:=BT c.1;have j:∀r∈V.ak,∀d∈jQ r,Sm d.const.s:=by
  intro r e d a;simp only[jQ,dm,uJ,cy]at a;rcases a with a|⟨_,⟨g,b,rfl⟩,a⟩;exact YG ((f.iS r e).Ab d a);exact YG (((f.iS r e).lit g b).Ab d a)
 refine⟨⟨YH c,λg b=>?_,by grind[an8],(YN o).2,by grind[aob,aoc,YO],(Ar i).2.1,f.Q,λr e=>?_⟩,n,Ih c,?_,(Ar i).1,λr e g b d a=>j r e d (YO b a),λp m=>?_⟩;exact(zG (BB (YH c g b))).1.2;grind[kK];exact YM (λh l q c=>(k h l).2 q c) (by grind);have:=(f.aZ p m).1;omega
theorem Au(r:iW V)(h:hP V X=ad):bH V (gK V X) X:=by
 rw[hP,eL]at h;have d:∀a,a<Z X->mT V X a=true:=by grind
 refine⟨aju λa c=>?_,λm e=>?_⟩;grind[mT];obtain⟨a,c,rfl⟩:=kf.1 e;have:=d a c;rw[mT,bu c]at this;simp only[bc,qU,decide_eq_true_eq]at this;let⟨⟨n,b⟩,_⟩:=this;split at b;cases b
 rename_i t f;let⟨g,i⟩:=fM.1 f;subst i;simp only[vq,bc,beq_iff_eq]at b;let⟨⟨j,_⟩,k⟩:=b;have l:X[a].ai=(X[a].ai.toNat:Nat):=by omega
 have q:hR V X[a].ai=V.Q[X[a].ai.toNat].of:=by
  unfold hR;rw[bu g]
 refine⟨(by grind),by grind[aoa],λs o=>?_,λp=>?_⟩;grind[uE,vo,eA];grind[uE,vo]
def fK(a:d):aG:=⟨2,0,a⟩
def tV(a:d):aJ:=⟨a,⟨0,0,[]⟩⟩
def Nk(c:d)(e:Int)(a b:d):Lit:=⟨1,c,e,[tV a,tV b],[],[],-1,0,0⟩
def hz(c:Int)(a b:d):S:=⟨c,[fK a,fK b],-1⟩
def Nl:d:=[101,100,103,101]
def Ii:d:=[112,97,116,104]
def Cd:aD:=⟨Ii,1,[tV [88],tV [89]],⟨0,[],[],-1⟩,[Nk Nl 0 [88] [89]],0⟩
def hV:aD:=⟨Ii,1,[tV [88],tV [90]],⟨0,[],[],-1⟩,[Nk Ii 1 [88] [89],Nk Nl 0 [89] [90]],0⟩
def jq(rs:List aD):D:=⟨[],[],[⟨Nl,[2,2],[],-1,ad,2,0⟩,⟨Ii,[2,2],[],-1,ab,2,0⟩],rs⟩
def pC:D:=jq [Cd,hV]
def nP:List S:=[hz 0 [97] [98],hz 0 [98] [97]]
theorem YP(f:e8 C)(g:xj C)(j:yx C)(a:List S)(b:List Int)(d:qW V aP)(e:bH V aP a)(t:Z a<=100000)(p:(lg V&&hP V a)=ad)(k:mn V)(m:Z V.ak<=12)(o:qQ V=[])(n:qT V=[])(l:Sm b):
 PR C 14 [.agg (cP ab T V),eS bC cI b,eS F (cF c6) a] (eS ab (cF ab) (fC V b a)):=by
 refine afx.pr ?_;rw[eP,O];refine eb (M:=[]) ab (λu s=>?_) ?_;rw[gS,O];refine c (f.MO V a d.Hr (by unfold Sm;omega) (bH.BO d e.ok)) ?_;simp only[p,bK,O,sN];refine ei (λ_=>?_) (λh=>by cases h);refine c (La V (by omega) d.Hs) ?_;simp only[o,a1,eU,O,eX];refine ei (λ_=>?_) (λh=>by simp at h);refine c (Xo j V k m) ?_;simp only[n,a1,eU,O,eX];grind;simp only[G];refine bz ?_;rw[gS,O]
 refine aI (dR:=cW ab T F c6 V a) rfl ?_;refine aI (dR:=.aH ab (cW ab T F c6 V a) 0) rfl ?_;refine c (YB g (T:=false) (F:=T) (bC:=F) (c6:=c6) (iB:=bC) a b d e (by omega) l) ?_ (by simp[cW]);simp[Im.snap]
theorem YQ{r:aD}{c:List (aJ×Int)}(h:wZ V r (Z r.ah)=c)(e:w2 r (Z r.ah)=[])(d:c.all (λa=>a.1.aE !=[]&&a.2==2)=ad):yu V r:=by
 refine⟨λ_=>2,λg b=>?_⟩;rw[h,e]at b;simp only[wX,nj,sO,cy]at b;obtain⟨a,f,rfl⟩:=b;rw[eL]at d;have:=d a f;simp only[bc,bne_iff_ne,ne_eq,beq_iff_eq]at this;show ek (λ_=>2) a.1=a.2;grind[ek]
theorem aod{rs:List aD}:lD (ee (jq rs) []) Cd:=by
 have a:ee (jq rs) []=ee (jq []) []:=rfl;rw[a];exact⟨by decide+kernel,by decide+kernel,by decide+kernel,YQ (c:=[(tV [88],2),(tV [89],2),(tV [88],2),(tV [89],2)]) (by decide+kernel) (by decide+kernel) (by decide+kernel),by decide+kernel⟩
theorem YR{rs:List aD}:lD (ee (jq rs) []) hV:=by
 have a:ee (jq rs) []=ee (jq []) []:=rfl;rw[a];exact⟨by decide+kernel,by decide+kernel,by decide+kernel,YQ (c:=[(tV [88],2),(tV [90],2),(tV [88],2),(tV [89],2),(tV [89],2),(tV [90],2)]) (by decide+kernel) (by decide+kernel) (by decide+kernel),by decide+kernel⟩
theorem Ce:iW pC:=by
 refine⟨by decide+kernel,by decide+kernel,λr a=>?_,by decide+kernel⟩;simp only[pC,jq,b5,jM,or_false]at a;rcases a with rfl|rfl;exact aod;exact YR
theorem nf(h:Z x<=1000):Sm x:=by grind[Sm]
theorem Cf{rs:List aD}(h:rs=[Cd,hV]\/rs=[hV]):eI (jq rs):=by
 have b:∀r∈rs,pT r:=by
  intro r b;have:r=Cd\/r=hV:=by
   rcases h with rfl|rfl<;>simp only[b5,jM,or_false]at b
   exact b;exact .inr b
  rcases this with rfl|rfl;refine⟨nf (by decide),nf (by decide),λd a=>?_⟩;simp only[Cd,b5,jM,or_false]at a;subst a;exact nf (by decide);refine⟨nf (by decide),nf (by decide),λd a=>?_⟩;simp only[hV,b5,jM,or_false]at a;rcases a with rfl|rfl<;>exact nf (by decide)
 refine⟨nf (by simp[jq]),by grind[jq],nf (by simp[jq]),by grind[jq],nf (by simp[jq]),λe c=>?_,nf (by grind[jq]),b⟩;simp only[jq,b5,jM,or_false]at c;rcases c with rfl|rfl<;>exact nf (by decide)
theorem YS:kK pC nP 3000=true:=by decide+kernel
theorem Ij:qQ pC=[]:=by decide+kernel
theorem YV:qT pC=[]:=by decide+kernel
theorem YW:ts pC=[[0],[1]]:=by decide+kernel
theorem Np:mn pC:=EA (As YS) Ce
theorem Nq:lg pC=true:=by simp only[lg,Ce,decide_true]
abbrev l2:=List aG×List Int
structure SR where
 v:AV
 e:AV
 P:aL
 s:l2
def lG(a b:l2):Prop:=¬jP b.1 a.1<0
theorem YY(b a c:l2)(f:lG b a)(g:lG a c):lG b c:=by
 unfold lG at*;rw[TO.aB.uk]at*;by_cases d:jP b.1 a.1=0;rw[(TO.aB.eq _ _).1 d];exact g;by_cases e:jP a.1 c.1=0;rw[<-(TO.aB.eq _ _).1 e];exact f;have:=TO.aB.trans b.1 a.1 c.1 (by omega) (by omega);omega
def EB(a:l2):List AV:=[eS ab cV a.1]
def EC(a:l2):List AV:=[eS ab cI a.2]
instance:Inhabited SR:=⟨⟨.aq,.aq,[],([],[])⟩⟩
open Go Go.Proofs Go.Sort
variable{Y gA:ar}{hL:Obj}
theorem oV.rm(i:Rm Y gA){id:Nat}(g:gA.h id=Y.h id)(f:∀a n,Y.h id=aa (a,n)->gA.w.heap[a]?=Y.w.heap[a]?)(h:oV Y id hL):oV gA id hL:=by
 cases hL with
 |arr r v e=>
  refine⟨h.1,?_⟩;rcases h.2 with⟨b,c⟩|⟨a,o,p,b,c,d,j,k⟩;grind;grind[trans,RL.gR]
 |mp q s vs=>
  let⟨a,e,clock,b,c,d,j,k⟩:=h;exact⟨a,e,clock,g.trans b,(f a _ b).trans c,RL.gR i d,RL.gR i j,k⟩
 |fm t=>
  let⟨a,e,clock,l,b,c,d⟩:=h;exact⟨a,e,clock,l,g.trans b,(f a _ b).trans c,d⟩
 |iD u pos=>
  let⟨a,m,b,c,d⟩:=h;exact⟨a,m,g.trans b,(f a _ b).trans c,d⟩
variable{e2:World}
theorem aoz{W:World}(b:e2.os=W.os)(c:e2.output=W.output)(d:e2.tape=W.tape)(e:W.drawn<=e2.drawn)(f:W.heap.size<=e2.heap.size)(g:∀a,a<W.heap.size->e2.heap[a]?=W.heap[a]?):∃i h,e2=grow (W.drewN i) h:=by
 refine⟨e2.drawn -W.drawn,e2.heap.extract W.heap.size e2.heap.size,?_⟩;let⟨j,n,k,l,m⟩:=W;let⟨o,p,q,r,s⟩:=e2;simp only at b c d e f g;subst b;subst c;subst d;simp only[grow,World.drewN]
 congr 1
 grind;omega
variable{eG:Array Value}{u:TypeId}{mG:Nat × Nat}
section
variable{enc:Nat->List Value}{k b m:Nat}{dk:Array Nat}{os:Array Go.Obj}{w:World}
theorem aoA(h:w.heap[b]?=aa (.cells eG u mG)):(sortWorldK enc k w b 0 m dk os).heap[b]?=aa (.cells (putCells id 0 (flatK enc k dk) eG) u mG):=by
 have a:b<w.heap.size:=(kY.1 h).1;simp only[sortWorldK,grow,putRowK,putRow,mapBlock];rw[Array.getElem?_append_left (by simp_all),Array.getElem?_modify,if_pos rfl,show(Go.Sort.ahead w m).heap=w.heap from rfl,h];rfl
theorem Y4(c:U≠b)(a:U<w.heap.size):(sortWorldK enc k w b 0 m dk os).heap[U]?=w.heap[U]?:=by
 grind[sortWorldK,grow,putRowK,putRow,mapBlock,Go.Sort.ahead]
theorem Y5:w.heap.size<=(sortWorldK enc k w b 0 m dk os).heap.size:=by
 simp[sortWorldK,grow,putRowK,putRow,mapBlock,Go.Sort.ahead]
theorem Y6:c0 w (sortWorldK enc k w b 0 m dk os) (λa=>a=b):=⟨rfl,rfl,⟨rfl,by show w.drawn<=w.drawn+m;omega⟩,Y5,by grind[Y4]⟩
end
abbrev KF:=Int×List aG
def mw(a b:KF):Int:=if a.1<b.1 then -1 else if b.1<a.1 then 1 else jP a.2 b.2
def kF(a:S):KF:=(a.ai,a.af)
theorem Ns(a b:S):cm a b=mw (kF a) (kF b):=rfl
theorem Y7(a:KF):mw a a=0:=by
 have:=(TO.aB.eq a.2 _).2 rfl;simp[mw,this]
theorem Y8{a b c:KF}(d:mw a b<0)(e:mw b c<0):mw a c<0:=by
 unfold mw at*;have:=TO.aB.trans a.2 b.2 c.2;grind
theorem aoB{a b c:KF}(d:¬mw b a<0)(e:¬mw c b<0):¬mw c a<0:=by
 unfold mw at*;have:=YY ⟨a.2,[]⟩ ⟨b.2,[]⟩ ⟨c.2,[]⟩;simp only[lG]at this;grind
def yG(key:Nat->KF)(a b c:Nat):Int:=mw (key (b%a)) (key (c%a))
def kC(key:Nat->KF)(a:Nat):Array Nat:=pdq (ltOf (yG key a)) (Array.range a) 0 a (Lib.bitLen a) ad ad
theorem Nt(key:Nat->KF)(c:Nat):SWO (ltOf (yG key c)):=
 ⟨(by grind[ltOf,yG,Y7]),λd e f a b=>decide_eq_true (Y8 (of_decide_eq_true a) (of_decide_eq_true b)),
  λd e f a b=>decide_eq_false (aoB (of_decide_eq_false b) (of_decide_eq_false a))⟩
theorem Nu(key:Nat->KF)(a:Nat):(kC key a).size=a/\(bI (kC key a)).Perm (ay a):=by
 have h:=(pdq_sorts (ltOf (yG key a)) (Nt key a) (Array.range a) 0 a (Lib.bitLen a) ad ad (vL _) (by simp) (Or.inl rfl)).1;let⟨b,_,c⟩:=h;grind[Array.size_range,kC,Array.extract_eq_self_of_le,Nat.le_of_eq,Array.range,Array.toList_range]
theorem aoC(key:Nat->KF)(a:N<z)(b:z<U):¬mw (key ((kC key U)[z]!%U)) (key ((kC key U)[N]!%U))<0:=by
 have h:=(pdq_sorts (ltOf (yG key U)) (Nt key U) (Array.range U) 0 U (Lib.bitLen U) ad ad (vL _) (by simp) (Or.inl rfl)).2 N z (vL _) a b;grind[ltOf,yG,kC]
section
variable{P:Program}{G:Nat->Option (List AV)}{fs fc:Nat}{E:ar}{id gg n b:Nat}{row:Nat->List AV}{cs:Array Value}{Ff:TypeId}
def lh(cs:Array Value)(n a:Nat):List Value:=((bI cs).drop (a%n*3)).take 3
theorem aoD(b:0<n)(a:Nat):(b8 n row)[a%n]?=aa (row (a%n)):=w9 _ (E8 _ b)
theorem Ik(b:0<n)(a:Nat):a%n*3+3<=n*3:=by
 have:=E8 a b;omega
theorem Il(b:0<n)(c:n*3<=cs.size)(a:Nat):Z (lh cs n a)=3:=by
 have:=Ik b a;grind[lh]
theorem Y9(b:0<n)(a:Nat):lh cs n a=(((bI cs).take (n*3)).drop (a%n*3)).take 3:=by
 grind[lh,k5,Ik]
theorem Nv(d:0<n)(h:∀b∈(bI cs).take (n*3),b.oneCell'=ad)(a:Nat):∀c∈lh cs n a,c.oneCell'=true:=by grind[Y9,List.mem_of_mem_drop,List.mem_of_mem_take]
theorem Za(d:0<n)(e:∀b∈b8 n row,Z b=3)(h:RL E (b8 n row).flatten ((bI cs).take (n*3)))(a:Nat):RL E (row (a%n)) (lh cs n a):=by
 have c:=RL.take 3 (RL.drop (a%n*3) h);simp_all[AP,aoD,Y9]
theorem Zb(b:0<n)(d:n*3<=cs.size){a:Array Nat}(c:U<a.size*3):(flatK (lh cs n) 3 a)[U]! =cs[a[U/3]!%n*3+U%3]!:=by
 grind[get_flatK,Ik,Nat.mod_lt,Il,lh]
end
section
variable{P:Program}{G:Nat->Option (List AV)}{fs fc:Nat}{E:ar}{id gg n b:Nat}{row:Nat->List AV}{cs:Array Value}{Ff:TypeId}{key:Nat->KF}{a:Nat->AV}
theorem aoE(gd:Good E)(am:du G E)(L:E.H[id]?=aa (.arr gg 3 (b8 n row)))(o:0<n)(O:E.h id=aa (b,cs.size))(d0:E.w.heap[b]?=aa (.cells cs Ff (0,0)))
 (ds:RL E (b8 n row).flatten ((bI cs).take (n*3)))(a9:∀be∈(bI cs).take (n*3),be.oneCell'=ad)
 (a2:∀d,d<n->∀C:List Obj,(∀g,g≠id->C[g]?=E.H[g]?)->aM C .cb (.agg (row d)) (a d))(aR:∀d x,d<n->x<n->∃B,jy P G fc [a d,a x] [] (I (mw (key d) (key x))) B):
 CmpLays P fc #[] (lh cs n) 3 (yG key n) b 0 n E.w:=λy z r _ p q=>by
 have dl:=(gd.gI id _ L).1;let⟨_,aE,_⟩:=gd.dC id b _ O;let⟨D,j⟩:=ar.sV gd (e2:=E.w) (j:=.arr (gg+1) 3 []) (e:=ae) (c0.refl _ _) L (by simp[hM]) (by simp) (λ_=>⟨by simp,.inl ⟨rfl,by simp[ar.bW]⟩⟩);have J:=am.mono D gd;generalize m:E.bW E.w id (.arr (gg+1) 3 []) ae=e at D j J;have s:e.w=E.w:=by rw[<-m]<;>rfl
 have af:∀d c i,e.h d=aa (c,i)->c≠b/\E.h d=aa (c,i):=λd c i f=>by
  rw[<-m]at f;simp only[ar.bW]at f;split at f;cases f
  rename_i a0;exact⟨λt=>a0 (gd.jY d id c i _ f (t▸O)),f⟩
 have ac:e.S=E.S:=by rw[<-m]<;>rfl
 have bv:e.H=E.H.set id (.arr (gg+1) 3 []):=by rw[<-m]<;>rfl
 have aA:∀k c,e.S k c->c≠b:=λk c h t=>aE (t▸gd.iF k c (ac▸h));let W:=sortWorldK (lh cs n) 3 E.w b 0 y r z;have v:=Y6 (enc:=lh cs n) (k:=3) (b:=b) (m:=y) (dk:=r) (os:=z) (w:=E.w);have X:Rm e {e with w:=W,bx:=λ_=>ae}:=⟨λ_ _ h=>h,λk c h=>by
  show W.heap[c]?=e.w.heap[c]?;rw[s];exact v.block c (by have:=j.iG c (j.iF k c h);grind) (aA k c h),c5 _,by grind[hM.refl]⟩
 have c2:∀d c i,e.h d=aa (c,i)->W.heap[c]?=e.w.heap[c]?:=λd c i f=>by
  rw[s];exact v.block c (by have:=(j.dC d c i f).1;grind) (af d c i f).1
 have u:Good {e with w:=W,bx:=λ_=>ae}:={
  iF:=j.iF
  iG:=λc h=>jL (by have:=j.iG c h;rwa[s]at this) v.size
  dC:=λd c i f=>by
   let⟨ca,cc,ce⟩:=j.dC d c i f;grind
  jY:=j.jY
  blt:=by grind
  mK:=by grind
  gI:=λd ba h=>oV.rm X rfl (by grind) (j.gI d ba h)}
 have au:du G {e with w:=W,bx:=λ_=>ae}:=λg Z f=>by
  have ak:=J g Z f;refine R.gR ?_ ak;exact⟨λ_ _ h=>h,λk c h=>X.heap ab c h,c5 _,λid Q _ h=>⟨Q,h,hM.refl _ _⟩⟩
 have K:∀d,R {e with w:=W,bx:=λ_=>ae} (.agg (row (d%n))) (.agg (lh cs n d).toArray):=λd=>.agg _ _ (by grind[RL.gR,RL.mono,Za]) (Nv o a9 d);have N:∀d,aM e.H .cb (.agg (row (d%n))) (a (d%n)):=λd=>a2 _ (E8 _ o) _ λg c1=>by grind
 have ah:=Ph u .cb;have ax:du G (({e with w:=W,bx:=λ_=>ae}:ar).ep .cb):=au.Jd (Pj .cb);have a4:=aM.fG u (N p) (by decide) (K p);have a5:=aM.fG u (N q) (by decide) (K q);let⟨B,aZ⟩:=aR (p%n) (q%n) (E8 _ o) (E8 _ o);have F:(({e with w:=W,bx:=λ_=>ae}:ar).ep .cb).w=W:=rfl;have aj:∀g,(({e with w:=W,bx:=λ_=>ae}:ar).ep .cb).bx g=none:=λ_=>rfl
 have ci:∀g,(({e with w:=W,bx:=λ_=>ae}:ar).ep .cb).h g=none:=λ_=>rfl;have ai:(({e with w:=W,bx:=λ_=>ae}:ar).ep .cb).H=[]:=rfl;generalize({e with w:=W,bx:=λ_=>ae}:ar).ep .cb=Y at*;have M:=aZ.2 Y [.agg (lh cs n p).toArray,.agg (lh cs n q).toArray] ah aj ai (.cons _ _ _ _ a4 (.cons _ _ _ _ a5 .nil)) ax;rw[F]at M;refine M.mono λf bm h=>?_;cases f with
 |returned bi=>
  let⟨br,a3,l,_,_,az⟩:=h;subst a3;refine⟨by cases az;rfl,?_⟩;have T:=l.os;have U:=l.output;have A:=l.tape;have V:=l.size;rw[F]at T U A V;refine aoz T U A.1 A.2 V λc co=>?_;have:=l.heap c (by grind) (by grind) (by grind);grind
 |panicked bi=>exact h.elim
 |_=>exact h.elim
end
open Go.Shelf
theorem aoF{a:FuncId}{b:Func}(h:(Q7 aU.funcs[a]?== "runtime.NumGoroutine")=ab)(c:aU.funcs[a]?=aa (adL b (Q7 aU.funcs[a]?))):Bears aU a b:=⟨_,h,c⟩
def aoG:Ren:=⟨λ|6=>32|15=>80|14=>79|28=>136|29=>137|20=>128|21=>129|22=>130|23=>131|24=>132|25=>133|26=>134|27=>135|46=>183|47=>184|48=>185|49=>186|50=>187|57=>244|n=>n,λ|22=>28|24=>38|25=>66|39=>141|53=>202|55=>204|46=>196|45=>195|50=>68|66=>239|70=>243|76=>299|77=>300|n=>n,λ|n=>n⟩
theorem Zc:SlLaysF0.n6 aU aoG:=by
 constructor<;>first|kernel_rfl|exactλ_=>by kernel_rfl|exact aoF (by kernel_rfl) (by kernel_rfl)
theorem Zd:∀(n:Nat)(a:List K)(b:Nat->List K),Z a=n*3->(∀c,c<n->(a.drop (c*3)).take 3=b c)->a=((ay n).map b).flatten
 |0,a,b,h,_=>by
  grind
 |n+1,a,b,h,d=>by
  rw[uK,hE,xp,<-Zd n (a.take (n*3)) b (by grind) (by grind[List.drop_take])];grind[List.flatten_cons,List.flatten_nil,List.take_of_length_le,List.length_drop,List.take_append_drop]
theorem RL.Ze{a:Nat->List AV}{g:Nat->List Value}(h:∀b,RL Y (a b) (g b)):∀n,RL Y ((ay n).map a).flatten ((ay n).map g).flatten
 |0=>.nil
 |n+1=>by
  rw[uK];simp only[hE,xp,eg,nj,xo,List.flatten_nil,sO];exact RL.append (RL.Ze h n) (h n)
theorem aoH{b:Array Nat}(d:0<U)(g:U*3<=eG.size)(k:b.size=U):(bI (putCells (λe=>e) 0 (flatK (lh eG U) 3 b) eG)).take (U*3)=((ay U).map λa=>lh eG U b[a]!).flatten:=by
 have n:(putCells (λe=>e) 0 (flatK (lh eG U) 3 b) eG).size=eG.size:=by simp[putCells]
 refine Zd U _ _ (by grind) λa l=>?_;rw[Oy,Ox,Oq (by omega)];have j:=Ik d b[a]!;refine ql ?_ λc m h=>?_;grind[Il,List.length_take,List.length_drop,Array.length_toList];rw[Il d g]at h;have i:a*3+c<b.size*3:=by omega
 have f:=Zb (cs:=eG) d g i;rw[show(a*3+c)/3=a by omega,show(a*3+c)%3=c by omega]at f;rw[getElem!_pos eG _ (by omega)]at f;simp_all[putCells,lh]
theorem Zf:CO aU 32:=⟨Tryz.f32,Tryz.f32.body.getD .skip,Tryz.func32,by kernel_rfl,by kernel_rfl⟩
theorem aoI:∀args w,(callFunc 33 args).run aU w=.ok (.enter 33 args) w:=by simp
theorem aoJ{id:Nat}{row:Nat->List AV}{key:Nat->KF}{n:Nat->AV}(j:M[id]?=aa (.arr U 3 (b8 N row)))(f:0<N)(aR:N<=1000000)
 (ac:∀a,a<N->∀v:List Obj,(∀s,s≠id->v[s]?=M[s]?)->aM v .cb (.agg (row a)) (n a))(W:∀a r,a<N->r<N->∃H,jy aU G0 33 [n a,n r] [] (I (mw (key a) (key r))) H):
 jy aU G0 32 [.q id U 0 N,.fn 33 [] []] M (.aB []) (M.set id (.arr U 3 (b8 N λa=>row ((kC key N)[a]!%N)))):=by
 refine⟨Zf,λi l gd aZ Q S P=>?_⟩;subst Q;obtain⟨k,rfl,T⟩:∃k,l=[k,.func (.func 33) #[] #[]]/\R i (.q id U 0 N) k:=by
  cases S with
  |cons _ m _ _ L c=>cases c with
   |cons _ a9 _ _ O c=>cases c with
    |nil=>cases O with
     |fn _ _ _ l vs h K=>
      cases l with
      |mk l=>cases vs with
       |mk vs=>cases h;cases K;grind
 have z:=(gd.gI id _ j).2;have ai:=(gd.gI id _ j).1;rw[yy]at z;rcases z with⟨h,-⟩|⟨d,b,x,t,E,u,aj,D⟩;grind[yy];have Y:∃cap,k=.slice (aa ⟨d,0,ae⟩) N cap:=by
  cases T with
  |q _ _ _ _ _ _ L a2 h=>grind
 obtain⟨cap,rfl⟩:=Y;let⟨V,_,_⟩:=gd.dC id d _ t;have p:(Array.range N).size=N:=Array.size_range;have a0:=aoE (P:=aU) (G:=G0) (fc:=33) gd P j f t E aj D ac W;have B:=AnyQ.slices_SortFunc_eq Zc 3 Tryz.isAgg38 Tryz.sizeOf38 (lh b N) (Il f u) (Nv f D) (yG key N) (Nt key N) 33 #[] d 0 cap (Array.range N) i.w aoI (by grind)
  (λc C=>by
   rw[size_flatK,p]at C;rw[e];have X:=Zb (a:=Array.range N) (cs:=b) f u (U:=c) (by rw[p];exact C);rw[getElem!_pos (Array.range N) (c/3) (by omega),Array.getElem_range,Nat.mod_eq_of_lt (by omega),show c/3*3+c%3=c by omega,getElem!_pos b c (by omega)]at X;grind[World.cell?,World.frozen?])
  V (by omega)
 rw[p]at B;apply B.mono;rintro J am ⟨rfl,F,G,rfl⟩;let⟨ak,_⟩:=Nu key N;have A:=aoH (b:=kC key N) f u ak;have af:(putCells (λm=>m) 0 (flatK (lh b N) 3 (kC key N)) b).size=b.size:=by simp[putCells]
 have Z:(sortWorldK (lh b N) 3 i.w d 0 F (kC key N) G).heap[d]?=aa (.cells (putCells (λm=>m) 0 (flatK (lh b N) 3 (kC key N)) b) x (0,0)):=aoA E;let⟨o,g⟩:=ar.sV gd (e2:=sortWorldK (lh b N) 3 i.w d 0 F (kC key N) G) (j:=.arr U 3 (b8 N λa=>row ((kC key N)[a]!%N))) (e:=aa (d,b.size))
  ⟨rfl,rfl,Y6.tape,Y5,by grind[Y4]⟩ j (by simp[hM,t,yy]) (by grind)
  (λo=>⟨λJ y=>by
   simp only[b8,cy,iw]at y;obtain⟨a,a3,rfl⟩:=y;exact ai _ (by simp only[b8,cy,iw];exact⟨_,E8 _ f,rfl⟩),
   .inr ⟨d,_,x,by simp[ar.bW,af],Z,by grind[yy],by
    rw[yy,A];exact RL.Ze (a:=λa=>row ((kC key N)[a]!%N)) (by grind[RL.mono,Za]) N,λa5 ah=>by
    rw[yy,A]at ah;grind[Nv]⟩⟩)
 exact⟨_,rfl,o,g,rfl,.aB _ _ .nil⟩
theorem aoK{id:Nat}(r:M[id]?=aa (.arr U 3 [])):jy aU G0 32 [.q id U 0 0,.fn 33 [] []] M (.aB []) M:=by
 refine⟨Zf,λa c gd o j k n=>?_⟩;subst j;obtain⟨b,rfl,l⟩:∃b,c=[b,.func (.func 33) #[] #[]]/\R a (.q id U 0 0) b:=by
  cases k with
  |cons _ t _ _ f e=>cases e with
   |cons _ u _ _ i e=>cases e with
    |nil=>cases i with
     |fn _ _ _ c vs h g=>
      cases c with
      |mk c=>cases vs with
       |mk vs=>cases h;cases g;exact⟨_,rfl,f⟩
 obtain⟨d,cap,rfl⟩:∃d cap,b=.slice d 0 cap:=by
  cases l with
  |q _ _ _ _ _ _ f p h=>grind
 apply(AnyF.slices_SortFunc_none Zc d cap (.func (.func 33) #[] #[]) a.w).mono;rintro m s ⟨rfl,rfl⟩;exact⟨a,rfl,Fr.refl a,gd,rfl,.aB _ _ .nil⟩
theorem Nw(a d:S)(f:dX a.af):PR C 33 [.agg (cF T a),.agg (cF F d)] (I (cm a d)):=by
 apply S9.pr;simp only[pR,O,bj,aK,qI,u1,e];apply c (zw a.ai d.ai);simp only[cx,O];refine b (λh=>?_) (λh=>?_);have:fA a.ai d.ai=cm a d:=by
  have:fA a.ai d.ai≠0:=by simpa using h
  unfold fA at this⊢;unfold cm;grind
 simp_all;refine c (KL a.af d.af f) ?_;have:jP a.af d.af=cm a d:=by
  have:fA a.ai d.ai=0:=by simpa using h
  unfold fA at this;unfold cm;grind
 simp_all
theorem Zg(c:List Int)(e:Int)(k:Sm c):PR C 11 [eS T cI c,I e] (.bool (c.contains e)):=by
 refine aeA.pr ?_;refine eC (U:=Z c) (c:=λd=>[ff,I d]) (λd=>(c.take d).contains e=ab) (by simp) rfl (λd f l g j=>?_) (λl g=>?_);simp only[i,G,a1,A,O,a,f,decide_true];refine a8 ?_;simp only[aF f (jf _),O,aK,lM,di];refine b (λh=>?_) (λh=>?_);have:c.contains e=true:=by
  have h:c[d]=e:=by simpa using h
  rw[OK,<-h];exact bp f
 rw[this];exact .bool _ _;have n:Z c<=1099511627776:=by unfold Sm at k;omega
 rw[a6,O];refine j ?_;have h:¬c[d]=e:=by simpa using h
 rw[iu f];grind;simp only[i,G,a1,A,O,a,cn,decide_false];refine bz ?_;simp_all
theorem Zh(b:S)(a:List Int)(d:Sm a):PR C 27 [.agg (cF T b),.aH F [eS bC cI a] 0] (.bool (a.contains b.ai)):=by
 apply RF.pr rfl;simp only[cK,hZ];simp only[pR,O,bj,aK,qI,e];apply aI (dR:=eS bC cI a) rfl;apply c (TN a b.ai d);simp
theorem Zi(b:S)(a:List Int)(e:Sm a):PR C 31 [.agg (cF T b),.aH F [.fn 27 [] [.aH bC [eS c6 cI a] 0]] 0] (.bool (!a.contains b.ai)):=by
 apply Re.pr rfl;simp only[cK,hZ];simp only[pR,O];refine aI (dR:=.fn 27 [] [.aH bC [eS c6 cI a] 0]) rfl ?_;simp only[kr,O];refine aY (dR:=27) (oK:=[.agg (cF T b),.aH bC [eS c6 cI a] 0]) rfl ?_;apply c (Zh b a e);simp
def Cg(a b:S):Bool:=cm a b==0&&a.aj==b.aj
theorem aoL(a b:S)(d:dX a.af):PR C 37 [.agg (cF T a),.agg (cF F b)] (.bool (Cg a b)):=by
 apply Ta.pr;simp only[pR,O,bw,kr];apply c (Nw a b d);simp only[di,O];refine aW (λh=>?_) (by simp_all[Cg]);simp only[bj,aK,u2,O,e,di];simp_all[Cg]
def pq(c:D)(b d e:Int):Prop:=∀a,dB c b=aa a->dy a d.toNat e.toNat=ad
theorem pq.refl:pq V f b9 b9:=λa _=>Vx a _
def tF(b:D)(gs:List S)(a:S):Prop:=∃g∈gs,g.ai=a.ai/\g.af=a.af/\pq b a.ai a.aj g.aj
def vJ(c:D)(a:S):Prop:=∃b,dB c a.ai=aa b/\a.aj=eB b []
def ng(b:D)(gs:List S)(a:S):Prop:=vJ b a\/tF b gs a
def en(c:D)(b gs:List S):Prop:=∀a∈b,tF c gs a
theorem en.refl:en V X X:=λa b=>⟨a,b,rfl,rfl,.refl⟩
variable{q9:Int}
theorem pq.trans{c:Int}(g:∀a,dB V f=aa a->eA a q9=ad)(h:pq V f b9 q9)(d:pq V f q9 c):pq V f b9 c:=λa b=>by
 obtain⟨i,rfl,e⟩:=mm (g a b);exact LC e (h a b) (d a b)
theorem tF.trans{gs:List S}(f:∀g∈gs,gn V g)(h:tF V gs b3)(b:en V gs X):tF V X b3:=by
 let⟨g,a,c,d,e⟩:=h;let⟨i,w1,l,k,n⟩:=b g a;refine⟨i,w1,l.trans c,k.trans d,e.trans (λj m=>f g a j (by grind)) ?_⟩;grind
variable{gD:List S}
theorem en.trans{gs:List S}(d:∀g∈gs,gn V g)(h:en V X gs)(b:en V gs gD):en V X gD:=λa c=>(h a c).trans d b
theorem aoN(h:eR dL=0)(a:eA dL f=ad)(i:dy dL f.toNat (eB dL []).toNat=ad):f=eB dL []:=by
 let⟨j,c,d,e⟩:=Vz h;obtain⟨b,rfl,g⟩:=mm a;grind[Hj]
theorem vJ.down(f:lU V){g:S}(e:gn V b3)(i:g.ai=b3.ai)(h:pq V b3.ai b3.aj g.aj)(d:vJ V g):vJ V b3:=by
 let⟨b,a,c⟩:=d;rw[i]at a;refine⟨b,a,aoN (f b (vt a)) (e b a) ?_⟩;rw[<-c];exact h b a
theorem ng.down(b:lU V){g:S}(e:gn V b3)(f:gn V g)(c:g.ai=b3.ai)(d:g.af=b3.af)(h:pq V b3.ai b3.aj g.aj)(a:ng V X g):ng V X b3:=by
 rcases a with a|⟨i,w1,l,k,m⟩;exact .inl (a.down b e c h);refine .inr ⟨i,w1,l.trans c,k.trans d,h.trans (λj b=>f j (by grind)) ?_⟩;grind
theorem ng.trans{gs:List S}(b:∀g∈gs,gn V g)(h:ng V gs b3)(a:en V gs X):ng V X b3:=
 h.imp id λh=>h.trans b a
theorem Nx(h:eR dL=0)(u:eA dL f=ad)(a:eA dL b9=ad):
 eA dL (eB dL [f,b9])=ad/\dy dL f.toNat (eB dL [f,b9]).toNat=ad/\dy dL b9.toNat (eB dL [f,b9]).toNat=ad/\
 ∀b,eA dL b=ad->dy dL f.toNat b.toNat=ad->dy dL b9.toNat b.toNat=ad->dy dL (eB dL [f,b9]).toNat b.toNat=true:=by
 obtain⟨l,rfl,i⟩:=mm u;obtain⟨m,rfl,j⟩:=mm a;let⟨k,g,p,q,r⟩:=Vy h i j;rw[g];refine⟨BM p,q,r,λb v s t=>?_⟩;obtain⟨x,rfl,w⟩:=mm v;have a:0<=qR (Z dL.az) (dy dL) λc=>y ((c:Int)∈[(l:Int),(m:Int)]):=by
  have d:=LD h i j;unfold ml at d;simp only[I0,decide_eq_false_iff_not,aaT]at d;exact d.2
 let⟨c,n,_,_,o⟩:=LF a;have e:(k:Int)=c:=by
  rw[<-g,<-n];simp_all[eB,BM]
 have e:k=c:=by omega
 subst e;refine o x w λb9 _ a=>?_;have a:b9=l\/b9=m:=by simp at a;omega
 rcases a with rfl|rfl;exact s;exact t
theorem Io(c:D)(b:List S)(a:S):
 (vJ c a/\da c b a=b)\/(¬vJ c a/\(
  (∃i,∃h:i<Z b,b[i].ai=a.ai/\b[i].af=a.af/\(dB c a.ai=ae/\da c b a=b\/∃l,dB c a.ai=aa l/\da c b a=b.set i ⟨b[i].ai,b[i].af,eB l [b[i].aj,a.aj]⟩))\/
  ((∀d∈b,¬(d.ai=a.ai/\d.af=a.af))/\da c b a=jH b a))):=by
 have n:∀d:S,e6 a.ai a.af d=ad<->d.ai=a.ai/\d.af=a.af:=by simp[e6]
 have o:b.findIdx? (e6 a.ai a.af)=ae->∀d∈b,¬(d.ai=a.ai/\d.af=a.af):=λh d p m=>by
  grind
 have q:∀i,b.findIdx? (e6 a.ai a.af)=aa i->∃h:i<Z b,b[i].ai=a.ai/\b[i].af=a.af:=λi h=>by
  grind[List.findIdx?_eq_some_iff_getElem]
 unfold da;rcases f:dB c a.ai with _|l;have e:¬vJ c a:=by rintro⟨l,h,-⟩;rw[f]at h;cases h
 refine .inr ⟨e,?_⟩;rcases k:b.findIdx? (e6 a.ai a.af)with _|i;grind;grind;by_cases e:a.aj=eB l [];exact .inl ⟨⟨l,f,e⟩,by simp[e]⟩;have j:¬vJ c a:=by
  rintro⟨r,h,g⟩;rw[f]at h;cases h;exact e g
 grind
theorem aoO(j:lU V)(p:∀e∈X,gn V e)(o:gn V b3):en V X (da V X b3)/\ng V (da V X b3) b3:=by
 rcases Io V X b3 with⟨i,a⟩|⟨i,⟨k,c,a,b,⟨f,g⟩|⟨d,f,g⟩⟩|⟨a,b⟩⟩;rw[a];exact⟨.refl,.inl i⟩;rw[g];refine⟨.refl,.inr ⟨X[k],bp c,a,b,λd j=>?_⟩⟩;simp_all;rw[g];have n:=p _ (bp c) d (by grind);let⟨s,u,t,_⟩:=Nx (j d (vt f)) n (o d f);refine⟨λe h=>?_,.inr ⟨_,arZ c _,a,b,λr q=>?_⟩⟩;obtain⟨l,v,rfl⟩:=kf.1 h;by_cases m:k=l;subst m;refine⟨_,arZ c _,rfl,rfl,λr q=>?_⟩;grind;refine⟨X[l],?_,rfl,rfl,.refl⟩
 grind[List.mem_iff_getElem,List.getElem_set_ne];grind;rw[b];exact⟨λe h=>⟨e,zM.2 (.inr h),rfl,rfl,.refl⟩,.inr ⟨b3,zM.2 (.inl rfl),rfl,rfl,.refl⟩⟩
theorem aoP(z:lU V){Q:Int->Prop}{gs:List S}(v:gm gs)(x:∀a∈X,gn V a)(y:∀a∈gs,gn V a)(w:gn V b3)(h:∀a∈X,Q a.ai->tF V gs a)(n:Q b3.ai->ng V gs b3):∀a∈da V X b3,Q a.ai->tF V gs a:=by
 rcases Io V X b3 with⟨j,f⟩|⟨j,⟨A,o,f,k,⟨d,m⟩|⟨c,d,m⟩⟩|⟨f,k⟩⟩;grind;grind;rw[m];intro a e b;rcases OG e with e|rfl;grind;have b:=b;let⟨g,s,E,t,u⟩:=(n (f▸b)).resolve_left j;let⟨l,w1,C,p,B⟩:=h X[A] (bp o) b;have q:=DT v l w1 g s (by omega) (by rw[p,t,k]);subst q;refine⟨l,w1,C,p,λF i=>?_⟩;have i:=i;rw[f,d]at i;cases i;have r:=x _ (bp o) c (by omega)
 exact(Nx (z c (vt d)) r (w c d)).2.2.2 _ (y l w1 c (by grind)) (B c (by omega)) (u c d);rw[k];intro a e b;rcases zM.1 e with rfl|e;exact(n b).resolve_left j;grind
theorem Av(d:lU V):∀(bs:List S){a:List S},(∀e∈a,gn V e)->(∀e∈bs,gn V e)->en V a (dq V a bs)/\∀f∈bs,ng V (dq V a bs) f
 |[],a,_,_=>⟨.refl,by simp⟩
 |b::bs,a,h,i=>by
  have c:=(zO d h (i b (by simp))).2;let⟨k,l⟩:=aoO d h (i b (by simp));let⟨g,m⟩:=Av d bs c (by grind);have j:dq V a (b::bs)=dq V (da V a b) bs:=rfl;rw[j];refine⟨k.trans c g,λf hf=>?_⟩;rcases b5.1 hf with rfl|hf;exact l.trans c g;grind
theorem Ip(g:lU V){Q:Int->Prop}{gs:List S}(e:gm gs)(f:∀a∈gs,gn V a):∀(bs:List S){c:List S},(∀a∈c,gn V a)->(∀a∈bs,gn V a)->(∀a∈c,Q a.ai->tF V gs a)->(∀d∈bs,Q d.ai->ng V gs d)->∀a∈dq V c bs,Q a.ai->tF V gs a
 |[],c,_,_,h,_=>h
 |b::bs,c,h,k,i,j=>Ip g e f bs (by grind[zO]) (by grind)
  (aoP g e h f (k b (by simp)) i (j b (by simp))) (by grind)
theorem Iq(k:lU V){gs:List S}(f:gm gs)(j:∀a∈gs,gn V a)(bs:List S)(h:∀a∈X,gn V a)(g:∀a∈bs,gn V a)(d:en V X gs)(e:∀b∈bs,ng V gs b):en V (dq V X bs) gs:=
 λa c=>Ip (Q:=λ_=>True) k f j bs h g (λa c _=>d a c) (λb i _=>e b i) a c trivial
def q1(f:D)(e:Int)(a b:bb):Prop:=b.aA=a.aA/\b.bF=a.bF/\b.aw=a.aw/\∃c:List (Int×Int),a.az=c.map Prod.fst/\b.az=c.map Prod.snd/\∀d∈c,pq f e d.1 d.2
variable{fE:bb}
theorem Ny(b:fE.aA=H.aA)(c:fE.bF=H.bF)(a:aJ):cD fE a=cD H a:=by
 grind[cD]
theorem Zj(b:fE.aA=H.aA)(c:fE.bF=H.bF)(a:List aJ):j4 fE a=j4 H a:=by
 grind[j4,Ny]
theorem Zk(h:q1 V f H fE)(a:aJ)(b:aG):q1 V f (gL H a b) (gL fE a b):=by
 let⟨c,d,e,g⟩:=h;exact⟨by simp[gL,c],by simp[gL,d],by simp[gL,e],g⟩
theorem Nz{i:D}{g:Int}:∀(b:List aJ)(vs:List aG){d c e:bb},q1 i g d c->gM d b vs=aa e->∃j,gM c b vs=aa j/\q1 i g e j
 |[],vs,d,c,e,h,a=>by
  simp only[gM,e1]at a⊢;subst a;exact⟨c,rfl,h⟩
 |t::b,[],d,c,e,h,a=>by simp[gM]at a
 |t::b,l::vs,d,c,e,h,a=>by
  rw[gM]at a;rw[gM,Ny h.1 h.2.1];split at a;rename_i f;rw[if_pos f];split at a;rename_i k;rw[if_pos k];exact Nz b vs h a;cases a
  rename_i f;rw[if_neg f];exact Nz b vs (Zk h t l) a
theorem aoQ(h:q1 V f H fE)(a:Lit)(l:a.bind≠[]->pq V f b9 q9):q1 V f (kv H a b9) (kv fE a q9):=by
 unfold kv;split;exact h;rename_i k;let⟨b,c,d,i,e,g,j⟩:=h;refine⟨b,c,by simp[d],i++[(b9,q9)],by simp[e],by simp[g],?_⟩;grind
theorem aoR(h:q1 V f H fE)(a:Lit):q1 V f (kP H a) (kP fE a):=by
 unfold kP;split;rename_i b c _;simp only[Ny h.1 h.2.1];grind[Zk];exact h
def gV(b:Int)(c gs:List S):Prop:=c.filter (λa=>a.ai==b)=gs.filter (λa=>a.ai==b)
theorem gV.find{gs:List S}(h:gV f X gs)(args:List aG):X.find? (e6 f args)=gs.find? (e6 f args):=by
 have key:∀a:List S,a.find? (e6 f args)=(a.filter λb=>b.ai==f).find? (e6 f args):=by
  intro a;rw[List.find?_filter]
  congr 1
  funext b
  unfold e6;grind
 rw[key X,key gs,h]
theorem aoS{c:Int}(h:se V f b9 q9=ad)(j:∀b,dB V f=aa b->eA b c=ad)(d:pq V f q9 c)(e:dB V f≠ae):se V f b9 c=true:=by
 let⟨b,a⟩:=Option.ne_none_iff_exists'.1 e;have k:=d b a;have l:=j b a;unfold se at h⊢;unfold dB at a;rcases i:V.Q[f.toNat]? with _|q;grind;rw[i]at h a;simp only at h a⊢;by_cases g:q.of<0;simp_all;rw[if_neg g]at a;rw[a]at h⊢;simp only[vl,bc,beq_iff_eq]at h⊢;obtain⟨n,rfl,m⟩:=mm h.1.2;grind[LC]
theorem aoT{r:aD}(l:DV V r P){gs:List S}(u:∀g∈gs,gn V g)(v:en V X gs)(k:jF P=ad->gV P.ai X gs){o:bb}(h:q1 V r.ai H fE)(b:o∈gb V X H P):
 ∃B∈gb V gs fE P,q1 V r.ai o B:=by
 unfold gb at b⊢;by_cases c:(P.ax==1||P.ax==3)=ad;rw[if_pos c]at b⊢;let⟨p,e,b⟩:=xr.1 b;let⟨e,a⟩:=l4.1 e;let⟨g,j,q,C,s⟩:=v p e;unfold qV at b;obtain⟨w,y,rfl⟩:=dj.1 b;let⟨A,F,d⟩:=Nz _ _ h y;unfold j6 at a;simp only[bc,beq_iff_eq,hX,bne_iff_ne,ne_eq]at a;refine⟨kv A P g.aj,xr.2 ⟨g,l4.2 ⟨j,?_⟩,?_⟩,aoQ d P λt=>?_⟩;unfold j6;simp only[bc,beq_iff_eq,hX,bne_iff_ne,ne_eq];refine⟨q.trans a.1,?_⟩
 by_cases m:P.ax=3;let⟨z,E,_⟩:=l.iC (.inl m);refine .inr (aoS (a.2.resolve_left λh=>h m) (λf x=>u g j f (by grind)) ?_ (by grind));grind;omega;grind[qV];let⟨_,_,z,G,I⟩:=l.bind t;intro f x;apply s f;grind;rw[if_neg c]at b⊢;split at b;rename_i a;have d:=aoR h P;simp only[l5]at b;subst b;refine⟨kP fE P,?_,d⟩;rw[if_pos];simp;simp only[hX,beq_iff_eq,not_or]at c;unfold sf at a⊢;rw[Zj d.1 d.2.1]
 rw[if_neg c.1]at a⊢;by_cases i:P.ax=2;rw[if_pos i]at a⊢;rw[<-(k (by simp[jF,i])).find];exact a;rw[if_neg i]at a⊢;by_cases n:(P.ax==3||P.ax==4)=ad;rw[if_pos n]at a⊢;have J:P.ax=4:=by simpa[c.2]using n
 unfold ym at a⊢;rw[<-(k (by grind[jF])).find];exact a;grind;cases b
theorem NA{c:D}{r:aD}{l gs:List S}(m:∀g∈gs,gn c g)(n:en c l gs){f:List Lit}(p:∀b∈f,DV c r b)(o:∀b∈f,jF b=ad->gV b.ai l gs):
 ∀(d:List Nat){j e k:bb},q1 c r.ai j e->k∈kQ c l f d j->∃s∈kQ c gs f d e,q1 c r.ai k s
 |[],j,e,k,h,a=>by
  simp only[kQ,l5]at a⊢;subst a;exact⟨e,rfl,h⟩
 |i::d,j,e,k,h,a=>by
  rw[kQ]at a⊢;split at a;rename_i b t;have q:=qj t;let⟨w,v,a⟩:=aaX.1 a;let⟨A,y,u⟩:=aoT (p b q) m n (o b q) h v;let⟨s,z,x⟩:=NA m n p o d u a;grind;exact NA m n p o d h a
def uF(a:D):Prop:=∀r∈a.ak,0<=r.ai->r.aj.ax=3->∀c,dB a r.ai=aa c->∀b,a.aO[r.aj.aR.toNat]?=aa b->od c b.gQ=ad
theorem Zl(h:q1 V f H fE)(a:d):pq V f (jS H a) (jS fE a):=by
 let⟨_,_,b,i,c,e,j⟩:=h;unfold jS;rw[b,c,e];split;rename_i g _;simp only[pz,sK];rcases k:i[g]? with _|u;exact .refl;grind;exact .refl
theorem aoU{r:aD}(m:uF V)(n:r∈V.ak)(o:zR V r)(e:0<=r.ai)(h:q1 V r.ai H fE)(j:r.aj.ax=3->∀a,dB V r.ai=aa a->eA a (jS H r.aj.aE)=ad/\eA a (jS fE r.aj.aE)=ad):
 (kO V r fE).ai=(kO V r H).ai/\(kO V r fE).af=(kO V r H).af/\pq V (kO V r H).ai (kO V r H).aj (kO V r fE).aj:=by
 refine⟨rfl,Zj h.1 h.2.1 _,?_⟩;show pq V r.ai (sg V r H) (sg V r fE);unfold sg;split;exact .refl;split;exact Zl h _;split;rename_i b;intro a c;let⟨d,y,i,z,v,w,x⟩:=o.fn e b;have f:=m r n e b a c V.aO[d] (by grind);let⟨p,q⟩:=j b a c;have l:=Zl h r.aj.aE a c;let⟨s,g,t⟩:=mm p;let⟨u,v1,v2⟩:=mm q;have k:V.aO[r.aj.aR.toNat]?=aa V.aO[d]:=by rw[i];simp
 rw[k,g,v1];rw[g,v1]at l;simp only[od,bc,eL,iw,hX,gZ]at f;exact(f.2 s t u v2).resolve_left (by simp_all);exact .refl
theorem Zm(c:e9 V aP)(u:uF V){gs:List S}(l:bH V aP X)(f:bH V aP gs)(t:en V X gs){r:aD}(b:r∈V.ak)(q:0<=r.ai)(v:∀n∈r.ah,jF n=ad->gV n.ai X gs):
 ∀a∈lC V X r,∃g∈lC V gs r,g.ai=a.ai/\g.af=a.af/\pq V a.ai a.aj g.aj:=by
 intro a s;obtain⟨p,e,rfl⟩:=cy.1 s;have d:=c.iS r b;have i:=c.safe r b;have v1:=DW d i (l.meet c b) (λa h=>(l.ok a h).aj) p e;simp only[uf,bc]at i;let⟨x,m⟩:=sH.1 i.1.1;rw[DU m]at e;let⟨k,j,w⟩:=NA (λg h=>(f.ok g h).aj) t d.lits v x ⟨rfl,rfl,rfl,[],rfl,rfl,by simp⟩ e;rw[<-DU m]at j;have v2:=DW d (c.safe r b) (f.meet c b) (λa h=>(f.ok a h).aj) k j
 refine⟨kO V r k,cy.2 ⟨k,j,rfl⟩,aoU u b d q w λo E C=>?_⟩;let⟨F,y,A⟩:=v1.az _ (DX v1.zS (v1.aw (.inr o)));let⟨G,z,B⟩:=v2.az _ (DX v2.zS (v2.aw (.inr o)));grind
variable{cq:List Int}
theorem yH{r:aD}(h:il cq r=ad):0<=r.ai:=by
 grind[il]
theorem Ir{Q:List S->Prop}(b:Q [])(h:∀r∈V.ak,il cq r=ad->∀out,Q out->Q (dq V out (lC V X r))):Q (fC V cq X):=by
 have key:∀(a:List aD)(_:∀r∈a,r∈V.ak){out:List S},Q out->Q (a.foldl (ky V cq X) out):=by
  intro a;induction a with
  |nil=>grind
  |cons r a c=>
   grind[ky]
 exact key V.ak (λ_ h=>h) b
theorem Ch{d:Int->List aG->Prop}:∀(bs:List S){c:List S},(∀a∈c,d a.ai a.af)->(∀a∈bs,d a.ai a.af)->∀a∈dq V c bs,d a.ai a.af
 |[],_,h,_=>h
 |b::bs,c,h,e=>Ch bs (c:=da V c b) (LA h (e b (by simp))) (by grind)
theorem Is{b:Int->List aG->Prop}(h:∀r∈V.ak,il cq r=ad->∀a∈lC V X r,b a.ai a.af):∀a∈fC V cq X,b a.ai a.af:=
 Ir (Q:=λout=>∀a∈out,b a.ai a.af) (by simp) λr e c _ d=>Ch _ d (h r e c)
theorem Zn(f:e9 V aP)(g:bH V aP X):∀(d:List aD)(_:∀r∈d,r∈V.ak){out:List S},bH V aP out->
 en V out (d.foldl (ky V cq X) out)/\∀r∈d,il cq r=ad->∀e∈lC V X r,ng V (d.foldl (ky V cq X) out) e
 |[],_,out,_=>⟨.refl,by simp⟩
 |r::d,q,out,l=>by
  have n:=q r (by simp);have m:=(Ho f g cq [r] (by simpa using n) l).1;obtain⟨i,s⟩:=Zn f g d (by grind) m;rw[ni];have k:∀b∈ky V cq X out r,gn V b:=λb a=>(m.ok b a).aj;have j:en V out (ky V cq X out r)/\(il cq r=ad->∀e∈lC V X r,ng V (ky V cq X out r) e):=by
   unfold ky;split;rename_i c;have o:0<=r.ai:=by
    simp only[il,bc,decide_eq_true_eq]at c;exact c.1
   have:=Av f.aN (lC V X r) (λb a=>(l.ok b a).aj) (λb a=>(uo f g n o b a).aj);grind;rename_i c;exact⟨.refl,λh=>absurd h c⟩
  refine⟨j.1.trans k i,λb a c e p=>?_⟩;rcases b5.1 a with rfl|a;exact(j.2 c e p).trans k i;grind
theorem Zo(e:e9 V aP){gs:List S}(c:bH V aP X)(g:bH V aP gs)(h:∀r∈V.ak,il cq r=ad->∀f∈lC V X r,ng V gs f):en V (fC V cq X) gs:=
 (Ir (Q:=λout=>bH V aP out/\en V out gs) ⟨.nil V aP,by intro f c;cases c⟩ λr k j out d=>by
  have i:=uo e c k (yH j);exact⟨wV e.aN _ d.1 i,Iq e.aN g.dF (λb a=>(g.ok b a).aj) _ (λb a=>(d.1.ok b a).aj) (λb a=>(i b a).aj) d.2 (h r k j)⟩).2
theorem NC(c:e9 V aP)(b:bH V aP X):∀r∈V.ak,il cq r=ad->∀a∈lC V X r,ng V (fC V cq X) a:=
 (Zn c b V.ak (λ_ h=>h) (.nil V aP)).2
theorem ND(a:e9 V aP)(p:uF V){gs:List S}(e:bH V aP X)(c:bH V aP gs)(o:en V X gs)(q:∀r∈V.ak,il cq r=ad->∀k∈r.ah,jF k=ad->gV k.ai X gs):en V (fC V cq X) (fC V cq gs):=by
 have s:=(om a c cq).1;refine Zo a e s λr b f h j=>?_;have d:=yH f;let⟨g,i,l,m,n⟩:=Zm a p e c o b d (q r b f) h j;exact(NC a c r b f g i).down a.aN (uo a e b d h j).aj (uo a c b d g i).aj l m n
def vK(c:D)(b:List S):Prop:=∀a∈b,¬vJ c a
theorem aoV(l:lU V)(p:∀b∈X,gn V b)(o:gn V b3)(h:vK V X):vK V (da V X b3):=by
 rcases Io V X b3 with⟨f,g⟩|⟨f,⟨c,k,g,i,⟨e,j⟩|⟨d,e,j⟩⟩|⟨g,i⟩⟩;grind;simp_all;rw[j];intro b a;rcases OG a with a|rfl;exact h b a;have m:=p _ (bp k) d (by grind);let⟨_,q,_,_⟩:=Nx (l d (vt e)) m (o d e);intro n;refine h X[c] (bp k) (vJ.down (g:=⟨X[c].ai,X[c].af,eB d [X[c].aj,b3.aj]⟩) l (by grind) rfl (λs r=>?_) n);grind;rw[i];intro b a;rcases zM.1 a with rfl|a;exact f;exact h b a
theorem Ci(d:lU V):∀(bs:List S){a:List S},(∀c∈a,gn V c)->(∀c∈bs,gn V c)->vK V a->vK V (dq V a bs)
 |[],_,_,_,h=>h
 |b::bs,a,h,e,f=>Ci d bs (by grind[zO]) (by grind) (by grind[aoV])
theorem aoW{gs:List S}(b:gm X)(h:en V X gs)(c:Int):jm X c<=jm gs c:=by
 have f:((X.filter λa=>a.ai==c).map S.af).Nodup:=by
  rw[aaW,aa1];refine avE (λ{j q} d e i o=>i ?_) ((BN b).filter _);have d:=l4.1 d;have e:=l4.1 e;exact(by grind[DT])
 have n:=zQ f (a:=(gs.filter λa=>a.ai==c).map S.af) λj d=>by
  obtain⟨a,b,rfl⟩:=cy.1 d;have b:=l4.1 b;let⟨g,k,l,m,_⟩:=h a b.1;grind
 simp_all[jm]
theorem Zp{gs:List S}(d:gm X)(h:en V X gs)(e:iL gs=ab):iL X=false:=by
 unfold iL;rw[<-yV,I2];rintro⟨b,a,c⟩;have a:b<Z X:=by simpa using a
 rw[wT,bu a]at c;simp only[decide_eq_true_eq]at c;have f:=VC e X[b].ai;have g:=aoW d h X[b].ai;grind[jm,List.Sublist.length_le,List.take_sublist]
theorem It{d:D}:∀(bs:List S){c:List S},(∀a∈bs,a.ai≠f)->gV f (dq d c bs) c
 |[],_,_=>rfl
 |b::bs,c,h=>by
  have k:=It (d:=d) bs (c:=da d c b) λa o=>h a (by simp[o]);have n:=h b (by simp);apply k.trans;rcases Io d c b with⟨-,g⟩|⟨-,⟨e,p,g,l,⟨m,i⟩|⟨r,m,i⟩⟩|⟨-,l⟩⟩;rw[g];rw[i]
  ·rw[i]
   have j:¬(c[e].ai==f)=true:=by rw[g];simpa using n
   have q:c.filter (λa=>a.ai==f)=(c.take e).filter (λa=>a.ai==f)++(c.drop (e+1)).filter (λa=>a.ai==f):=by
    conv=>lhs;rw[<-vO e c,oC p,yS,ar0 (p:=λa:S=>a.ai==f) j]
   simp_all[aa0,if_pos,yS,ar0,eB]
  grind[jG,List.take_append_drop,jH,List.filter_cons_of_neg]
theorem NF:∀a∈fC V cq X,a.ai∈cq:=
 Is (b:=λc _=>c∈cq) λr _ b a d=>by
  obtain⟨f,-,rfl⟩:=cy.1 d;simp only[il,bc,OK]at b;exact b.2
def yI(d:D)(b:List Int)(c gs:List S):Prop:=∀r∈d.ak,il b r=ad->∀a∈r.ah,jF a=ad->a.ai∉b/\gV a.ai c gs
theorem NG(h:f∉cq):gV f (im V cq X) X:=
 It _ (by grind[NF])
theorem yI.next{gs:List S}(h:yI V cq X gs):yI V cq (im V cq X) gs:=λr d b e c a=>
 ⟨(h r d b e c a).1,(NG (h r d b e c a).1).trans (h r d b e c a).2⟩
theorem Zq(a:e9 V aP)(q:uF V){gs:List S}(c:bH V aP X)(d:bH V aP gs)(l:en V X gs)(s:yI V cq X gs)(b:∀r∈V.ak,il cq r=ad->∀h∈lC V gs r,ng V gs h):en V (im V cq X) gs:=by
 have t:=(om a c cq).1;refine Iq a.aN d.dF (λf b=>(d.ok f b).aj) _ (λf b=>(c.ok f b).aj) (λf b=>(t.ok f b).aj) l λh o=>.inr ?_;refine Zo a c d (λr e j g k=>?_) h o;have i:=yH j;let⟨m,w1,x,v,w⟩:=Zm a q c d l e i (λu p n=>(s r e j u p n).2) g k;exact(b r e j m w1).down a.aN (uo a c e i g k).aj (uo a d e i m w1).aj x v w
theorem NH(b:e9 V aP)(j:uF V){r:Option (List S)}(h:p5 V cq U X r){gs:List S}(a:bH V aP X)(g:bH V aP gs)(i:en V X gs)(k:iL gs=ab)(c:yI V cq X gs)(l:∀r∈V.ak,il cq r=ad->∀e∈lC V gs r,ng V gs e):
 ∃out,r=aa out/\en V out gs:=by
 induction h with
 |over U X h=>
  have f:=Zq b j a g i c l;rw[Zp (zT b a cq).1.dF f k]at h;cases h
 |stop U X h d=>grind
 |next U X r h d n m=>exact m (zT b a cq).1 (by grind[Zq]) c.next
theorem ED(e:e9 V aP){r:Option (List S)}(h:p5 V cq U X r)(c:bH V aP X):∀gs,r=aa gs->bH V aP gs/\en V X gs/\iL gs=ab/\im V cq gs=gs:=by
 induction h with
 |over U X h=>grind
 |stop U X h f=>
  intro gs d;cases d
  exact⟨c,.refl,by grind,f⟩
 |next U X r h f o n=>
  intro gs d;have g:=(zT e c cq).1;let⟨i,j,k⟩:=n g gs d;have m:=(om e c cq).1;have l:=(Av e.aN (fC V cq X) (λb a=>(c.ok b a).aj) λb a=>(m.ok b a).aj).1;exact⟨i,l.trans (λb a=>(g.ok b a).aj) j,k⟩
theorem Iu(g:e9 V aP):∀{e:List (List Int)}{a:List S}{r:Option (List S)},j7 V e a r->bH V aP a->∀gs,r=aa gs->bH V aP gs/\en V a gs
 |[],a,r,h,d=>by cases h;intro gs b;cases b;exact⟨d,.refl⟩
 |c::e,a,r,h,d=>by
  intro gs b;cases h with
  |none _ _ n _ h=>cases b
  |cons _ _ n _ i _ h o=>
   let⟨f,j,_,_⟩:=ED g h d i rfl;let⟨k,l⟩:=Iu g o f gs b;exact⟨k,j.trans (λp m=>(f.ok p m).aj) l⟩
theorem aoZ(h:iW V):∀b∈V.aO,∃d,V.aw[b.of.toNat]?=aa d/\0<=b.of/\od d b.gQ=true:=by
 intro b f;have e:=Aq (congrArg D.aO h.2.2.2) b f;obtain⟨c,g,rfl⟩:=kf.1 f;have a:=h.2.1;simp only[p7,bc,eL,iw]at a;have a:=a.1.2 c g;rw[ph,bu g]at a;simp only[bc]at a;let⟨a,_⟩:=a;split at a;rename_i d i;simp only[bc,decide_eq_true_eq]at a;have j:V.aO[c].of=ed V V.aO[c].aN:=(congrArg Fn.of e).symm;have k:V.aO[c].gQ=fJ d V.aO[c]:=by
  apply(congrArg Fn.gQ e).symm.trans;simp only[eK,i,if_pos a]
 grind[fD];cases a
theorem NI(h:iW V):uF V:=by
 intro r g x e A z w y;have t:V.aO=V.aO.map (eK V):=congrArg D.aO h.2.2.2;have u:V.Q=V.Q.map (ew V):=congrArg D.Q h.2.2.2;have m:=congrArg D.ak h.2.2.2;have o:ee V []=⟨V.aw,V.aO,V.Q,[]⟩:=by
  show(⟨V.aw,V.aO.map (eK V),V.Q.map (ew V),[]⟩:D)=_;grind
 have a:=Aq m r g;let⟨c,_,_⟩:=h.2.2.1 r g;rw[o]at a c;have v:r.ai=j8 ⟨V.aw,V.aO,V.Q,[]⟩ r:=(congrArg aD.ai a).symm;have n:r.aj.aR=oo ⟨V.aw,V.aO,V.Q,[]⟩ r:=(congrArg (λb:aD=>b.aj.aR) a).symm;have f:r.au≠[]:=by grind[j8]
 let⟨j,d,p,_,_,_,_,k⟩:=D6 c f;let⟨b,i,l,q⟩:=k e;have d:j<Z V.Q:=d;have i:=i;have s:r.aj.aR=b:=by rw[n,oo,if_neg f,if_neg (by omega),if_pos e,l]
 grind[j8,Int.toNat_natCast,List.getElem?_eq_getElem,aoZ,List.getElem_mem,uE,yF]
noncomputable def uG(a:D):Bool:=lg a&&(Z (qQ a):Int)==0&&(Z (qT a):Int)==0
theorem YD(a:D)(f:eI a)(d:Z a.ak<=20)(g:∀r∈a.ak,lR r)(e:iW a->mn a):PR C 23 [.agg (cP ab T a)] (.bool (uG a)):=by
 apply aed.pr;simp only[eP,O,gS,bw,G];refine c (WH a f) (aW (λh=>?_) (λh=>bJ (by rw[uG,h]<;>rfl)));apply c (aiA a d g);simp only[a1,di,O];refine aW (λb=>?_) (λb=>bJ (by rw[uG,h,b]<;>rfl));apply c (ajs a (e (yw.1 h)) d);simp only[a1,di,O];exact iT (by rw[uG,h,b]<;>rfl)
theorem Zt(a:List S):NB (eS ab (cF ab) a):=BU (λb=>.cons _ _ (.int _ _) (.cons _ _ (H6 _) (.cons _ _ (.int _ _) .nil))) a
structure xl(p:D)(fs:List S):Prop where
 kK:kK p fs 3000=ad
 nG:qP p fs
 val:iW p
 EE:qQ p=[]
 str:qT p=[]
 form:hP p fs=ad
 eo:fs.all (p8 p)=ad
theorem ao1(i:e8 C)(j:xj C)(l:yx C)(h:xl V X)(g:eI V)(c:∀k∈X,dX k.af):
 ∃a,j7 V (ts V) X a/\(∀gs,a=aa gs->bH V (gK V X) gs/\iL gs=ab)/\PR C 25 [.agg (cP ab T V),eS F (cF ab) X] (D8 a):=by
 let⟨p,_,o⟩:=Ar h.nG;have e:=Cc h.kK h.val g c h.EE;have d:=Au h.val h.form;have r:=h.nG.facts;let⟨a,f,m⟩:=VV e.v (ts V) d (VW (by omega));have n:xk V X=true:=by
  rw[xk,h.form,h.eo,yw.2 h.val]<;>rfl
 refine⟨a,f,m,kX i j l (T:=T) (F:=F) (bC:=false) V X g (by unfold Sm;omega) c (D8 a) (λb=>by rw[n]at b;cases b) λ_=>?_⟩;exact⟨o,p,EA h.nG h.val,λb=>absurd h.EE b,λ_ b=>absurd h.str b,λ_ _=>⟨_,a,e,d,by omega,f,rfl⟩⟩
theorem ao2{gs:List S}(h:gV P.ai X gs):gb V X H P=gb V gs H P:=by
 have c:∀b:List S,b.filter (j6 V P)=(b.filter λa=>a.ai==P.ai).filter (j6 V P):=by
  intro b;rw[I1]
  congr 1
  funext a
  unfold j6;cases a.ai==P.ai<;>simp
 have d:X.filter (j6 V P)=gs.filter (j6 V P):=by
  rw[c X,c gs];exact congrArg (List.filter (j6 V P)) h
 have e:∀H,sf V X H P=sf V gs H P:=λH=>by
  unfold sf ym;simp only[h.find]
 unfold gb;rw[d,e]
theorem ao3{gs:List S}{r:aD}(h:∀a∈r.ah,gV a.ai X gs):ik V X r=ik V gs r:=by
 have b:tf V X r.ah=tf V gs r.ah:=by
  funext d e
  unfold tf;split;rename_i a c
  congr 1
  funext b
  exact ao2 (h a (qj c));rfl
 unfold ik;rw[b]
theorem Zu{gs:List S}(h:∀r∈V.ak,il cq r=ad->∀g∈r.ah,gV g.ai X gs):fC V cq X=fC V cq gs:=by
 have key:∀(a:List aD)(_:∀r∈a,r∈V.ak)(out:List S),a.foldl (ky V cq X) out=a.foldl (ky V cq gs) out:=by
  intro a;induction a with
  |nil=>simp
  |cons r a f=>
   intro b out;have c:ky V cq X out r=ky V cq gs out r:=by
    unfold ky;split;rename_i d;unfold lC;rw[ao3 (h r (b r (by simp)) d)];rfl
   rw[ni,ni,c];exact f (λi e=>b i (by simp[e])) _
 exact key V.ak (λ_ h=>h) []
theorem Cj:∀{c d:List S},c.Pairwise (λi j=>cm i j<0)->d.Pairwise (λi j=>cm i j<0)->(∀x,x∈c<->x∈d)->c=d
 |[],[],_,_,_=>rfl
 |[],e::d,_,_,h=>by have:=(h e).2 (by simp);cases this
 |x::c,[],_,_,h=>by have:=(h x).1 (by simp);cases this
 |x::c,e::d,f,g,h=>by
  rw[AE]at f g;have k:∀a:S,¬cm a a<0:=λa b=>by
   have:=(oi a a).2 ⟨rfl,rfl⟩;omega
  have l:x=e:=by
   rcases b5.1 ((h x).1 (by simp))with h1|h1;exact h1;rcases b5.1 ((h e).2 (by simp))with h2|h2;exact h2.symm;exact absurd (zK _ _ _ (f.1 e h2) (g.1 x h1)) (k x)
  subst l
  congr 1
  refine Cj f.2 g.2 λa=>⟨λb=>?_,λb=>?_⟩;rcases b5.1 ((h a).1 (by simp[b]))with rfl|h1;exact absurd (f.1 a b) (k a);exact h1;rcases b5.1 ((h a).2 (by simp[b]))with rfl|h1;exact absurd (g.1 a b) (k a);exact h1
theorem Zv(v:lU V){gs:List S}(i:bH V aP X)(n:bH V aP gs)(h:en V X gs)(u:en V gs X):∀c∈X,c∈gs:=by
 intro c d;let⟨g,e,f,s,t⟩:=h c d;let⟨a,w1,y,w,x⟩:=u g e;have j:=DT i.dF a w1 c d (y.trans f) (w.trans s);subst j;have j:g.aj=a.aj:=by
  rcases b:dB V a.ai with _|l;rw[(i.ok a d).none b,(n.ok g e).none (by grind)];let⟨z,o,p⟩:=mm ((i.ok a d).aj l b);let⟨A,q,r⟩:=mm ((n.ok g e).aj l (by rw[f];exact b));have k:=t l b;have m:=x l (by rw[f];exact b);rw[o,q]at k m⊢;rw[Hj (v l (vt b)) r p m k]
 have:g=a:=by
  cases g;cases a
  simp_all
 grind
theorem EF(d:lU V){gs:List S}(a:bH V aP X)(b:bH V aP gs)(h:en V X gs)(c:en V gs X):X=gs:=
 Cj (nK.1 a.dF) (nK.1 b.dF) λe=>⟨Zv d a b h c e,Zv d b a c h e⟩
def fe(a:List Int)(c:List S):List S:=c.filter λb=>a.contains b.ai
theorem gW:b3∈fe cq X<->b3∈X/\b3.ai∈cq:=by
 simp[fe]
theorem bH.part(h:bH V aP X)(a:List Int):bH V aP (fe a X):=
 ⟨nK.2 ((nK.1 h.dF).filter _),λb c=>h.ok b (gW.1 c).1⟩
def NJ(c:D)(a:List Int):Prop:=∀r∈c.ak,il a r=ad->∀b∈r.ah,jF b=ad->b.ai∉a
theorem gV.symm{gs:List S}(h:gV f X gs):gV f gs X:=Eq.symm h
theorem Zw(d:e9 V aP)(c:bH V aP X):en V X (im V cq X)/\∀e∈fC V cq X,ng V (im V cq X) e:=
 Av d.aN (fC V cq X) (λb a=>(c.ok b a).aj) λb a=>((om d c cq).1.ok b a).aj
theorem ao4(b:e9 V aP)(C:uF V)(u:NJ V cq){r:Option (List S)}(h:p5 V cq U X r)(c:bH V aP X)(t:∀a∈X,a.ai∈cq->tF V (fC V cq X) a):
 ∀gs,r=aa gs->fe cq gs=fC V cq gs:=by
 induction h with
 |over U X h=>grind
 |stop U X h q=>
  intro gs y;cases y
  have n:=(om b c cq).1;refine EF b.aN (c.part cq) n (λa f=>t a (gW.1 f).1 (gW.1 f).2) λa f=>?_;have i:=(Zw b c).2 a f;rw[q]at i;have H:vK V (fC V cq X):=(Ir (Q:=λout=>bH V aP out/\vK V out) ⟨.nil V aP,by intro a c;cases c⟩ λr k j out p=>by
   have v:=uo b c k (yH j);exact⟨wV b.aN _ p.1 v,Ci b.aN _ (λe d=>(p.1.ok e d).aj) (λe d=>(v e d).aj) p.2⟩).2
  let⟨g,z,s,A,B⟩:=i.resolve_left (H a f);exact⟨g,gW.2 ⟨z,by rw[s];exact NF a f⟩,s,A,B⟩
 |next U X r h q I G=>
  have i:=(zT b c cq).1;have E:yI V cq X (im V cq X):=λr k j o m l=>⟨u r k j o m l,(NG (u r k j o m l)).symm⟩;have n:=ND b C c i (Zw b c).1 λr k j o m l=>(E r k j o m l).2;have w:=(om b c cq).1;have x:=(om b i cq).1;refine G i (Ip b.aN x.dF (λe d=>(x.ok e d).aj) _ (λe d=>(c.ok e d).aj) (λe d=>(w.ok e d).aj) (λa f F=>?_) λa f _=>.inr (n a f));exact(t a f F).trans (λe d=>(w.ok e d).aj) n
inductive qg(n:Nat)(D:cA):(Nat->Bool)->List (List Nat)->Prop
 |nil (done:Nat->Bool):qg n D done []
 |cons (done:Nat->Bool) (g:List Nat) (L:List (List Nat)) (h1:∀x∈g,x<n/\done x=ab) (h2:∀x∈g,∀b,b<n->D x b=ad->done b=ad\/b∈g) (h3:∀x∈g,∀y∈g,cQ D x y=ad)
  (done':Nat->Bool) (h4:∀b,b<n->(done' b=ad<->done b=ad\/b∈g)) (t:qg n D done' L):qg n D done (g::L)
variable{cX:cA}
theorem NK(h:cQ cX U N=ad):cQ cX N U=true:=by
 grind[cQ]
theorem Iv(b:∀U N z,cX U N=ad->cX N z=ad->cX U z=ad)(h:cQ cX U N=ad)(a:cQ cX N z=ad):cQ cX U z=true:=by
 grind[cQ]
theorem Zx(j:∀a b f,cX a b=ad->cX b f=ad->cX a f=ad):∀(k:Nat){done:Nat->Bool},(∀a b,a<U->b<U->cQ cX a b=ad->done a=ad->done b=ad)->qg U cX done (kz U cX k done)
 |0,done,_=>.nil _
 |k+1,done,r=>by
  rw[kz];split;exact .nil _;rename_i a l;let⟨i,g,_⟩:=yW.1 l;have g:a<U:=by simpa using g
  simp only[mV,bc,gZ,eL,iw,hX]at i;have m:∀c,c∈(ay U).filter (cQ cX a)<->c<U/\cQ cX a c=true:=by simp
  refine .cons _ _ _ (λc d=>?_) (λc d b h t=>?_) (λc d o n=>?_) (λb=>done b||cQ cX a b) (λb h=>?_) (Zx j k λc o d n u s=>?_);grind[NK];let⟨p,e⟩:=(m c).1 d;have q:cX a b=ad\/cQ cX a b=true:=by
   simp only[cQ,hX,beq_iff_eq,bc]at e;rcases e with rfl|e;grind;grind
  grind;grind[Iv,NK];simp[h];grind[Iv]
theorem NL{e:List K->bZ->List K}{Q:bZ->K->Prop}(h:∀d x a,a∈e d x<->a∈d\/Q x a):∀(c:List bZ)(b:List K)(a:K),a∈c.foldl e b<->a∈b\/∃x∈c,Q x a
 |[],b,a=>by simp
 |x::c,b,a=>by
  rw[ni,NL h c,h];grind
theorem Zy{a:Edge}:a∈kM V<->∃r∈V.ak,∃c∈r.ah,nJ V r c=ad/\a=((r.ai,c.ai),jF c):=by
 have e:∀r b d(a:Edge),a∈j3 V r b d<->a∈b\/(nJ V r d=ad/\a=((r.ai,d.ai),jF d)):=by grind[j3]
 have f:∀b r(a:Edge),a∈p2 V b r<->a∈b\/∃c∈r.ah,nJ V r c=ad/\a=((r.ai,c.ai),jF c):=λb r a=>NL (e r) _ b a;have:=NL f V.ak [] a;grind[kM]
theorem NM:p3 V U N=ad<->∃a∈kM V,a.1.1=U/\a.1.2=N:=by
 simp[p3,qS]
theorem Zz(a b:Nat)(h:p3 V a b=ad):a<Z V.Q/\b<Z V.Q:=by
 let⟨c,d,e,f⟩:=NM.1 h;have:=BG c d;omega
theorem ZA(d:D):∀a b c,c4 d a b=ad->c4 d b c=ad->c4 d a c=true:=by
 intro a b c e f;rw[c4,G1 Zz]at*;exact e.trans f
theorem Iw(a:D):qg (Z a.Q) (c4 a) (λ_=>ab) (fa (Z a.Q) (c4 a)):=
 Zx (ZA a) _ (by simp)
variable{fk:List (List Nat)}
theorem qg.later{done:Nat->Bool}(h:qg U cX done fk):∀g∈fk,∀a∈g,a<U/\done a=false:=by
 induction h with
 |nil=>simp
 |cons done g fk c d e b f j i=>
  grind
theorem NN{r:Option (List S)}(h:p5 V cq U X r)(c:f∉cq):∀gs,r=aa gs->gV f gs X:=by
 induction h with
 |over U X h=>grind
 |stop U X h b=>intro gs a;cases a;rfl
 |next U X r h b e d=>exactλgs a=>(d gs a).trans (NG c)
theorem EG:∀{e:List (List Int)}{d:List S}{r:Option (List S)},j7 V e d r->∀{a:Int},(∀c∈e,a∉c)->∀gs,r=aa gs->gV a gs d
 |[],d,r,h,a,_=>by cases h;intro gs b;cases b;rfl
 |c::e,d,r,h,a,g=>by
  intro gs b;cases h with
  |none _ _ i _ h=>cases b
  |cons _ _ i _ f _ h j=>exact(EG j (by grind) gs b).trans (NN h (g c (by simp)) f rfl)
theorem ao5(h:qT V=[]):∀r∈V.ak,∀d∈r.ah,lf V r d=false:=by
 have key:∀(a:List aD){b:List (Int×Int)},a.foldl (p4 V) b=[]->b=[]/\∀r∈a,∀d∈r.ah,lf V r d=false:=by
  intro a;induction a with
  |nil=>simp
  |cons r a e=>
   intro b h;rw[ni]at h;let⟨c,f⟩:=e h;unfold p4 at c;split at c;simp at c;grind
 exact(key V.ak h).2
theorem ao6{r:aD}(d:r∈V.ak)(c:P∈r.ah)(a:r.ai=U)(b:P.ai=N)(e:U<Z V.Q)(f:N<Z V.Q)(g:P.ax≠5):c4 V U N=true:=by
 rw[c4,DL];exact .hv _ _ (NM.2 ⟨_,Zy.2 ⟨r,d,P,c,by grind[nJ,ep],rfl⟩,a,b⟩)
def uH(d:D)(a:List Int)(c:List S):Prop:=∀b∈c,b.ai∉a
theorem NO(j:e9 V aP){done:Nat->Bool}{g:List Nat}(l:∀b∈g,b<Z V.Q/\done b=ab)(m:∀b∈g,∀a,a<Z V.Q->c4 V b a=ad->done a=ad\/a∈g){r:aD}(k:r∈V.ak)(h:il (g.map cu) r=ad)(i:P∈r.ah):
 P.ai= -1\/∃a:Nat,a<Z V.Q/\P.ai=a/\(done a=ad\/a∈g):=by
 have d:=(j.iS r k).lits P i;by_cases c:P.ax=5;exact .inl (d.cmp c).2;let⟨a,f,e,_⟩:=d.ai c;refine .inr ⟨a,f,e,?_⟩;simp only[il,bc,decide_eq_true_eq,OK,cy]at h;grind[ao6]
theorem NP(n:e9 V aP)(d:qT V=[]){g:List Nat}(h:∀a∈g,a<Z V.Q)(i:∀a∈g,∀f∈g,cQ (c4 V) a f=ad):NJ V (g.map cu):=by
 intro r c l e b j m;have k:=ao5 d r c e b;grind[il,jF,lf,nJ,ep,He,cQ]
theorem EH{g:List Nat}:(U:Int)∈g.map cu<->U∈g:=by
 grind
theorem ao7(k:e9 V aP)(L:uF V)(R:qT V=[]){done:Nat->Bool}(T:qg (Z V.Q) (c4 V) done fk):
 ∀{j c:List S},j7 V (fk.map (·.map cu)) j (aa c)->bH V aP j->∀g∈fk,uH V (g.map cu) j->fC V (g.map cu) c=fe (g.map cu) c:=by
 induction T with
 |nil=>grind
 |cons done g fk o E F W G B U=>
  intro j c A y i l z;rw[eg]at A;cases A with
  |cons _ _ am _ gs _ h u=>
   let⟨t,ah,_,af⟩:=ED k h y gs rfl;rcases b5.1 l with rfl|l;have N:=NP k R (λm v=>(o m v).1) F;have ak:=ao4 k L N h y (λd s f=>absurd f (z d s)) gs rfl;have later:∀a:Nat,a<Z V.Q->(done a=ad\/a∈i)->∀n∈fk.map (·.map cu),(a:Int)∉n:=by
    intro a e x n f H;obtain⟨C,I,rfl⟩:=cy.1 f;have:=(B.later C I a (EH.1 H)).2;rw[(G a e).2 x]at this;cases this
   have q:∀a:Nat,a<Z V.Q->(done a=ad\/a∈i)->gV (a:Int) c gs:=by grind[EG]
   have X:=Zu λr P J w K=>by
    rcases NO k o E P J K with b|⟨a,e,b,x⟩;rw[b];refine EG u (λn f aj=>?_) c rfl;grind;grind
   have Y:fe (i.map cu) c=fe (i.map cu) gs:=by
    have M:=(Iu k u t c rfl).1;refine Cj (nK.1 (M.part _).dF) (nK.1 (t.part _).dF) λm=>?_;rw[gW,gW];refine and_congr_left λv=>?_;let⟨a,e,b⟩:=cy.1 v;have b:=b.symm;have:=q a (o a e).1 (.inr e);have p:∀w:List S,m∈w<->m∈w.filter λd=>d.ai==(a:Int):=by simp[b]
    rw[p c,p gs,show c.filter _=gs.filter _ from this]
   grind;refine U u t i l λd s f=>?_;let⟨a,e,b⟩:=cy.1 f;have b:=b.symm;let⟨p,ac⟩:=B.later i l a e;have O:(a:Int)∉g.map cu:=by grind
   have q:=NN h O gs rfl;have:d∈gs.filter λd=>d.ai==(a:Int):=by simp[s,b]
   rw[show gs.filter _=j.filter _ from q]at this;exact z d (by grind) f
def Ix(g:D)(e:Int)(f:List aG):Prop:=∀c,g.Q[e.toNat]?=aa c->∀(a:Nat)(d:aG)(b:Int),f[a]?=aa d->c.aZ[a]?=aa b->d.ty=b
def qh(f:d->Int)(a:bb):Prop:=∀(b:Nat)(e:d)(c:aG),a.aA[b]?=aa e->a.bF[b]?=aa c->c.ty=f e
variable{dO:d -> Int}
theorem qh.get(h:qh dO H)(j:Z H.bF=Z H.aA)(c:known H.aA bQ=ad):(cD H bQ).1.ty=ek dO bQ:=by
 unfold ek cD;by_cases a:bQ.aE=[];simp[a];rw[if_neg a,if_neg a];have k:bQ.aE∈H.aA:=by
  simp only[known,hX,beq_iff_eq,decide_eq_true_eq]at c;exact c.resolve_left a
 rcases e:H.aA.findIdx? (λf=>f==bQ.aE)with _|i;grind;let⟨g,b,_⟩:=qm.1 e;have b:H.aA[i]=bQ.aE:=by simpa using b
 simp only;rw[pz,bu (by omega)];exact h i bQ.aE _ (by grind) (bu (by omega))
theorem qh.put(h:qh dO H)(g:Z H.bF=Z H.aA)(j:bQ.aE≠[])(i:jt.ty=ek dO bQ):qh dO (gL H bQ jt):=by
 intro c f w b a;simp only[gL]at b a;by_cases e:c<Z H.aA;rw[oA e]at b;rw[oA (by omega)]at a;exact h c f w b a;grind[ek]
variable{p:List d}
theorem NQ(h:known p bQ=ab):bQ.aE≠[]:=by
 simp_all[known]
theorem qh.gM:∀(e:List aJ)(vs:List aG){b g:bb},Z b.bF=Z b.aA->qh dO b->(∀(c:Nat)(t:aJ)(f:aG),e[c]?=aa t->vs[c]?=aa f->f.ty=ek dO t)->AM.gM b e vs=aa g->qh dO g
 |[],vs,b,g,_,h,_,a=>by
  simp only[AM.gM,e1]at a;exact a▸h
 |t::e,[],b,g,_,h,_,a=>by simp[AM.gM]at a
 |t::e,f::vs,b,g,i,h,k,a=>by
  rw[AM.gM]at a;have l:∀(c:Nat)(t:aJ)(f:aG),e[c]?=aa t->vs[c]?=aa f->f.ty=ek dO t:=λc m n o p=>k (c+1) m n (by grind) (by grind);split at a;split at a;exact qh.gM e vs i h l a;cases a
  rename_i j;rw[nL,yV]at j;refine qh.gM e vs (by simp[gL,i]) (h.put i (NQ j) ?_) l a;exact k 0 t f (by simp) (by simp)
structure ZB(p:D)(r:aD)(τ:d->Int):Prop where
 head:0<=r.ai->∀x∈lX p r.ai r.af,ek τ x.1=x.2
 lit:∀l∈r.ah,0<=l.ai->∀x∈lX p l.ai l.af,ek τ x.1=x.2
 eq:∀l∈r.ah,l.ax=5->∀a b,l.af=[a,b]->ek τ a=ek τ b
theorem ao9(h:iW V){r:aD}(k:r∈V.ak):∃g,ZB V r g:=by
 have o:V.aO=V.aO.map (eK V):=congrArg D.aO h.2.2.2;have p:V.Q=V.Q.map (ew V):=congrArg D.Q h.2.2.2;have l:=congrArg D.ak h.2.2.2;have n:ee V []=⟨V.aw,V.aO,V.Q,[]⟩:=by
  show(⟨V.aw,V.aO.map (eK V),V.Q.map (ew V),[]⟩:D)=_;grind
 have m:=Aq l r k;let⟨_,_,_,⟨g,b⟩,_⟩:=h.2.2.1 r k;rw[m,n]at b;simp only[wX,wZ,w2,dm,cy,dU,uJ]at b;refine⟨g,λc a e=>?_,λf d c a e=>?_,λf d s i j q=>?_⟩;exact b (.ty a.1 a.2) (.inl ⟨a,.inl (by rw[BR,if_pos c];exact e),rfl⟩);exact b (.ty a.1 a.2) (.inl ⟨a,.inr ⟨_,⟨f,d,rfl⟩,by rw[jT,if_pos c];exact e⟩,rfl⟩);exact b (.eq i j) (.inr ⟨(i,j),⟨_,⟨f,d,rfl⟩,by grind[si]⟩,rfl⟩)
variable{mC:List aJ}
theorem ZC(h:∀a∈lX V f mC,ek dO a.1=a.2)(b:V.Q[f.toNat]?=aa oL)(e:mC[U]?=aa bQ)(c:oL.aZ[U]?=aa b9):ek dO bQ=b9:=by
 apply h (bQ,b9);unfold lX;rw[b];apply qj (i:=U);grind
theorem qh.ext{r:aD}(q:ZB V r dO)(E:bH V aP X)(x:∀e∈X,Ix V e.ai e.af)(o:P∈r.ah)(y:DV V r P)(f:Z H.bF=Z H.aA)(h:qh dO H)(b:fE∈gb V X H P):qh dO fE:=by
 unfold gb at b;split at b;rename_i g;let⟨e,j,b⟩:=xr.1 b;obtain⟨J,z,rfl⟩:=dj.1 b;let⟨j,p⟩:=l4.1 j;have G:e.ai=P.ai:=by
  simp only[j6,bc,beq_iff_eq]at p;exact p.1
 have l:=h.gM _ _ f (λk I A a u=>by
  have i:P.ax≠5:=by
   intro i;simp[i]at g
  let⟨c,C,t,B⟩:=y.ai i;have w:V.Q[P.ai.toNat]?=aa V.Q[c]:=by rw[t];simp
  let⟨F,_⟩:=fM.1 a;have n:V.Q[c].aZ[k]?=aa (V.Q[c].aZ[k]'(by omega)):=bu _;rw[ZC (q.lit P o (by omega)) w a n];exact x e j _ (by grind) k A _ u n) z
 unfold kv;split;exact l;exact l;split at b;simp only[l5]at b;subst b;unfold kP;split;rename_i c s v;split;rename_i g;simp only[bc,beq_iff_eq]at g;have m:=q.eq P o g.1 c s v;split;rename_i a;simp only[bc,gZ]at a;rw[nL,nL]at a;exact h.put f (NQ a.2) ((h.get f a.1).trans m);split;rename_i a;simp only[bc,gZ]at a;rw[nL,nL]at a;exact h.put f (NQ a.2) ((h.get f a.1).trans m.symm);exact h;exact h
 exact h;cases b
theorem ZD(d:e9 V aP)(A:iW V)(f:bH V aP X)(z:∀a∈X,Ix V a.ai a.af){r:aD}(b:r∈V.ak)(s:0<=r.ai):∀a∈lC V X r,Ix V a.ai a.af:=by
 intro a x;obtain⟨c,g,rfl⟩:=cy.1 x;let⟨G,p⟩:=ao9 A b;have o:=d.iS r b;have k:=DW o (d.safe r b) (f.meet d b) (λa h=>(f.ok a h).aj) c g;have n:=d.safe r b;simp only[uf,bc]at n;let⟨K,m⟩:=sH.1 n.1.1;rw[DU m]at g;have key:=VP (f.meet d b) (λ_ c=>qh G c) (λdone H c F q B e i j t u I v w=>by
  have l:=qj e;exact qh.ext p f z l (o.lits B l) (by rw[u,t]) v w) (Hn m).1 e0 rfl rfl (by simp[e0]) (λq F E h=>by simp[e0]at h) c g
 intro L y q E J e i;simp only[kO,j4,sK,dj]at e;obtain⟨C,j,rfl⟩:=e;rw[key.1.get k.len (k.aA C (by grind))];exact ZC (p.head s) y j i
theorem apa{Q:List S->Prop}(h:∀d a,Q a->Q (im V d a)):∀{f:List (List Int)}{a:List S}{c:Option (List S)},j7 V f a c->Q a->∀e,c=aa e->Q e:=by
 have m:∀{d b a c},p5 V d b a c->Q a->∀e,c=aa e->Q e:=by
  intro d b a c g;induction g with
  |over b a h=>grind
  |stop b a h i=>grind
  |next b a r j i l k=>grind
 intro f a c g;induction g with
 |nil a=>grind
 |none d f b a h=>grind
 |cons d f b a gs r j l k=>grind
structure sB(p:D)(cd:List aG)(fs:List S):Prop where
 v:bH p cd fs
 ty:∀f∈fs,Ix p f.ai f.af
 nb:vK p fs
theorem apb(a:e9 V aP)(k:iW V)(b:List Int)(h:sB V aP X):sB V aP (im V b X):=by
 have j:=(om a h.v b).1;exact⟨(zT a h.v b).1,Ch _ h.ty (Is λr i g e f=>ZD a k h.v h.ty i (yH g) e f),Ci a.aN _ (λd c=>(h.v.ok d c).aj) (λd c=>(j.ok d c).aj) h.nb⟩
theorem ZE(r:iW V)(q:∀s∈aP,nE s=ad)(h:sB V aP X):hP V X=true:=by
 unfold hP;rw[eL];intro e a;have a:e<Z X:=by simpa using a
 have b:=bp a;rw[mT,bu a];simp only[bc];refine⟨?_,?_⟩;let⟨d,i,f,t⟩:=(h.v.ok _ b).fG;have o:V.Q[X[e].ai.toNat]?=aa V.Q[d]:=by rw[f];simp
 unfold qU;rw[o];simp only[bc,decide_eq_true_eq,vq,beq_iff_eq,eL,iw];refine⟨by omega,⟨by omega,λc j=>?_⟩,?_⟩;have l:V.Q[d].aZ[c]?=aa (V.Q[d].aZ[c]'(by omega)):=bu _;unfold uj;rw[bu j,l];simp only[bc,beq_iff_eq];exact⟨q _ ((h.v.ok _ b).cd _ (bp j)),h.ty _ b _ o c _ _ (bu j) l⟩;unfold vo;split;rename_i k;have:=(h.v.ok _ b).none (by rw[uE,f,yF i,if_pos k]);simp[this];rename_i k;have u:=Ih r _ (bp i)
 have m:V.Q[d].of.toNat<Z V.aw:=by omega
 rw[bu m];have n:dB V X[e].ai=aa V.aw[V.Q[d].of.toNat]:=by rw[uE,f,yF i,if_neg k,bu m]
 have g:=(h.v.ok _ b).aj _ n;simp only[eA,bc,decide_eq_true_eq]at g;simp only[bc,decide_eq_true_eq,bne_iff_ne,ne_eq];exact⟨g.1,g.2,λp=>h.nb _ b ⟨_,n,p⟩⟩;cases e with
 |zero=>rfl
 |succ c=>
  rw[vr,bu (by omega),bu a];simpa using h.v.dF c (c+1) (by omega) a (by omega)
theorem NR(q:iW V)(h:hP V X=ad):sB V (gK V X) X/\∀a∈X,∀e∈a.af,nE e=true:=by
 have o:=Au q h;rw[hP,eL]at h;have n:∀a∈X,qU V a=true:=by
  intro a b;obtain⟨c,i,rfl⟩:=kf.1 b;have:=h c (by grind);rw[mT,bu i]at this;simp only[bc]at this;exact this.1
 have m:∀a∈X,∃d,V.Q[a.ai.toNat]?=aa d/\(∀(c:Nat)(e:aG),a.af[c]?=aa e->nE e=ad/\∀j,d.aZ[c]?=aa j->e.ty=j)/\vo V d a=true:=by
  intro a b;have g:=n a b;simp only[qU,bc]at g;have f:=g.2;split at f;cases f
  rename_i d l;simp only[vq,bc,beq_iff_eq,eL,iw]at f;grind[uj]
 refine⟨⟨o,λa b d l c e j g f=>?_,λa b=>?_⟩,λa b e p=>?_⟩;grind;rintro⟨t,s,r⟩;let⟨d,l,_,k⟩:=m a b;simp_all[uE,hR,vo,if_neg,bc,decide_eq_true_eq,bne_iff_ne,ne_eq];obtain⟨c,i,rfl⟩:=kf.1 p;let⟨d,_,k,_⟩:=m a b;exact(k c _ (bu i)).1
theorem ZF(h:iJ bQ=ad)(a:bQ.aE=[]):nE bQ.const=true:=by
 grind[iJ]
theorem ZG(j:iW V)(h:∀f∈X,∀b∈f.af,nE b=ad):∀b∈gK V X,nE b=true:=by
 refine YM h (λr i e a d=>?_);have c:=(BT j.1).iS r i;simp only[jQ,dm,uJ,cy]at a;rcases a with a|⟨_,⟨k,g,rfl⟩,a⟩;exact ZF (c.Ab e a) d;exact ZF ((c.lit k g).Ab e a) d
theorem Iy(d:iW V){a:List (List Int)}(g:e9 V (gK V X))(h:hP V X=ad)(c:j7 V a X (aa gD)):hP V gD=ad/\sB V (gK V X) gD:=by
 let⟨b,e⟩:=NR d h;have f:=apa (by grind[gs,apb]) c b gD rfl;grind[ZE,ZG]
theorem NS(h:iW V){r:aD}(b:r∈V.ak)(j:U<Z V.Q)(e:r.ai=U):V.Q[U].eo=false:=by
 have f:V.aO=V.aO.map (eK V):=congrArg D.aO h.2.2.2;have g:V.Q=V.Q.map (ew V):=congrArg D.Q h.2.2.2;have d:ee V []=⟨V.aw,V.aO,V.Q,[]⟩:=by
  show(⟨V.aw,V.aO.map (eK V),V.Q.map (ew V),[]⟩:D)=_;grind
 have a:=Aq (congrArg D.ak h.2.2.2) r b;let⟨c,_,_⟩:=h.2.2.1 r b;rw[d]at a c;have i:r.ai=j8 ⟨V.aw,V.aO,V.Q,[]⟩ r:=(congrArg aD.ai a).symm;grind[j8,D6]
theorem NT(b:U<Z V.Q)(a:b3.ai=U):p8 V b3=V.Q[U].eo:=by
 grind[p8]
theorem ZI(h:c4 V U N=ad):∃r∈V.ak,r.ai=U:=by
 have key:∀a,p3 V U a=ad->∃r∈V.ak,r.ai=U:=λa h=>by
  let⟨b,d,c,_⟩:=NM.1 h;grind[Zy]
 rw[c4,G1 Zz]at h;cases h with
 |hv _ _ h=>grind
 |step _ a _ h e=>grind
theorem qg.th{done:Nat->Bool}(h:qg U cX done fk):∀g∈fk,∀a∈g,∀b∈g,cQ cX a b=true:=by
 induction h with
 |nil=>simp
 |cons done g fk d e f c i k j=>
  grind
theorem ZJ(h:xl V X){g:List Nat}(f:g∈fa (Z V.Q) (c4 V))(l:U∈g)(s:U<Z V.Q)(t:V.Q[U].eo=ab):uH V (g.map cu) X:=by
 intro c p o;let⟨a,d,b⟩:=cy.1 o;have b:c.ai=(a:Int):=b.symm;have i:=Iw V;have e:=(i.later g f a d).1;have n:=eL.1 h.eo c p;rw[NT e b]at n;by_cases m:a=U;grind;have j:=i.th g f a d U l;simp only[cQ,hX,beq_iff_eq,bc]at j;let⟨r,q,k⟩:=ZI (j.resolve_left m).1;have:=NS h.val q e k;grind
def xm(c:AV)(d:K->List AV)(e:Nat)(a:List K)(b:aL):Prop:=(a=[]/\c=.aq/\b=[])\/∃id g J,c=.q id g 0 (Z a)/\b=[(id,.arr g e (a.map d++J))]
variable{a7:K -> List AV}
theorem bB.j(h:bB E a7 U x k):xm E a7 U x k:=by
 rcases h with h|⟨id,g,a,b⟩;exact .inl h;exact .inr (by simp_all)
variable{dQ:AV}{lu:List K}
theorem xm.app{bytes:Nat}{F:aL}(h:xm E a7 U x k)(a:Holds M (k++F))(c:ij M U dQ=aa (lu.map a7))(e:(Z x+Z lu)*bytes<=2^47):
 ∃id g b,cJ U bytes E dQ M=aa (.q id g 0 (Z (x++lu)),b)/\Holds b ((id,.arr g U ((x++lu).map a7))::F):=by
 rcases h with⟨rfl,rfl,rfl⟩|⟨id,g,J,rfl,rfl⟩;exact⟨Z M,0,M++[.arr 0 U (lu.map a7)],pX (a7:=a7) (x:=lu) rfl c (by grind),Holds.alloc a _⟩;have d:=a.get (U:=id) (hL:=.arr g U (x.map a7++J)) (by simp);refine⟨id,g+1,M.set id (.arr (g+1) U ((x++lu).map a7)),?_,Holds.set (k:=F) a _⟩;grind[cJ,AV.isNil]
def IA(a:AV)(c:List S)(d:aL):Prop:=a.pl=a/\a.bU=ad/\∀b,Holds b d->ij b 3 a=aa (c.map (cF ab))/\gk .sl a b=aa (I (Z c))
theorem ape(a:Nat)(v:a<=1000000)(o:Holds M k):HR C 83 [.aq,I (a:Int)] M (λr l=>∃c,xm r (cF ab) 3 [] c/\Holds l (c++k)):=by
 apply SM.hq;apply aY rfl;have i:=o.alloc (.arr 0 3 []);refine kR (λe h=>e=[]/\h=M++[.arr 0 3 []]) (λs f=>?_) ?_;rw[A,O];refine b (λh=>?_) (by grind);grind;rintro e h ⟨rfl,rfl⟩;refine kR (λe h=>∃r c,(∃j,e=[r,j])/\xm r (cF ab) 3 [] c/\Holds h (c++k)) (λs f=>?_) ?_;refine aI (dR:=I 0) rfl (aI (dR:=I 0) rfl ?_);rw[nB (by omega) (by omega),O,nB (by omega) (by omega),O,eX,O];simp only[Int.sub_zero]
 refine b (λh=>?_) (λ_=>f _ _ ⟨.aq,[],⟨_,rfl⟩,.inl ⟨rfl,rfl,rfl⟩,by simpa using i.tail⟩);have u:0<a:=by
  have:(0:Int)<a:=by simpa using h
  omega
 refine aI (dR:=I 0) rfl (aI (dR:=.aq) rfl ?_);refine aY (dR:=.q (Z (M++[Obj.arr 0 3 []])) 0 0 a) (oK:=(M++[.arr 0 3 []])++[.arr 0 3 (db a [I 0,.aq,I 0])]) ?_ ?_;grind[C2];refine aI (dR:=I 0) rfl ?_;have p:((M++[Obj.arr 0 3 []])++[Obj.arr 0 3 (db a [I 0,.aq,I 0])])[Z (M++[Obj.arr 0 3 []])]?=aa (.arr 0 3 (db a [I 0,.aq,I 0])):=by simp
 refine aI (dR:=.q (Z (M++[Obj.arr 0 3 []])) 0 0 0) ?_ ?_;simp[fy,eO,p];exact f _ _ ⟨_,_,⟨_,rfl⟩,.inr ⟨_,0,_,rfl,rfl⟩,by simpa using(i.tail).alloc (.arr 0 3 (db a [I 0,.aq,I 0]))⟩;rintro e h ⟨r,c,⟨j,rfl⟩,m,n⟩;refine⟨c,?_,n⟩;simp only[G];rcases m with⟨_,rfl,rfl⟩|⟨id,g,J,rfl,rfl⟩;exact .inl ⟨rfl,rfl,rfl⟩;exact .inr (by simp)
theorem apf{F:aL}(U:IA E X F)(V:IA dQ gD F)(T:Z X+Z gD<=1000000)(N:Holds M F):
 HR C 34 [.sl ab [[E],[dQ]]] M (λr B=>∃id g,r=.q id g 0 (Z (X++gD))/\Holds B ((id,.arr g 3 ((X++gD).map (cF ab)))::F)):=by
 refine R1.hq ?_;refine aY rfl ?_;have l:=(N.alloc (.arr 0 3 [])).tail;generalize M++[Obj.arr 0 3 []]=D at l;refine aI (dR:=I 2) rfl ?_;have v:∀f,bT 1 (.sl ab [[E],[dQ]]) (I 0) f=aa (.aH ab [E] 0):=λ_=>rfl;have w:∀f,bT 1 (.sl ab [[E],[dQ]]) (I 1) f=aa (.aH ab [dQ] 0):=λ_=>rfl;obtain⟨ax,az,y⟩:=U;obtain⟨aA,aE,z⟩:=V
 refine eC (U:=2) (c:=λc=>[I (if c=0 then 0 else if c=1 then(Z X:Int)else Z X+Z gD),I c]) (λ_=>True) trivial rfl (λc ah _ J ai=>?_) (λ_ J=>?_);simp only[i,G,A,O];refine b (λ_=>?_) (by grind);refine kR (λu h=>(∃x,u=[I (if c+1=1 then(Z X:Int)else Z X+Z gD),x])/\h=D) (λam aj=>?_) ?_;have s:c=0\/c=1:=by omega
 rcases s with rfl|rfl;refine aI (v _) (aI (dR:=E) rfl (aI (y _ l).2 ?_));rw[if_pos rfl,xS (by omega) (by omega),O,A,O];refine b (λh=>?_) (by grind);grind;refine aI (w _) (aI (dR:=dQ) rfl (aI (z _ l).2 ?_));rw[if_neg (by omega),if_pos rfl,xS (by omega) (by omega),O,A,O];refine b (λh=>?_) (by grind);grind;rintro u h ⟨⟨x,rfl⟩,rfl⟩;rw[a6,O];simp_all;simp only[i,G,A,O];refine bz ?_
 have ak:I (Z X+Z gD:Int)=I ((Z X+Z gD:Nat):Int):=by simp
 apply c7 (ape (Z X+Z gD) T l) rfl;rintro r H ⟨k,m,af⟩;apply aI (dR:=I 2) rfl;apply bG (K:=Nat×AV×List Obj) (λa=>[a.2.1,I a.1]) (λa=>a.2.2) (λa=>2 -a.1) (λa=>(a.1=0/\∃k,xm a.2.1 (cF ab) 3 ([]:List S) k/\Holds a.2.2 (k++F))\/(0<a.1/\a.1<=2/\∃id g,a.2.1=.q id g 0 (Z (if a.1=1 then X else X++gD))/\Holds a.2.2 ((id,.arr g 3 ((if a.1=1 then X else X++gD).map (cF ab)))::F))) (0,r,H) (by grind)
 rintro⟨c,u,f⟩ P Y t;simp only[i,G,A,O]at t⊢;rcases P with⟨rfl,k,m,d⟩|⟨Q,R,id,g,n,d⟩;refine a8 ?_;refine aI (v _) (aI (dR:=E) rfl ?_);let⟨id,g,o,p,K⟩:=m.app (bytes:=40) (lu:=X) d (y _ d.sub).1 (by simp;omega);apply aY p;have:=t (1,.q id g 0 (Z X),o) (by grind) (by simp);grind[xS,O];have s:c=1\/c=2:=by simp at Q R;omega
 rcases s with rfl|rfl;refine a8 ?_;refine aI (w _) (aI (dR:=dQ) rfl ?_);simp only[if_true]at n d;subst n;have m:xm (.q id g 0 (Z X)) (cF ab) 3 X [(id,.arr g 3 (X.map (cF ab)))]:=bB.of.j;let⟨W,L,o,p,K⟩:=m.app (bytes:=40) (lu:=gD) (F:=F) d (z _ d.tail).1 (by omega);apply aY p;have:=t (2,.q W L 0 (Z (X++gD)),o) (by grind) (by simp);grind[xS,O];refine bz ?_;simp only[Nat.reduceEqDiff,if_false]at n d
 subst n;exact⟨id,g,rfl,d⟩
theorem apg(Ap:∀T M,C 30 [.sl T []] M (.q (Z M+1) 0 0 0) (M++[.arr 0 3 [],.arr 0 3 []]))(a:List S)(h:Z a<=1000000)(b:Holds M k):HR C 30 [eS T (cF ab) a] M (λr d=>∃id g,r=.q id g 0 (Z a)/\Holds d ((id,.arr g 3 (a.map (cF ab)))::k)):=by
 rcases a with _|⟨c,a⟩;refine⟨_,_,Ap T M,Z M+1,0,rfl,?_⟩;have:=(b.alloc (.arr 0 3 [])).tail.alloc (.arr 0 3 []);grind;apply S8.hq;simp only[ft,e3];apply aI (dR:=ff) rfl;simp only[c3,eZ,if_false];apply aY (pX (a7:=cF ab) (x:=c::a) rfl (vh (fR ab) _ _ _) (by omega));refine⟨_,0,rfl,?_⟩;have:=(b.alloc (.arr 0 3 [])).tail.alloc (.arr 0 3 ((c::a).map (cF ab)));omega
theorem ZK(d:K->Bool)(a:List K):(b1 d a= -1/\∀e∈a,d e=ab)\/∃(b:Nat)(h:b<Z a),b1 d a=(b:Int)/\d a[b]=ad/\∀e∈a.take b,d e=false:=by
 by_cases h:∃b,∃h:b<Z a,d a[b]=ad/\∀c(k:c<Z a),c<b->d a[c]=ab;let⟨b,g,f,i⟩:=h;refine .inr ⟨b,g,tX g i f,f,λe l=>?_⟩;grind[List.getElem_of_mem];have j:∀c(k:c<Z a),d a[c]=false:=by
  intro c;induction c using Nat.strongRecOn with
  |ind c m=>
   grind
 refine .inl ⟨wq j,λe l=>?_⟩;grind[List.getElem_of_mem]
abbrev ZL(a:Bool)(b:List Int):AV:=.fn 27 [] [.aH ad [eS a cI b] 0]
abbrev aph(a:Bool)(b:List Int):AV:=.fn 31 [] [.aH ad [ZL a b] 0]
theorem ZM(h:M[U]?=aa (.arr 0 1 [[eS T cI cq]])):aM M .cb (.ptr U 0 0 0) (.aH ad [eS T cI cq] 0):=
 .oU _ _ _ _ _ _ _ _ h rfl (.cons _ _ _ _ _ (Im.snap (by simp)) (.nil _))
theorem ZN(h:M[U]?=aa (.arr 0 1 [[eS T cI cq]]))(a:M[N]?=aa (.arr 0 1 [[.fn 27 [] [.ptr U 0 0 0]]])):aM M .cb (.ptr N 0 0 0) (.aH ad [ZL T cq] 0):=
 .oU _ _ _ _ _ _ _ _ a rfl (.cons _ _ _ _ _ (.fn _ _ _ _ _ _ (.nil _) (.cons _ _ _ _ _ (ZM h) (.nil _))) (.nil _))
variable{b0:List (List AV)}
theorem api{id g:Nat}(h:M[id]?=aa (.arr g 3 b0))(i:U<Z b0)(j:∀b∈b0,Z b=3):dp 3 (.ptr id g U 0) (.agg (cF ab b3)) M=aa (M.set id (.arr g 3 (b0.set U (cF ab b3)))):=by
 have c:Z (b0[U])=3:=by grind
 have f:(AV.agg (cF ab b3)).pl.cells=cF ab b3:=rfl;have d:(cF ab b3).all AV.bU=true:=rfl;have a:Z (cF ab b3)=3:=rfl;simp only[dp,f,d,a,h,bu i,c];simp only[true_and,if_true,e,c5]
 congr 3
 simp only[eV,aaD,dK,a,e];rw[arX (by omega)];simp
theorem apj(X:Sm cq)(c:List S)(cs:Z c<=1000000){id g:Nat}(u:Holds M ((id,.arr g 3 (c.map (cF ab)))::(N,.arr 0 1 [[.fn 27 [] [.ptr U 0 0 0]]])::(U,.arr 0 1 [[eS T cI cq]])::k)):
 HR C 29 [.q id g 0 (Z c),.fn 31 [] [.ptr N 0 0 0]] M (λr af=>∃J,r=.q id g 0 (Z (c.filter λj=>cq.contains j.ai))/\Holds af ((id,.arr g 3 ((c.filter λj=>cq.contains j.ai).map (cF ab)++J))::(N,.arr 0 1 [[.fn 27 [] [.ptr U 0 0 0]]])::(U,.arr 0 1 [[eS T cI cq]])::k)):=by
 refine Rc.hq ?_;have W:=u.get (U:=id) (hL:=.arr g 3 (c.map (cF ab))) (by simp);have a0:=u.get (U:=N) (hL:=.arr 0 1 [[.fn 27 [] [.ptr U 0 0 0]]]) (by simp);have a2:=u.get (U:=U) (hL:=.arr 0 1 [[eS T cI cq]]) (by simp)
 refine e4 _ (TI (T:=true) (F:=false) (E:=aph T cq) (b:=λj=> !cq.contains j.ai) rfl c (by grind[Sm]) (λw _=>⟨31,_,rfl,Zi w cq X,λM=>bS.snap (by simp)⟩)) (.cons _ _ _ _ _ (o7 W (λ_ _=>Qq _ _)) (.cons _ _ _ _ _ (.fn _ _ _ _ _ _ (.nil _) (.cons _ _ _ _ _ (ZN a2 a0) (.nil _))) (.nil _))) (.int _ _) ?_;rcases ZK (λj:S=> !cq.contains j.ai) c with⟨H,y⟩|⟨n,a9,H,y,a4⟩;rw[H,di,O];refine a8 ?_
 have a5:(c.filter λj=>cq.contains j.ai)=c:=ar1.2 λw L=>by simpa using y w L
 exact⟨[],by rw[a5]<;>rfl,by grind⟩;rw[H,di,O];refine b (λh=>by have:=of_decide_eq_true h;omega) (λ_=>?_);rw[a6,O];have br:(c.take n).filter (λj=>cq.contains j.ai)=c.take n:=ar1.2 λw L=>by simpa using a4 w L
 have bm:cq.contains c[n].ai=false:=by simpa using y
 have bD:M.set id (.arr g 3 (c.map (cF ab)))=M:=by
  let⟨cc,ce⟩:=fM.1 W;rw[<-ce];exact yX cc
 generalize bv:(λj:S=>cq.contains j.ai)=e at*;have Y:∀j,e j=cq.contains j.ai:=λj=>by rw[<-bv]
 refine bG (K:=Nat×Nat×List (List AV)) (λf=>[I f.1,I f.2.1]) (λf=>M.set id (.arr g 3 f.2.2)) (λf=>Z c -f.2.1)
  (λf=>f.1<f.2.1/\f.2.1<=Z c/\Z f.2.2=Z c/\(∀F∈f.2.2,Z F=3)/\Z ((c.take f.2.1).filter e)=f.1/\f.2.2.take f.1=((c.take f.2.1).filter e).map (cF ab)/\f.2.2.drop f.2.1=(c.drop f.2.1).map (cF ab)) (n,n+1,c.map (cF ab)) ?_ ?_ rfl bD
 have c2:(c.take (n+1)).filter e=c.take n:=by
  rw[iu a9,yS,br];simp[Y];simpa using bm
 refine⟨by simp,by grind,by simp,by simp,?_,?_,?_⟩;grind;simp_all;simp;rintro⟨P,d,l⟩ ⟨ah,aj,ak,R,D,s,E⟩ ci ac;simp only at ah aj ak R D s E ac⊢;have K:=Holds.set u (.arr g 3 l);have t:=K.get (U:=id) (hL:=.arr g 3 l) (by simp);have aR:=K.get (U:=N) (hL:=.arr 0 1 [[.fn 27 [] [.ptr U 0 0 0]]]) (by simp);have aZ:=K.get (U:=U) (hL:=.arr 0 1 [[eS T cI cq]]) (by simp);simp only[i,G,o0,O,A,a]
 refine b (λh=>?_) (λh=>?_);have h:d<Z c:=by simpa using h
 have be:l[d]?=aa (cF ab c[d]):=by
  have:(l.drop d)[0]?=((c.drop d).map (cF ab))[0]?:=by rw[E]
  simpa[h]using this
 refine kR (λQ h=>∃o m,Q=[I ((o:Nat):Int)]/\h=M.set id (.arr g 3 m)/\o<d+1/\Z m=Z c/\(∀F∈m,Z F=3)/\Z ((c.take (d+1)).filter e)=o/\m.take o=((c.take (d+1)).filter e).map (cF ab)/\m.drop (d+1)=(c.drop (d+1)).map (cF ab)) (λp bi=>?_) ?_;refine aI (fu t h) (aI (mi t be rfl) (aI (dR:=cF ab c[d]) rfl ?_));refine aY (dR:=31) (oK:=[.agg (cF ab c[d]),.ptr N 0 0 0]) rfl ?_
 apply e4 _ (Zi (T:=false) (F:=true) (bC:=true) (c6:=T) c[d] cq X) (.cons _ _ _ _ _ (Im.snap (by simp)) (.cons _ _ _ _ _ (ZN aZ aR) (.nil _))) (.bool _);rw[bK,O,E3,<-Y];have ca:(c.take (d+1)).filter e=(c.take d).filter e++(if e c[d]=ad then[c[d]]else[]):=by
  rw[iu h,yS];by_cases B:e c[d]=ad<;>simp[B]
 have co:l.drop (d+1)=(c.drop (d+1)).map (cF ab):=by
  have:=congrArg List.tail E;simpa[List.tail_drop,IZ]using this
 refine b (λB=>?_) (λB=>?_);have ba:P<Z l:=by omega
 apply aI (fu t (by omega));apply aI (api t ba R);rw[IV,a6,O];refine bi _ _ ⟨P+1,l.set P (cF ab c[d]),rfl,rfl,by omega,by grind,?_,?_,?_,?_⟩;grind;grind;rw[ca,if_pos B,hE,<-s,iu (by grind)];simp[List.take_set_of_le];grind[List.drop_set_of_lt];grind;rintro Q y ⟨o,m,rfl,rfl,am,au,ax,az,aA,aE⟩;rw[a6,O];exact ac (o,d+1,m) ⟨by simpa using am,by show d+1<=Z c;omega,au,ax,az,aA,aE⟩ (by simp;omega)
 have:d=Z c:=by simp at h;omega
 subst this;rw[dU]at D s;subst D;have c1:Z (c.filter e)<=Z c:=pA ..;refine aI (dR:=.q id g (Z (c.filter e)) (Z c -(Z (c.filter e)))) ?_ ?_;grind[fy,eO];refine aI (dR:=M.set id (.arr g 3 (l.take (Z (c.filter e))++(db (Z c -(Z (c.filter e))) [I 0,.aq,I 0]++l.drop (Z (c.filter e)+(Z c -(Z (c.filter e)))))))) ?_ ?_;simp[C3,t]
 have z:=Holds.set u (.arr g 3 (l.take (Z (c.filter e))++(db (Z c -(Z (c.filter e))) [I 0,.aq,I 0]++l.drop (Z (c.filter e)+(Z c -(Z (c.filter e)))))));have a3:=z.get (AF ..);refine aI (dR:=.q id g 0 (Z (c.filter e))) ?_ ?_;have U:(Z (c.filter e):Int)<=(Z c:Int):=by omega
 have N:(Option.some (Z (c.filter e):Nat)).isSome:=rfl;simp only[fy,eO,a3];rw[if_pos (by omega)];simp;rw[s]at z;exact⟨_,rfl,by rw[<-s]at z⊢;exact z⟩
theorem apk(c:Nat->K)(key:Nat->KF)(a:Nat):((ay a).map λb=>c ((kC key a)[b]!%a)).Perm ((ay a).map c):=by
 let⟨h,d⟩:=Nu key a;have g:bI (kC key a)=(ay a).map λb=>(kC key a)[b]!:=by
  refine ql (by simp[h]) λb f _=>?_;have:b<(kC key a).size:=by simpa using f
  simp[getElem!_pos,this]
 rw[g]at d;have e:=d.map λb=>c (b%a);rw[vP]at e;refine e.trans (avF (sM λb f=>?_));grind[Nat.mod_eq_of_lt]
theorem IB(a b:KF):(mw a b<0<->0<mw b a):=by
 unfold mw;have:=TO.aB.uk a.2 b.2;grind
theorem NU{id:Nat}(k:M[id]?=aa (.arr U 3 (X.map (cF ab))))(y:Z X<=1000000)(w:∀b∈X,dX b.af)(r:gD.Perm X)(i:gD.Pairwise λc d=>cm c d<0):
 C 32 [.q id U 0 (Z X),.fn 33 [] []] M (.aB []) (M.set id (.arr U 3 (gD.map (cF ab)))):=by
 rcases o:Z X with _|K;have e:X=[]:=I3.1 o;subst e;have e:gD=[]:=r.eq_nil;subst e;have:=aoK k;have e:M.set id (.arr U 3 ([].map (cF ab)))=M:=by
  let⟨E,F⟩:=fM.1 k;rw[<-F];exact yX E
 rw[e];exact this;have A:0<Z X:=by omega
 rw[<-o];let b:Nat->S:=λa=>(X[a]?).getD ⟨0,[],0⟩;have x:(ay (Z X)).map b=X:=by
  refine ql (by simp) λa f g=>?_;simp[b,bu g]
 have D:b8 (Z X) (λa=>cF ab (b a))=X.map (cF ab):=by
  show QU (cF ab∘b) (ay (Z X))=_;grind
 have z:∀a,a<Z X->b a∈X:=λa f=>by
  grind
 have n:=aoJ (row:=λa=>cF ab (b a)) (key:=λa=>kF (b a)) (n:=λa=>.agg (cF ab (b a))) (by rw[D];exact k) A y (λa f G _=>Im.snap (by simp)) (λa j f g=>by
  let⟨L,u,h,i⟩:=Nw (T:=false) (F:=false) (b a) (b j) (w _ (z a f));cases i
  exact⟨u,h⟩)
 have s:=apk b (λa=>kF (b a)) (Z X);rw[x]at s;have v:(ay (Z X)).map (λa=>b ((kC (λa=>kF (b a)) (Z X))[a]!%Z X))=gD:=by
  have t:=s.trans r.symm;refine Cj ?_ i λN=>t.mem_iff;have p:((ay (Z X)).map (λa=>b ((kC (λa=>kF (b a)) (Z X))[a]!%Z X))).Pairwise λc d=>cm c d≠0:=by
   refine(t.pairwise_iff (R:=λc d=>cm c d≠0) λ{c d} h e=>?_).2 (i.imp λh=>by omega);have:=(oi d c).1 e;exact h ((oi c d).2 ⟨this.1.symm,this.2.symm⟩)
  rw[arN]at p⊢;intro a j f g m;have l:=p a j f g m;simp only[xq,Cr]at l⊢;simp only[kc,List.length_range]at f g;have I:=aoC (λa=>kF (b a)) m g;rw[Ns]at l⊢;have J:=IB (kF (b ((kC (λa=>kF (b a)) (Z X))[j]!%Z X))) (kF (b ((kC (λa=>kF (b a)) (Z X))[a]!%Z X)));omega
 have B:b8 (Z X) (λa=>cF ab (b ((kC (λa=>kF (b a)) (Z X))[a]!%Z X)))=gD.map (cF ab):=by
  rw[<-v,b8,vP]<;>rfl
 rw[B]at n;exact n
theorem ZO(a b:S):Cg a b=ad<->a=b:=by
 rw[Cg,bc,beq_iff_eq,beq_iff_eq,oi];constructor;rintro⟨⟨c,d⟩,e⟩;cases a;simp_all;grind
theorem apl(b e:List S)(n:Sm b)(q:∀l∈b,dX l.af):PR C 36 [eS T (cF ab) b,eS F (cF ab) e,.fn 37 [] []] (.bool (y (b=e))):=by
 refine SJ.pr ?_;simp only[a1,cx,O];refine dw (λh=>?_) (λh=>?_);have:¬b=e:=by rintro rfl;simp at h
 rw[decide_eq_false this];exact .bool _ _;have o:Z b=Z e:=by simp at h;omega
 refine eC (U:=Z b) (c:=λd=>[ff,I d]) (λd=>b.take d=e.take d) (by simp) rfl (λd f j k r=>?_) (λj k=>?_);have m:d<Z e:=by omega
 simp only[i,G,A,O,a,f,decide_true];refine a8 ?_;simp only[aF f (fR _ _),aF m (fR _ _),O,kr];refine aI (dR:=cF ab b[d]) rfl (aI (dR:=cF ab e[d]) rfl ?_);refine aY (dR:=37) (oK:=[.agg (cF ab b[d]),.agg (cF ab e[d])]) rfl ?_;refine c (aoL b[d] e[d] (by grind)) ?_;simp only[bK,O];refine dw (λh=>?_) (λh=>?_);have:¬b=e:=by
  rintro rfl;have:=(ZO b[d] b[d]).2 rfl;rw[this]at h;cases h
 simp_all;rw[n.inc f,O];grind[Cg,List.take_succ_eq_append_getElem,ZO];simp only[i,G,A,O,a,cn,decide_false];refine bz ?_;have:b=e:=by rwa[dU,o,dU]at j
 rw[decide_eq_true this];exact .bool _ _
theorem ZP(h:uC X b3 U)(i:gm X):(ka X b3 U=ad->∃d:U<Z X,(b3∈X<->X[U].aj=b3.aj))/\(ka X b3 U=ab->b3∉X):=by
 have key:∀a(c:a<Z X),cm X[a] b3=0->U=a:=by
  intro a c f;have g:U<=a:=Nat.le_of_not_lt λk=>by have:=h.lo a c k;omega
  rcases arV g with h2|h2;have d:U<Z X:=by omega
  have n:=h.hi U d (c5 _);have o:=i U a d c h2;grind[oi,cm];exact h2
 refine⟨λb=>?_,λb e=>?_⟩;unfold ka at b;split at b;rename_i m j;obtain⟨d,rfl⟩:=fM.1 j;refine⟨d,λe=>?_,λp=>?_⟩;obtain⟨a,c,rfl⟩:=sL e;grind[oi];have b:cm X[U] b3=0:=by simpa using b
 have:=(oi _ _).1 b;have f:X[U]=b3:=by
  generalize X[U]=l at*;cases l;cases b3;simp_all
 grind;cases b
 obtain⟨a,c,rfl⟩:=sL e;have:=key a c ((oi _ _).2 ⟨rfl,rfl⟩);grind[ka,List.getElem?_eq_getElem,oi]
variable{bq:List Nat}
theorem apm(i:e9 V aP)(z:uF V)(aA:qT V=[]){out:List S}(az:iL X=ab)(s:bH V aP out)(ak:en V out X)(o:∀E:Int,E∉bq.map cu->gV E out X)(aE:en V (fC V (bq.map cu) out) out){done:Nat->Bool}(aR:qg (Z V.Q) (c4 V) done fk):
 ∀{e:List S},j7 V (fk.map (·.map cu)) e (aa X)->bH V aP e->bq∈fk->uH V (bq.map cu) e->∀a∈X,a.ai∈bq.map cu->tF V out a:=by
 induction aR with
 |nil=>grind
 |cons done g fk w P R a4 F C aZ=>
  intro e B l q H;have L:=B;rw[eg]at B;cases B with
  |cons _ _ be _ gs _ h K=>
   let⟨ah,_,_,_⟩:=ED i h l gs rfl;rcases b5.1 q with rfl|q;let⟨ba,x⟩:=Iu i L l X rfl;have mem:∀{a:S}{k n:List S},gV a.ai k n->a∈k->a∈n:=λ{a k n} b l=>by
    have:a∈k.filter λf=>f.ai==a.ai:=by simp[l]
    rw[show k.filter _=n.filter _ from b]at this;grind
   have ac:en V e out:=λa m=>by
    let⟨f,a0,N,a2,a3⟩:=x a m;refine⟨f,mem (gV.symm (o f.ai (by rw[N];exact H a m))) a0,N,a2,a3⟩
   have au:=NP i aA (λf u=>(w f u).1) R;have am:yI V (bq.map cu) e out:=λr t p M I j=>by
    have A:=au r t p M I j;refine⟨A,?_⟩;have m:gV M.ai X e:=by
     refine EG L (λO d=>?_) X rfl;rw[eg]at d;rcases b5.1 d with rfl|d;exact A;obtain⟨v,y,rfl⟩:=cy.1 d;intro J;rcases NO i w P t p I with b|⟨c,a5,b,a9⟩;grind;rw[b]at J;have:=(C.later v y c (EH.1 J)).2;grind
    exact m.symm.trans (o _ A).symm
   let⟨bi,b,af⟩:=NH i z h l s ac (Zp s.dF ak az) am λr t p a W=>by
    exact(NC i s r t p a W).trans (λf u=>((om i s _).1.ok f u).aj) aE
   cases b
   intro a m Y;apply af a;let⟨c,j,b⟩:=cy.1 Y;have b:=b.symm;have u:gV a.ai X gs:=by
    rw[b];refine EG K (λO d U=>?_) X rfl;obtain⟨v,y,rfl⟩:=cy.1 d;have:=(C.later v y c (EH.1 U)).2;rw[(F c (w c j).1).2 (.inr j)]at this;cases this
   grind;refine aZ K ah q λa x d=>?_;let⟨c,j,b⟩:=cy.1 d;have b:=b.symm;let⟨T,G⟩:=C.later bq q c j;have ax:(c:Int)∉g.map cu:=λz=>by
    rw[(F c T).2 (.inr (EH.1 z))]at G;cases G
   have o:=NN h ax gs rfl;have:a∈gs.filter λa=>a.ai==(c:Int):=by simp[x,b]
   rw[show gs.filter _=e.filter _ from o]at this;exact H a (l4.1 this).1 d
def dY(a:D)(c:List Int)(b:List S):Nat->List S
 |0=>[]
 |n+1=>fC a c (dq a b (dY a c b n))
structure IC(p:D)(cd:List aG)(m:List S)(c:List Int):Prop where
 hp:e9 p cd
 ZQ:uF p
 neg:NJ p c
 v:bH p cd m
 fix:fC p c m=fe c m
 iC:∀out,bH p cd out->en p out m->(∀a:Int,a∉c->gV a out m)->en p (fC p c out) out->∀f∈m,f.ai∈c->tF p out f
structure NV(p:D)(cd:List aG)(m:List S)(c:List Int)(K:List S):Prop where
 v:bH p cd K
 le:en p K m
 fresh:uH p c K
 ID:∀r∈p.ak,il c r=ad->∀l∈r.ah,l.ai∉c->gV l.ai K m
theorem apn(c:e9 V aP)(a:bH V aP X)(g:List Int):vK V (fC V g X):=
 (Ir (Q:=λout=>bH V aP out/\vK V out) ⟨.nil V aP,by intro j a;cases a⟩ λr i h out b=>by
  have f:=uo c a i (yH h);exact⟨wV c.aN _ b.1 f,Ci c.aN _ (λe d=>(b.1.ok e d).aj) (λe d=>(f e d).aj) b.2⟩).2
structure sC(p:D)(cd:List aG)(c:List Int)(A:List S):Prop where
 v:bH p cd A
 nb:vK p A
 inc:∀f∈A,f.ai∈c
section
variable{p:D}{cd:List aG}{m:List S}{c:List Int}{K A B:List S}
theorem sC.nil:sC p cd c []:=⟨.nil p cd,(by intro b a;cases a),by simp⟩
theorem sC.step(d:e9 p cd){a:List S}(b:bH p cd a):sC p cd c (fC p c a):=⟨(om d b c).1,apn d b c,NF⟩
theorem sD(d:e9 p cd)(b:bH p cd K)(a:sC p cd c A):bH p cd (dq p K A):=wV d.aN A b a.v.ok
theorem IE(j:e9 p cd)(i:bH p cd K)(e:sC p cd c A):en p K (dq p K A)/\en p A (dq p K A):=by
 let⟨g,h⟩:=Av j.aN A (λb a=>(i.ok b a).aj) λb a=>(e.v.ok b a).aj;exact⟨g,λd f=>(h d f).resolve_left (e.nb d f)⟩
theorem EI(l:e9 p cd)(j:bH p cd K)(i:sC p cd c A){g:List S}(d:bH p cd g)(f:en p K g)(h:en p A g):en p (dq p K A) g:=
 Iq l.aN d.dF (λb a=>(d.ok b a).aj) A (λb a=>(j.ok b a).aj) (λb a=>(i.v.ok b a).aj) f λe k=>.inr (h e k)
theorem EJ(h:e9 p cd)(i:bH p cd K)(j:uH p c K)(a:sC p cd c A):fe c (dq p K A)=A:=by
 have s:=sD h i a;refine EF h.aN (s.part c) a.v (λe f=>?_) λe f=>?_;let⟨o,q⟩:=gW.1 f;exact Ip (Q:=(· ∈c)) h.aN a.v.dF (λd b=>(a.v.ok d b).aj) A (λd b=>(i.ok d b).aj) (λd b=>(a.v.ok d b).aj) (λd b r=>absurd r (j d b)) (λe j _=>.inr ⟨e,j,rfl,rfl,.refl⟩) e o q;let⟨g,l,k,m,n⟩:=(IE h i a).2 e f;exact⟨g,gW.2 ⟨l,by rw[k];exact a.inc e f⟩,k,m,n⟩
theorem ZR(i:f∈c){d e:List S}(h:fe c d=fe c e):gV f d e:=by
 have g:∀b:List S,b.filter (λa=>a.ai==f)=(fe c b).filter λa=>a.ai==f:=λb=>by
  rw[fe,I1];grind
 grind[gV]
theorem yJ(d:sC p cd c A)(e:f∉c):gV f (dq p K A) K:=It A λb g a=>e (a▸d.inc b g)
theorem ZS(m:e9 p cd)(k:bH p cd K)(l:uH p c K)(e:sC p cd c A){g:List S}(j:fe c g=A)(d:∀r∈p.ak,il c r=ad->∀a∈r.ah,a.ai∉c->gV a.ai g K):fC p c g=fC p c (dq p K A):=
 Zu λr i f a h=>by
  by_cases b:a.ai∈c;grind[ZR,EJ];exact(d r i f a h b).trans (yJ e b).symm
theorem q2(a:e9 p cd)(b:bH p cd K):∀n,sC p cd c (dY p c K n)
 |0=>.nil
 |n+1=>.step a (sD a b (q2 a b n))
section
variable(hI:IC p cd m c)(hk:NV p cd m c K)
include hI hk
theorem NW(a:Nat):en p (dY p c K a) (fe c m):=by
 induction a with
 |zero=>intro e d;cases d
 |succ a s=>
  have b:=q2 (c:=c) hI.hp hk.v a;have q:=sD hI.hp hk.v b;rw[<-hI.fix];refine ND hI.hp hI.ZQ q hI.v (EI hI.hp hk.v b hI.v hk.le λe d=>?_) λr j h k i o=>?_;let⟨g,l,n⟩:=s e d;exact⟨g,(gW.1 l).1,n⟩;have f:=hI.neg r j h k i o;exact(yJ b f).trans (hk.ID r j h k i f)
omit hk in
theorem ZU(a:bH p cd K)(b:Nat):en p (dY p c K b) (dY p c K (b+1)):=by
 induction b with
 |zero=>intro t h;cases h
 |succ b m=>
  have e:=q2 (c:=c) hI.hp a b;have d:=q2 (c:=c) hI.hp a (b+1);have v2:=sD hI.hp a d;let⟨o,q⟩:=IE hI.hp a d;refine ND hI.hp hI.ZQ (sD hI.hp a e) v2 (EI hI.hp a e v2 o (m.trans (λs l=>(d.v.ok s l).aj) q)) λr k i n j g=>?_;have f:=hI.neg r k i n j g;exact(yJ e f).trans (yJ d f).symm
theorem apo(h:dY p c K U=dY p c K (U+1)):dY p c K U=fe c m:=by
 have b:=q2 (c:=c) hI.hp hk.v U;have n:=NW hI hk U;have i:bH p cd (m.filter λa=> !c.contains a.ai):=⟨nK.2 ((nK.1 hI.v.dF).filter _),λa e=>hI.v.ok a (by grind)⟩;have l:uH p c (m.filter λa=> !c.contains a.ai):=λa e C=>by
  grind
 have o:∀f:Int,f∉c->gV f (m.filter λa=> !c.contains a.ai) m:=λf d=>by
  unfold gV;rw[I1];grind
 have A:fC p c (dq p (m.filter λa=> !c.contains a.ai) (dY p c K U))=dY p c K U:=by
  conv=>rhs;rw[h]
  exact ZS hI.hp hk.v hk.fresh b (EJ hI.hp i l b) λr z w B x d=>(yJ b d).trans ((o _ d).trans (hk.ID r z w B x d).symm)
 have D:=EJ hI.hp i l b;have y:=hI.iC _ (sD hI.hp i b) (EI hI.hp i b hI.v (λa e=>⟨a,by grind,rfl,rfl,.refl⟩) λa e=>by
  let⟨g,k,j⟩:=n a e;exact⟨g,(gW.1 k).1,j⟩) (λf d=>(yJ b d).trans (o f d)) (by rw[A];exact(IE hI.hp i b).2)
 refine EF hI.hp.aN b.v (hI.v.part c) n λa e=>?_;let⟨t,u⟩:=gW.1 e;let⟨g,k,j,q,s⟩:=y a t u;refine⟨g,?_,j,q,s⟩;grind[gW]
end
theorem apq(b:e9 p cd)(d:bH p cd A)(a:sC p cd c B)(h:en p A B)(j:A≠B):lV p A<lV p B:=by
 have i:dq p A B=B:=by
  let⟨_,g⟩:=IE b d a;exact EF b.aN (sD b d a) a.v (EI b d a a.v h .refl) g
 have:=(Hk b.aN B (λf e=>(d.ok f e).aj) λf e=>(a.v.ok f e).aj).1;grind
theorem ZV(a:IC p cd m c)(b:bH p cd K):∀n,(∀d,d<n->dY p c K d≠dY p c K (d+1))->n<=lV p (dY p c K n)
 |0,_=>vL _
 |n+1,h=>by
  have e:=ZV a b n (by grind);have f:=apq a.hp (q2 (c:=c) a.hp b n).v (q2 (c:=c) a.hp b (n+1)) (ZU a b n) (h n (by omega));omega
theorem ZW(a:IC p cd m c)(b:bH p cd K)(n:Nat)(h:∀d,d<n->dY p c K d≠dY p c K (d+1)):n<=540000:=by
 have e:=ZV a b n h;have f:=LH (V:=p) a.hp.VR (dY p c K n);rcases n with _|n;omega;have g:=(om a.hp (sD a.hp b (q2 (c:=c) a.hp b n)) c).2;grind[dY]
end
theorem ZX:∀(k:Nat){done:Nat->Bool},∀g∈kz U cX k done,g≠[]
 |0,done=>by simp[kz]
 |k+1,done=>by
  intro g a;rw[kz]at a;split at a;cases a
  rename_i b d;let⟨e,c,_⟩:=yW.1 d;rcases b5.1 a with rfl|a;have:b∈(ay U).filter (cQ cX b):=by
   simp only[l4,iw]at c⊢;exact⟨by simpa using c,by simp[cQ]⟩
  grind;exact ZX k g a
theorem qg.yK{done:Nat->Bool}(h:qg U cX done fk):fk.Pairwise λg a=>∀b∈g,b∉a:=by
 induction h with
 |nil=>exact .nil
 |cons done g fk j k l i m f e=>
  refine .cons (λa c b p d=>?_) e;let⟨n,o⟩:=f.later a c b d;grind
def oy(b:D)(g:List Nat):Bool:=match g with|[]=>ad|a::_=>(b.Q[a]?.map cO.eo).getD ab
def dx(c:List S)(a:List (List Nat))(b:Nat):List S:=fe ((a.take b).flatten.map cu) c
structure Ck(p:D)(c:List Int)(K:List S)(f:S)(n:Nat):Prop where
 ba:0<n
 at':f∈dY p c K n
 no:∀k,k<n->f∉dY p c K k
structure pw(p:D)(m:List S)(L:List (List Nat))(k:Nat)(f:S)(r:Nat):Prop where
 eo:∀j(hj:j<Z L),j<k->f.ai∈L[j].map cu->oy p L[j]=ad->r=0
 view:∀j(hj:j<Z L),j<k->f.ai∈L[j].map cu->oy p L[j]=ab->Ck p (L[j].map cu) (dx m L j) f r
 none:(∀j(hj:j<Z L),j<k->f.ai∉L[j].map cu)->r=0
def nQ(f:D)(b:List Int)(d:List S)(r:Nat)(c:S)(g a:Nat):Prop:=if c.ai∈b then(a=0/\∀e,e<r->c∉dY f b d e)\/(a<r/\Ck f b d c a)else a=g
section
variable{p:D}{c:List Int}{K:List S}{f:S}{r r0 v:Nat}
theorem nQ.start(h:f.ai∈c->r0=0):nQ p c K 1 f r0 r0:=by
 grind[nQ,dY]
theorem nQ.next(g:0<r)(h:nQ p c K r f r0 v):nQ p c K (r+1) f r0 (if f.ai∈c/\v=0/\f∈dY p c K r then r else v):=by
 unfold nQ at h⊢;split;rename_i d;rw[if_pos d]at h;rcases h with⟨b,a⟩|⟨b,a⟩;by_cases e:f∈dY p c K r;rw[if_pos ⟨d,b,e⟩];exact .inr ⟨by omega,g,e,a⟩;grind;have:=a.ba;grind;grind
theorem nQ.done(h:nQ p c K r f r0 v)(a:f.ai∈c)(d:U<r)(b:f∈dY p c K U):Ck p c K f v:=by
 grind[nQ,absurd]
theorem nQ.out(h:nQ p c K r f r0 v)(a:f.ai∉c):v=r0:=by
 grind[nQ]
end
section
variable{p:D}{m:List S}{L:List (List Nat)}{k:Nat}{f:S}{r:Nat}
theorem pw.zero:pw p m L 0 f 0:=⟨λa _ h=>by omega,λa _ h=>by omega,λ_=>rfl⟩
theorem pw.fresh(b:L.Pairwise λg k=>∀a∈g,a∉k)(d:k<Z L)(h:pw p m L k f r)(c:f.ai∈L[k].map cu):r=0:=
 h.none (by grind[Int.ofNat.inj,List.pairwise_iff_getElem])
theorem pw.apr(i:L.Pairwise λg k=>∀n∈g,n∉k)(j:k<Z L)(o:oy p L[k]=ad)(h:pw p m L k f r):pw p m L (k+1) f r:=by
 refine⟨λa c l b d=>?_,λa c l b d=>?_,λq=>h.none (by grind)⟩;by_cases e:a=k;subst e;exact h.fresh i j b;exact h.eo a c (by omega) b d;by_cases e:a=k;grind;exact h.view a c (by omega) b d
theorem pw.aps(u:L.Pairwise λg k=>∀q∈g,q∉k)(l:k<Z L)(t:oy p L[k]=ab)(h:pw p m L k f r)(s:f.ai∈L[k].map cu->Ck p (L[k].map cu) (dx m L k) f U)(d:f.ai∉L[k].map cu->U=r):pw p m L (k+1) f U:=by
 have i:∀a(b:a<Z L),a<k->f.ai∈L[a].map cu->f.ai∉L[k].map cu:=by grind[Int.ofNat.inj,List.pairwise_iff_getElem]
 refine⟨λa b n c e=>?_,λa b n c e=>?_,λo=>?_⟩;by_cases j:a=k;grind;rw[d (i a b (by omega) c)];exact h.eo a b (by omega) c e;by_cases j:a=k;grind;rw[d (i a b (by omega) c)];exact h.view a b (by omega) c e;rw[d (o k l (by omega))];exact h.none (by grind)
end
theorem NX(h:sB V aP X)(c:List Int):sB V aP (fe c X):=
 ⟨h.v.part c,λa b=>h.ty a (gW.1 b).1,λa b=>h.nb a (gW.1 b).1⟩
theorem ZY(c:e9 V aP)(g:iW V){b:List Int}(a:sB V aP X):∀n,sB V aP (dq V X (dY V b X n))
 |0=>a
 |n+1=>by
  have h:=ZY c g (b:=b) a n;have f:=q2 (c:=b) c a.v (n+1);refine⟨sD c a.v f,Ch _ a.ty (Is λr l k i j=>ZD c g h.v h.ty l (yH k) i j),Ci c.aN _ (λe d=>(a.v.ok e d).aj) (λe d=>(f.v.ok e d).aj) a.nb⟩
theorem ZZ(d:X.Nodup)(e:gD.Pairwise λb c=>cm b c<0)(h:∀a,a∈gD<->a∈X):gD.Perm X:=by
 refine(OI ?_ d).2 h;exact e.imp (by grind[oi])
theorem apt(g:e9 V aP)(d:bH V aP X)(e:uH V cq X)(b:sC V aP cq gD):(dq V X gD).Perm (X++gD)/\(dq V X gD).Pairwise λk l=>cm k l<0:=by
 have i:=nK.1 (sD g d b).dF;refine⟨ZZ ?_ i λa=>?_,i⟩;refine tJ.2 ⟨BN d.dF,BN b.v.dF,λa c q p m=>?_⟩;subst m;exact e a c (b.inc a p);by_cases c:a.ai∈cq;have o:a∈dq V X gD<->a∈fe cq (dq V X gD):=by rw[gW];simp[c]
 rw[o,EJ g d e b,dm];exact⟨.inr,λh=>h.resolve_left λh=>e a h c⟩;have f:∀j:List S,a∈j<->a∈j.filter λn=>n.ai==a.ai:=by simp
 rw[f (dq V X gD),show(dq V X gD).filter _=X.filter _ from yJ b c,<-f X,dm];exact⟨.inl,λh=>h.resolve_right λh=>c (b.inc a h)⟩
theorem apu(d:bH V aP X)(p:fk.Pairwise λg U=>∀a∈g,a∉U)(r:U<Z fk):(dx X fk (U+1)).Perm (dx X fk U++fe (fk[U].map cu) X)/\(dx X fk (U+1)).Pairwise λb c=>cm b c<0:=by
 have e:(dx X fk (U+1)).Pairwise λb c=>cm b c<0:=nK.1 (d.part _).dF;have s:∀(a:S),a.ai∈(fk.take (U+1)).flatten.map cu<->a.ai∈(fk.take U).flatten.map cu\/a.ai∈fk[U].map cu:=by grind[List.take_succ_eq_append_getElem,List.flatten_append]
 refine⟨ZZ ?_ e λa=>?_,e⟩;refine tJ.2 ⟨BN (d.part _).dF,BN (d.part _).dF,λa l u m f=>?_⟩;subst f;let⟨b,j,h⟩:=cy.1 (gW.1 l).2;let⟨c,o,i⟩:=cy.1 (gW.1 m).2;have:b=c:=by
  have:=h.trans i.symm;exact ar2 this
 subst this;let⟨g,k,n⟩:=uJ.1 j;obtain⟨t,q,rfl⟩:=sL k;grind[List.length_take,List.pairwise_iff_getElem];grind[dx,gW]
theorem apv(x:e9 V aP)(w:bH V aP X):∀{a:List (List Nat)}{done:Nat->Bool},qg (Z V.Q) (c4 V) done a->∀{k:Nat}(j:k<Z a){m:List Int},m=a[k].map cu->
 (∀b,done b=ab)->NV V aP X m (dx X a k):=by
 intro a done l k j m E P;subst E;have O:=l.yK;refine⟨w.part _,λd i=>⟨d,(gW.1 i).1,rfl,rfl,.refl⟩,λd i o=>?_,λr y n e v f=>?_⟩;let⟨q,f,s⟩:=cy.1 (gW.1 i).2;let⟨b,u,A⟩:=cy.1 o;have:q=b:=by
  have:=s.trans A.symm;exact ar2 this
 subst this;let⟨g,F,M⟩:=uJ.1 f;obtain⟨T,R,rfl⟩:=sL F;grind[List.length_take,List.pairwise_iff_getElem];have key:e.ai= -1\/e.ai∈(a.take k).flatten.map cu:=by
  have:∀{a:List (List Nat)}{done:Nat->Bool},qg (Z V.Q) (c4 V) done a->∀(k:Nat)(j:k<Z a),il (a[k].map cu) r=ad->e.ai∉a[k].map cu->e.ai= -1\/∃b:Nat,e.ai=b/\(done b=ad\/b∈(a.take k).flatten):=by
   intro a done l;induction l with
   |nil=>grind
   |cons done g a B C K I L U G=>
    intro k j n f;rcases k with _|k;rcases NO x B C y n v with c|⟨b,u,c,hd⟩;exact .inl c;grind;rcases G k (by grind) (by grind) (by grind)with c|⟨b,c,hd⟩;exact .inl c;refine .inr ⟨b,c,?_⟩;rcases hd with hd|hd;by_cases u:b<Z V.Q;grind;have z:=(x.iS r y).lits e v;by_cases t:e.ax=5;have:=(z.cmp t).2;omega;let⟨H,N,J,_⟩:=z.ai t;omega;grind
  rcases this l k j n f with c|⟨b,c,hd⟩;exact .inl c;grind
 unfold gV dx;rcases key with c|o;have no:∀p:List S,(∀d∈p,d∈X)->p.filter (λd=>d.ai==e.ai)=[]:=λp h=>by
  rw[I9];intro d i o;let⟨q,f,s,_⟩:=(w.ok d (h d i)).fG;grind
 grind[gW];rw[fe,I1];grind
structure apw(p:D)(cd:List aG)(m:List S)(L:List (List Nat)):Prop where
 ne:∀g∈L,g≠[]
 len:∀g∈L,Z g<=Z p.Q
 num:Z L<=Z p.Q
 lt:∀g∈L,∀a∈g,a<Z p.Q
 yK:L.Pairwise λg k=>∀x∈g,x∉k
 NY:∀k(hk:k<Z L),oy p L[k]=ab->IC p cd m (L[k].map cu)
 IF:∀k(hk:k<Z L),NV p cd m (L[k].map cu) (dx m L k)
 mI:sB p cd m
theorem Z0{g:List Nat}(h:oy V g=ab)(c:∀a∈g,a<Z V.Q):∃a,∃b:a<Z V.Q,a∈g/\V.Q[a].eo=false:=by
 rcases g with _|⟨a,g⟩;cases h
 have b:=c a (by simp);refine⟨a,b,by simp,?_⟩;simpa[oy,bu b]using h
theorem IG(b:xl V X)(c:e9 V (gK V X))(k:j7 V (ts V) X (aa gD))(w:iL gD=ab):apw V (gK V X) gD (fa (Z V.Q) (c4 V)):=by
 have n:=Au b.val b.form;have d:=Iw V;have j:∀g∈fa (Z V.Q) (c4 V),∀e∈g,e<Z V.Q:=λg a e f=>(d.later g a e f).1;have i:=(Iy b.val c b.form k).2;refine⟨λg a=>ZX _ g a,λg a=>Mf _ g a,Mg _,j,d.yK,λx h u=>?_,λx h=>apv c i.v d h rfl λ_=>rfl,i⟩;have a:=bp h;let⟨e,f,t,s⟩:=Z0 u (j _ a);have m:=ZJ b a t f s;have l:=b.str
 refine⟨c,NI b.val,NP c l (j _ a) (d.th _ a),i.v,ao7 c (NI b.val) l d k n _ a m,λout o p q r=>?_⟩;exact apm c (NI b.val) l w o p q r d k n a m
def IH(a:D)(c:List S)(d:Nat->Nat):Prop:=∀b(_:b<Z c),pw a c (fa (Z a.Q) (c4 a)) (Z (fa (Z a.Q) (c4 a))) c[b] (d b)
def yL(c:Nat)(b:AV)(a:List S):Prop:=b=eS ab (cF ab) a\/(a=[]/\b=.q c 0 0 0)
theorem yL.pl(h:yL U E X):E.pl=E/\E.bU=true:=by
 rcases h with rfl|⟨-,rfl⟩<;>exact⟨rfl,rfl⟩
theorem yL.rd(h:yL U E X)(a:M[U]?=aa (.arr 0 3 [])):ij M 3 E=aa (X.map (cF ab))/\gk .sl E M=aa (I (Z X)):=by
 rcases h with rfl|⟨rfl,rfl⟩;exact⟨vh (fR ab) _ _ _,by simp⟩;exact⟨BJ a (by simp),rfl⟩
theorem yL.ow(h:yL U E X)(b:M[U]?=aa (.arr 0 3 [])):∃a,aM M .cb E (eS a (cF ab) X):=by
 rcases h with rfl|⟨rfl,rfl⟩;simp[Im.snap];exact⟨ad,o7 (a7:=cF ab) (x:=[]) b (by simp)⟩
theorem apx{id g:Nat}(h:yL U E X):fQ 1 [.aq] 2 [(0,.q id g 0 N),(1,E)]=aa (.sl ab [[.q id g 0 N],[E]]):=by
 rcases h with rfl|⟨-,rfl⟩<;>rfl
abbrev qi(b:Nat)(c:Nat->Nat):Obj:=.arr 0 1 (b8 b λa=>cN (c a))
variable{ki:Nat -> Nat}
theorem apy:(b8 U λN=>cN (ki N)).set N [I (z:Int)]=b8 U λa=>cN (if a=N then z else ki a):=by
 grind[MI,B2,bN,cN]
variable{hF:Nat × Obj}
theorem Holds.two{a:Nat×Obj}(h:Holds M (hF::a::k)):Holds M [a,hF]:=by
 have c:=h.1;refine⟨?_,λb d=>h.2 b (by grind)⟩;grind
theorem apz(d:gm X)(h:en V X gD):Z X<=Z gD:=by
 have c:(X.map kF).Nodup:=by
  rw[aaW,aa1];exact(nK.1 d).imp λ{i j} h a=>by
   rw[Ns,a,Y7]at h;omega
 have:=zQ c (a:=gD.map kF) λo f=>by
  obtain⟨b,e,rfl⟩:=cy.1 f;let⟨g,k,l,m,_⟩:=h b e;grind[kF]
 grind
theorem k7(f8:e8 C)(f9:xj C)(aA:yx C)(Ap:∀E L,C 30 [.sl E []] L (.q (Z L+1) 0 0 0) (L++[.arr 0 3 [],.arr 0 3 []]))(B:xl V X)(hk:eI V)(hf:∀s∈X,dX s.af):
 ∃U,j7 V (ts V) X U/\(∀gs,U=aa gs->bH V (gK V X) gs/\iL gs=ab)/\(U=ae->PR C 7 [.agg (cP ab T V),eS F (cF ab) X] (.aB [eS ab (cF ab) [],eS ab cN [],I 2]))/\
  ∀d,U=aa d->∃ci,PR C 7 [.agg (cP ab T V),eS F (cF ab) X] ci/\∃w,IH V d w/\ci=.aB [eS ab (cF ab) d,eS ab cN ((ay (Z d)).map w),I 0]:=by
 let⟨U,hj,ha,gQ⟩:=ao1 f8 f9 aA (T:=T) (F:=F) B hk hf;refine⟨U,hj,ha,λba=>?_,λd ba=>?_⟩;subst ba;refine r7.pr ?_;simp only[eP,O,gS];refine c gQ ?_;refine aI (dR:=eS ab (cF ab) ([]:List S)) rfl (aI (dR:=I 2) rfl ?_);simp only[cx,O];refine a8 ?_;exact .aB _ _ _ (.cons _ _ _ _ _ (.aq _ _) (.cons _ _ _ _ _ (.aq _ _) (.cons _ _ _ _ _ (.int _ _ _) (.nil _))));subst ba;let⟨d1,he⟩:=ha d rfl
 have H:=Cc B.kK B.val hk hf B.EE;have sp:=d1.small H.v he;have g2:=EA B.nG B.val;let⟨st,_,hh⟩:=Ar B.nG;have rt:=H.v.Q;have s1:=yw.2 B.val;have N:=IG B H.v hj he;have kw:=ZG B.val (NR B.val B.form).2;have rx:∀w,IH V d w=∀k(_:k<Z d),pw V d (fa (Z V.Q) (c4 V)) (Z (fa (Z V.Q) (c4 V))) d[k] (w k):=λ_=>rfl;have i6:=Xy aA (T:=false) (F:=T) V g2 hh;generalize fa (Z V.Q) (c4 V)=l at*;have rg:=N.num
 have f6:∀{hw:List S},bH V (gK V X) hw->∀s∈hw,dX s.af:=λh=>bH.BO H h.ok;have i2:∀L,gk .sl (eS ab (cF ab) d) L=aa (I (Z d)):=λ_=>by simp
 have t0:dx d l 0=[]:=by unfold dx fe;rw[I9];simp
 refine r7.ex ?_;simp only[eP,O,gS];refine c gQ ?_;refine aI (dR:=eS ab (cF ab) d) rfl (aI (dR:=I 0) rfl ?_);simp only[cx,O];refine bz ?_;rw[i2,O];refine aY (dR:=.q 0 0 0 (Z d)) (oK:=[.arr 0 1 (db (Z d) [I 0])]) (rY (by omega) (by omega)) ?_;refine aY (dR:=.q 1 0 0 0) (oK:=[.arr 0 1 (db (Z d) [I 0]),.arr 0 3 []]) rfl ?_;refine c i6 ?_;simp only[a1,O]
 refine bG (K:=Nat×(Nat->Nat)×AV×List Obj) (λn=>[n.2.2.1,I n.1]) (λn=>n.2.2.2) (λn=>Z l -n.1) (λn=>n.1<=Z l/\(∀k(h:k<Z d),pw V d l n.1 d[k] (n.2.1 k))/\∃id g,n.2.2.1=.q id g 0 (Z (dx d l n.1))/\Holds n.2.2.2 [(0,qi (Z d) n.2.1),(id,.arr g 3 ((dx d l n.1).map (cF ab)))])
  (0,λ_=>0,.q 1 0 0 0,[.arr 0 1 (db (Z d) [I 0]),.arr 0 3 []]) ⟨vL _,λk _=>pw.zero,1,0,?_,?_,?_⟩ ?_
 grind;simp;intro a4 ho;simp only[b5,jM,or_false]at ho;rcases ho with rfl|rfl;simp only[de,e1,qi,Obj.arr.injEq,true_and];refine ql (by simp[b8]) λk a5 c2=>?_;simp[b8,cN];grind;rintro⟨f,w,t1,L⟩ ⟨d0,d2,id,g,g8,es⟩ m9 hs;simp only at d0 d2 g8 es hs⊢;subst g8;simp only[i,G,A,O,a];refine b (λh=>?_) (λh=>?_)
 ·have am:f<Z l:=by simpa using h
  have f2:=bp am;have pp:=N.len _ f2;have ca:=N.IF f am;have lc:=N.NY f am;let⟨f3,g7⟩:=apu d1 N.yK am;have ps:Z (dx d l f)<=Z d:=pA ..;have pu:Z (dx d l (f+1))<=Z d:=pA ..;have ro:Z (fe (l[f].map cu) d)<=Z d:=pA ..
  refine kR (λF R=>∃d3 az be a4 d4,F=[.q az be 0 (Z (dx d l (f+1))),a4,d4]/\(∀k(h:k<Z d),pw V d l (f+1) d[k] (d3 k))/\Holds R [(0,qi (Z d) d3),(az,.arr be 3 ((dx d l (f+1)).map (cF ab)))]) (λs2 g5=>?_) ?_
  ·
   let⟨z,be,f1⟩:=List.exists_cons_of_ne_nil (N.ne _ f2);have g3:=N.lt _ f2 z (by grind);have K:oy V l[f]=V.Q[z].eo:=by rw[f1];simp[oy,bu g3]
   have os:Z (l[f].map cu)<=24:=by rw[kc];omega
   have ke:0<Z (l[f].map cu):=by rw[f1];simp
   have kl:(l[f].map cu)[0]=(z:Int):=by simp[f1]
   have aE:Sm (l[f].map cu):=by unfold Sm;omega
   have m5:=λk(h:k<Z d)(hf:d[k].ai∈l[f].map cu)=>(d2 k h).fresh N.yK am hf;have i0:=λk(h:k<Z d) K=>(d2 k h).apr N.yK am K;have v1:=λk(h:k<Z d) K(ci:Nat)=>(d2 k h).aps (U:=ci) N.yK am K;simp only[aF am (D2 _),O,aK,zU,D7];generalize pi:l[f].map cu=m at*;refine aY (dR:=.ptr (Z L) 0 0 0) (oK:=L++[.arr 0 1 [[.aq]]]) rfl ?_;have a5:=es.alloc (.arr 0 1 [[.aq]]);generalize op:Z L=x at*
   generalize L++[Obj.arr 0 1 [[.aq]]]=io at*;refine aI (lE (a5.get (U:=x) (hL:=.arr 0 1 [[.aq]]) (by simp)) rfl (by decide) rfl rfl) ?_;have c2:=a5.set (.arr 0 1 [[eS ab cI m]]);simp only[yU];generalize io.set x (.arr 0 1 [[eS ab cI m]])=cl at*;refine aY (dR:=.ptr (Z cl) 0 0 0) (oK:=cl++[.arr 0 1 [[.fN]]]) rfl ?_;have dl:=c2.alloc (.arr 0 1 [[.fN]]);generalize Z cl=ax at*
   generalize cl++[Obj.arr 0 1 [[.fN]]]=ip at*;refine aI (lE (dl.get (U:=ax) (hL:=.arr 0 1 [[.fN]]) (by simp)) rfl (by decide) rfl rfl) ?_;have br:=dl.set (.arr 0 1 [[.fn 27 [] [.ptr x 0 0 0]]]);simp only[yU,zm];generalize ip.set ax (.arr 0 1 [[.fn 27 [] [.ptr x 0 0 0]]])=co at*;clear a5 c2 dl;simp only[bj,aK,kt,e,O];have go:=br.get (U:=x) (hL:=.arr 0 1 [[eS ab cI m]]) (by simp)
   refine aI (gx go rfl) ?_;have m3:∀p,bT 1 (eS ab cI m) (I 0) p=aa (.aH ab (cI m[0]) 0):=λp=>aF (a7:=cI) ke (jf _);rw[m3,O,kl];simp only[aK,lM,O,aF g3 (jg _ _),bj,F4,e];refine b (λjp=>?_) (λm0=>?_)
   ·
    have K:oy V l[f]=true:=by rw[K];exact jp
    refine c7 (apg Ap d (by omega) br) rfl ?_;rintro r cs ⟨ce,gc,rfl,ak⟩;have ak:Holds cs ((ce,.arr gc 3 (d.map (cF ab)))::(ax,.arr 0 1 [[.fn 27 [] [.ptr x 0 0 0]]])::(x,.arr 0 1 [[eS ab cI m]])::[(0,qi (Z d) w),(id,.arr g 3 ((dx d l f).map (cF ab)))]):=ak;refine c7 (apj aE d (by omega) ak) rfl ?_;rintro r it ⟨J,rfl,el⟩;have mk:(d.filter λs=>m.contains s.ai)=fe m d:=rfl;rw[mk]at el⊢
    have n8:=el.get (U:=ce) (hL:=.arr gc 3 ((fe m d).map (cF ab)++J)) (by simp);have em:Holds it ([(id,.arr g 3 ((dx d l f).map (cF ab)))]++[(0,qi (Z d) w)]):=by
     have:=el.tail.tail.tail;exact this.perm (List.Perm.swap ..)
    let⟨az,bi,iC,d6,bv⟩:=xm.app (bytes:=40) (bB.j bB.of) em (dQ:=.q ce gc 0 (Z (fe m d))) (lu:=fe m d) (by simp_all[BJ]) (by omega);refine aY d6 ?_;have d7:=bv.get (AF ..);refine w8 rfl (NU (gD:=dx d l (f+1)) d7 (by simp;omega) (λs hf=>?_) f3 g7) ?_;rcases dm.1 hf with hf|hf;exact f6 d1 s (gW.1 hf).1;grind;refine g5 _ _ ⟨w,az,bi,_,_,by rw[f3.length_eq],λk h=>i0 k h K,?_⟩
    exact(bv.set (.arr bi 3 ((dx d l (f+1)).map (cF ab)))).perm (List.Perm.swap ..)
   ·
    have K:oy V l[f]=false:=by rw[K];exact m0
    have fx:=lc K;have Y:bH V (gK V X) (dx d l f):=ca.v;refine aY (dR:=.q (Z co) 0 0 0) (oK:=co++[.arr 0 3 []]) rfl ?_;have ak:=br.alloc (.arr 0 3 []);generalize Z co=a3 at*;generalize co++[Obj.arr 0 3 []]=cs at*;have ak:Holds cs ((0,qi (Z d) w)::((id,.arr g 3 ((dx d l f).map (cF ab)))::(ax,.arr 0 1 [[.fn 27 [] [.ptr x 0 0 0]]])::(x,.arr 0 1 [[eS ab cI m]])::[(a3,.arr 0 3 [])])):=by
     refine ak.perm ?_;exact(I5 (l₁:=[(a3,Obj.arr 0 3 []),(ax,.arr 0 1 [[.fn 27 [] [.ptr x 0 0 0]]]),(x,.arr 0 1 [[eS ab cI m]])]) (l₂:=[(0,qi (Z d) w),(id,.arr g 3 ((dx d l f).map (cF ab)))])).trans ((avG _).append (l₁:=[(0,qi (Z d) w),(id,.arr g 3 ((dx d l f).map (cF ab)))]) (I5 (l₁:=[(a3,Obj.arr 0 3 [])]) (l₂:=[(ax,.arr 0 1 [[.fn 27 [] [.ptr x 0 0 0]]]),(x,.arr 0 1 [[eS ab cI m]])])))
    generalize i9:((id,Obj.arr g 3 ((dx d l f).map (cF ab)))::(ax,.arr 0 1 [[.fn 27 [] [.ptr x 0 0 0]]])::(x,.arr 0 1 [[eS ab cI m]])::[(a3,.arr 0 3 [])])=W at ak;have gid:∀{p:List Obj},Holds p W->p[id]?=aa (.arr g 3 ((dx d l f).map (cF ab))):=λh=>h.get (by grind);have i5:∀{p:List Obj},Holds p W->p[ax]?=aa (.arr 0 1 [[.fn 27 [] [.ptr x 0 0 0]]]):=λh=>h.get (by grind)
    have gt:∀{p:List Obj},Holds p W->p[x]?=aa (.arr 0 1 [[eS ab cI m]]):=λh=>h.get (by grind);have d9:∀{p:List Obj},Holds p W->p[a3]?=aa (.arr 0 3 []):=λh=>h.get (by grind);clear br go
    refine bG (K:=Nat×(Nat->Nat)×AV×List Obj) (λn=>[n.2.2.1,I ((n.1+1:Nat):Int)]) (λn=>n.2.2.2) (λn=>540001 -n.1) (λn=>(∀o,o<n.1->dY V m (dx d l f) o≠dY V m (dx d l f) (o+1))/\(∀k(h:k<Z d),nQ V m (dx d l f) (n.1+1) d[k] (w k) (n.2.1 k))/\yL a3 n.2.2.1 (dY V m (dx d l f) n.1)/\Holds n.2.2.2 ((0,qi (Z d) n.2.1)::W))
     (0,w,.q a3 0 0 0,cs) ⟨λo ac=>by omega,λk h=>nQ.start (m5 k h),.inr ⟨rfl,rfl⟩,ak⟩ ?_
    rintro⟨t,f7,hH,p⟩ ⟨g9,f4,au,eq⟩ nl ht;simp only at g9 f4 au eq ht⊢;have sz:t<=540000:=ZW fx Y t g9;have bD:=q2 (c:=m) H.v Y t;have a9:=q2 (c:=m) H.v Y (t+1);have qr:Z (dY V m (dx d l f) t)<=60000:=by
     rcases t with _|t;simp[dY];exact(om H.v (sD H.v Y (q2 (c:=m) H.v Y t)) m).2
    have lm:Z (dY V m (dx d l f) (t+1))<=60000:=(om H.v (sD H.v Y bD) m).2;have hn:=sD H.v Y bD;let⟨hm,mt⟩:=apt H.v Y ca.fresh bD;have li:sB V (gK V X) (dq V (dx d l f) (dY V m (dx d l f) t)):=ZY H.v B.val (b:=m) (NX N.mI _) t;have s0:=apz hn.dF (EI H.v Y bD d1 ca.le λs hf=>by
     let⟨g,i3,bm⟩:=NW fx ca t s hf;exact⟨g,(gW.1 i3).1,bm⟩)
    have pm:=ZE B.val kw li;have g4:dY V m (dx d l f) t=dY V m (dx d l f) (t+1)->dY V m (dx d l f) t=fe m d:=apo fx ca;have ls:=λk(h:k<Z d)=>(f4 k h).next (by omega);have hl:dY V m (dx d l f) (t+1)=fC V m (dq V (dx d l f) (dY V m (dx d l f) t)):=rfl;simp only[i,G];rw[apx au,O]
    have m7:IA (.q id g 0 (Z (dx d l f))) (dx d l f) ((0,qi (Z d) f7)::W):=⟨rfl,rfl,λp aA=>⟨by rw[BJ (gid aA.tail) (by simp),ll,gP (by simp)],rfl⟩⟩;have m6:IA hH (dY V m (dx d l f) t) ((0,qi (Z d) f7)::W):=⟨au.pl.1,au.pl.2,λp aA=>au.rd (d9 aA.tail)⟩;generalize ol:dY V m (dx d l f) t=ah at*;refine c7 (apf m7 m6 (by omega) eq) rfl ?_;rintro r h4 ⟨ce,gc,rfl,bm⟩;have hO:=bm.get (AF ..)
    refine w8 rfl (NU (gD:=dq V (dx d l f) ah) hO (by simp;omega) (λs hf=>?_) hm mt) ?_;grind;have c1:=bm.set (.arr gc 3 ((dq V (dx d l f) ah).map (cF ab)));generalize h4.set ce (.arr gc 3 ((dq V (dx d l f) ah).map (cF ab)))=ii at*;have h1:=c1.get (AF ..);refine aI (gx (gt c1.tail.tail) rfl) ?_;rw[<-hm.length_eq];have ms:Z (dq V (dx d l f) ah)<=100000:=by omega
    refine e4 _ (YP f8 f9 aA (T:=T) (F:=true) (bC:=false) (c6:=false) (dq V (dx d l f) ah) m H hn ms (by grind) g2 hh B.EE B.str aE) (.cons _ _ _ _ _ (Im.snap (by simp)) (.cons _ _ _ _ _ (Im.snap (by simp)) (.cons _ _ _ _ _ (o7 h1 (by simp)) (.nil _)))) (Zt _) ?_;rw[<-hl];have i4:=c1.tail;clear hO h1 bm c1 eq;have g1:dY V m (dx d l f) (t+1)=dY V m (dx d l f) (t+1):=rfl
    generalize g0:dY V m (dx d l f) (t+1)=u at a9 lm g4 ls hl⊢;have m8:∀(s:S) o f(ac:o<Z u)(d0:f<Z u),o<f->(0<=cm u[o] s->0<cm u[f] s):=λs o f ac d0 l0 h=>by
     have a5:=a9.v.dF o f ac d0 l0;rw[Ns]at h a5⊢;have c2:=IB (kF s) (kF u[o]);have dl:=IB (kF u[o]) (kF u[f]);have br:=IB (kF s) (kF u[f]);by_cases ba:mw (kF u[o]) (kF s)=0;have:=(oi u[o] s).1 ba;grind[kF];grind[mw,kF,Y8]
    refine bG (K:=Nat×(Nat->Nat)×List Obj) (λn=>[I n.1]) (λn=>n.2.2) (λn=>Z d -n.1) (λn=>n.1<=Z d/\(∀k(h:k<Z d),nQ V m (dx d l f) (if k<n.1 then t+2 else t+1) d[k] (w k) (n.2.1 k))/\Holds n.2.2 ((0,qi (Z d) n.2.1)::W)) (0,f7,ii) ⟨vL _,λk h=>by simpa using f4 k h,i4⟩ ?_;rintro⟨k,P,p⟩ ⟨kx,a2,M⟩ n6 hu;simp only at kx a2 M hu⊢;have e0:=M.get (AF ..);simp only[G,A,O,a];refine b (λh=>?_) (λh=>?_)
    ·have aR:k<Z d:=by simpa using h
     refine kR (λF R=>∃d5,(∀o(h:o<Z d),nQ V m (dx d l f) (if o<k+1 then t+2 else t+1) d[o] (w o) (d5 o))/\Holds R ((0,qi (Z d) d5)::W)) (λty g6=>?_) ?_
     ·simp only[aF aR (fR _ _),O,kr]
      refine aI (dR:=cF ab d[k]) rfl ?_;let⟨f5,hg,i7⟩:=XN (T:=false) (F:=false) (bC:=false) (λa4 d4 h=>Nw a4 d4 h) u d[k] (by grind[Sm]) (f6 a9.v) a9.v.dF (m8 _);refine c i7 ?_;refine aI (dR:=I (f5:Int)) rfl (aI (dR:=.bool (ka u d[k] f5)) rfl ?_);refine kR (λF R=>∃r,F=.bool (y (d[k].ai∈m/\P k=0/\d[k]∈u))::r/\R=p) (λk4 ld=>?_) ?_
      have d8:∀E:Bool,(E=ad<->(d[k].ai∈m/\P k=0/\d[k]∈u))->∀r,k4 (.bool E::r) p:=λE K r=>ld _ _ ⟨r,by rw[show E=y (d[k].ai∈m/\P k=0/\d[k]∈u)by rw[iQ,K,decide_eq_true_iff]],rfl⟩;refine aI (gx (i5 M.tail) rfl) ?_;refine aY (dR:=27) (oK:=[.agg (cF ab d[k]),.ptr x 0 0 0]) rfl ?_
      refine e4 _ (Zh (T:=false) (F:=true) (bC:=false) d[k] m aE) (.cons _ _ _ _ _ (Im.snap (by simp)) (.cons _ _ _ _ _ (ZM (gt M.tail)) (.nil _))) (.bool _) ?_;refine aW (λaZ=>?_) (λaZ=>d8 _ (by simp at aZ;simp[aZ]) _);have aZ:d[k].ai∈m:=by simpa using aZ
      refine aI (fu e0 aR) ?_;rw[cY e0 (w9 _ aR)];simp only[GU,O,di];refine aW (λcc=>?_) (λcc=>d8 _ (by simp at cc;simp[cc]) _);have cc:P k=0:=by simp at cc;omega
      refine aW (λf0=>?_) (λf0=>d8 _ (by simp[(ZP hg a9.v.dF).2 f0]) _);let⟨mp,rc⟩:=(ZP hg a9.v.dF).1 f0;simp only[aF mp (fR _ _),bj,aK,u2,O,e];refine aI (dR:=.bool (u[f5].aj==d[k].aj)) rfl ?_;grind;rintro F R ⟨r,rfl,rfl⟩;simp only[G];have a0:=(a2 k aR);rw[if_neg (cn _)]at a0;have a0:=a0.next (by omega);rw[g1]at a0;rw[g0]at a0;refine b (λaE=>?_) (λaE=>?_);refine aI (fu e0 aR) ?_
      refine aI (Bu e0 (w9 _ aR) rfl rfl) ?_;rw[apy];rw[if_pos (of_decide_eq_true aE)]at a0;refine g6 _ _ ⟨λo=>if o=k then t+1 else P o,λo ac=>?_,M.set _⟩;grind;rw[if_neg (of_decide_eq_false aE)]at a0;refine g6 _ _ ⟨P,λo ac=>?_,M⟩;grind
     rintro F R ⟨d5,m2,fd⟩;rw[a6,O];exact hu (k+1,d5,R) ⟨aR,m2,fd⟩ (by simp;omega)
    ·have:k=Z d:=by simp at h;omega
     subst this;have a2:∀o(h:o<Z d),nQ V m (dx d l f) (t+2) d[o] (w o) (P o):=λo ac=>by
      have:=a2 o ac;rwa[if_pos ac]at this
     let⟨i1,lw⟩:=au.ow (d9 M.tail);refine e4 _ (apl (T:=i1) (F:=false) ah u (by grind[Sm]) (f6 bD.v)) (.cons _ _ _ _ _ (by rw[au.pl.1];exact lw) (.cons _ _ _ _ _ (Im.snap (by simp)) (.cons _ _ _ _ _ (Im.snap (by simp)) (.nil _)))) (.bool _) ?_;refine b (λds=>?_) (λds=>?_)
     ·have ds:ah=u:=of_decide_eq_true ds
      have i8:=g4 ds;have em:Holds p ([(id,.arr g 3 ((dx d l f).map (cF ab)))]++[(0,qi (Z d) P)]):=by
       rw[<-i9]at M;exact M.two
      let⟨az,bi,iC,d6,bv⟩:=xm.app (bytes:=40) (bB.j bB.of) em (dQ:=hH) (lu:=ah) (au.rd (d9 M.tail)).1 (by omega);refine aY d6 ?_;have d7:=bv.get (AF ..);refine w8 rfl (NU (gD:=dx d l (f+1)) d7 (by simp;omega) (λs hf=>?_) (by grind) g7) ?_;grind;refine g5 _ _ ⟨P,az,bi,_,_,by rw[f3.length_eq,<-i8],λk h=>v1 k h K (P k) (λaZ=>?_) (λmd=>(a2 k h).out md),?_⟩
      refine(a2 k h).done aZ (U:=t) (by omega) ?_;grind[gW,List.getElem_mem]
      ·exact(bv.set (.arr bi 3 ((dx d l (f+1)).map (cF ab)))).perm (List.Perm.swap ..)
     rw[a6,O];refine ht (t+1,P,eS ab (cF ab) u,p) ⟨λo ac=>?_,a2,.inl (by rw[g1,g0]),M⟩ (by simp;omega);grind
  rintro F R ⟨d3,az,be,a4,d4,rfl,m1,fd⟩;simp only[G];rw[a6,O];exact hs (f+1,d3,_,R) ⟨(by show f+1<=Z l;omega),m1,az,be,rfl,fd⟩ (by simp;omega)
 have:f=Z l:=by simp at h;omega
 subst this;refine⟨.aB [eS ab (cF ab) d,eS ab cN ((ay (Z d)).map w),I 0],?_,w,by grind,rfl⟩;have e0:=es.get (AF ..);refine .aB _ _ _ (.cons _ _ _ _ _ (Im.snap (by simp)) (.cons _ _ _ _ _ ?_ (.cons _ _ _ _ _ (.int _ _ _) (.nil _))));have e0:L[0]?=aa (.arr 0 1 (((ay (Z d)).map w).map cN)):=by
  rw[e0];simp[qi,b8]
 have:=h8 e0 (by simp);simp_all
theorem Z1(b:b9<=q9):∀(k:Nat){a:Int},lQ f b9 k a<=b9->lQ f q9 k a=lQ f b9 k a
 |0,a,h=>rfl
 |k+1,a,h=>by
  rw[lQ]at h⊢;rw[lQ];split at h;rename_i c;rw[if_pos (by omega),if_pos c];exact Z1 b k h;omega
theorem Z2(a:f<=b9)(h:kK V X f=ad):kK V X b9=true:=by
 simp only[kK,bc,eL,gZ,decide_eq_false_iff_not]at h⊢;grind[Z1]
noncomputable def Cm(b:D)(a:List S):Bool:=y (Z a<=14)&&kK b a 190&&uG b&&hP b a&&a.all (p8 b)
theorem apA(h:Cm V X=ad):xl V X/\Z X<=14:=by
 simp only[Cm,bc,decide_eq_true_eq]at h;let⟨⟨⟨⟨c,a⟩,b⟩,d⟩,e⟩:=h;simp only[uG,bc,beq_iff_eq]at b;have a:=Z2 (b9:=3000) (by omega) a;exact⟨⟨a,As a,yw.1 b.1.1,by simp_all,by simp_all,d,e⟩,c⟩
theorem k6(b:D)(d:List S)(m:eI b)(l:Sm d)(t:∀s∈d,dX s.af):PR C 6 [.agg (cP ab T b),eS F (cF ab) d] (.bool (Cm b d)):=by
 refine r6.pr ?_;simp only[eP,O,gS];refine eb (M:=[]) (!(y (Z d<=14)&&kK b d 190&&uG b&&hP b d)) (λL w=>?_) ?_;simp only[a1,eX,O];refine ei (λn=>?_) (by grind);have n:y (Z d<=14)=true:=by
  have:=of_decide_eq_false n;exact decide_eq_true (by omega)
 refine c (air b d 190 (by omega) m l) ?_;simp only[bK,O];refine ei (λh=>?_) (by grind);have h:kK b d 190=true:=by simpa using h
 have p:=As (Z2 (b9:=3000) (by omega) h);obtain⟨B,x,-⟩:=Ar p;refine c (YD b m x B (EA p)) ?_;simp only[bK,O];refine ei (λg=>?_) (by grind);have g:uG b=true:=by simpa using g
 have E:iW b:=by
  simp only[uG,bc]at g;exact yw.1 g.1.1
 refine c (Vo b d m (Ih E) l t) ?_;simp only[bK,O];grind;simp only[G];refine dw (by simp_all[Cm]) (λh=>?_);have u:hP b d=true:=by
  simp only[bc]at h;exact h.2
 have v:=YE u;refine eC (U:=Z d) (c:=λf=>[ff,I f]) (λf=>(d.take f).all (p8 b)=ad) (by simp) rfl (λf j z q w=>?_) (λz q=>?_);obtain⟨r,o,k⟩:=v _ (bp j);have K:p8 b d[f]=b.Q[r].eo:=by
  unfold p8;rw[k,eN,bu o]
 simp only[i,G,a1,A,O,a,j,decide_true,bj,aK,kt,e,aF j (fR _ _),qI,k,aF o (jg _ _),F4,bK];refine a8 ?_;refine dw (λH=>bJ ?_) (λH=>?_);grind[Cm];rw[l.inc j,O];grind[n5];simp only[i,G,a1,A,O,a,cn,decide_false];refine bz (jj ?_);grind[Cm]
theorem Z5(h:dY V cq X U=dY V cq X (U+1)):∀s,dY V cq X (U+s)=dY V cq X U
 |0=>rfl
 |s+1=>by
  show fC V cq (dq V X (dY V cq X (U+s)))=_;rw[Z5 h s];exact h.symm
theorem Ck.Z6(h:Ck V cq X b3 U)(c:N<U):dY V cq X N≠dY V cq X (N+1):=λb=>by
 obtain⟨a,rfl⟩:∃a,U=N+a:=⟨U -N,by omega⟩;have:=h.at';rw[Z5 b]at this;exact h.no N c this
section
variable{p:D}{fs m:List S}
section
variable(Fi:xl p fs)(hp:e9 p (gK p fs))(nh:j7 p (ts p) fs (aa m))(Z7:iL m=ab)
include Fi hp nh
omit nh in
theorem NZ{m:List S}(nh:j7 p (ts p) fs (aa m)):bH p (gK p fs) m:=(Iy Fi.val hp Fi.form nh).2.v
end
end
def jr(e:List S)(a:List Int)(w:Nat->Nat)(c:Nat):List Nat:=((ay c).filter λd=>match e[d]? with|aa b=>a.contains b.ai|ae=>ab).map w
theorem apH{w:Nat->Nat}(a:U<Z X):jr X cq w (U+1)=if cq.contains X[U].ai=ad then jr X cq w U++[w U]else jr X cq w U:=by
 unfold jr;rw[uK,yS,hE];grind
theorem aaa{w:Nat->Nat}:N∈jr X cq w U<->∃a,∃_:a<Z X,a<U/\X[a].ai∈cq/\w a=N:=by
 simp only[jr,cy,l4,iw];grind
theorem N0:∀(b:List Nat)(a:Nat),b.foldl max a=a\/b.foldl max a∈b
 |[],a=>.inl rfl
 |x::b,a=>by
  rw[ni];rcases N0 b (max a x)with h|h;grind;grind
theorem apI(F:xl V X)(z:e9 V (gK V X))(P:j7 V (ts V) X (aa gD))(aA:iL gD=ab){w:Nat->Nat}(aR:IH V gD w)
 (e:U<Z (fa (Z V.Q) (c4 V)))(bi:∀o∈(fa (Z V.Q) (c4 V))[U],∀(K:o<Z V.Q),V.Q[o].of<0)
 (q:1<=N)(r:N<=(jr gD ((fa (Z V.Q) (c4 V))[U].map cu) w (Z gD)).foldl max 0):
 N∈jr gD ((fa (Z V.Q) (c4 V))[U].map cu) w (Z gD)/\N<=Z (jr gD ((fa (Z V.Q) (c4 V))[U].map cu) w (Z gD)):=by
 have x:=IG F z P aA;have au:=NZ F z P;have B:∀N(_:N<Z gD),pw V gD (fa (Z V.Q) (c4 V)) (Z (fa (Z V.Q) (c4 V))) gD[N] (w N):=aR;have y:=x.IF U e;have af:=x.NY U e;have ak:=x.lt;generalize fa (Z V.Q) (c4 V)=c at*;generalize ac:jr gD (c[U].map cu) w (Z gD)=n at*;have J:∀d,d∈n<->∃f,∃_:f<Z gD,f<Z gD/\gD[f].ai∈c[U].map cu/\w f=d:=λd=>by rw[<-ac];exact aaa
 have am:=(N0 n 0).resolve_left (by omega);generalize n.foldl max 0=R at*;obtain⟨f,L,-,M,rfl⟩:=(J _).1 am;have p:oy V c[U]=false:=by
  rw[<-yV];intro p;have:=(B f L).eo U e e M p;omega
 have aE:=(B f L).view U e e M p;have I:=af p;have k:=λa=>q2 (c:=c[U].map cu) z y.v a;have H:∀{E:List S},bH V (gK V X) E->∀b∈E,b.ai∈c[U].map cu->b.aj= -1:=λh b l s=>by
  let⟨o,K,G⟩:=cy.1 s;have G:b.ai=(o:Int):=G.symm;have be:=ak _ (bp e) o K;apply(h.ok b l).none;simp_all[uE,yF,if_pos]
 have sub:∀{t u:List S},bH V (gK V X) t->bH V (gK V X) u->en V t u->∀b∈t,b.ai∈c[U].map cu->b∈u:=λq r ah b l s=>by
  let⟨g,W,Y,a5,_⟩:=ah b l;have a3:=H q b l s;have a4:=H r g W (by rw[Y];exact s);have:g=b:=by
   cases g;cases b;simp_all
  grind
 have up:∀a i,∀b∈dY V (c[U].map cu) (dx gD c U) a,b∈dY V (c[U].map cu) (dx gD c U) (a+i):=λa i=>by
  induction i with
  |zero=>grind
  |succ i T=>exactλb l=>sub (k _).v (k _).v (ZU I y.v (a+i)) b (T b l) ((k _).inc b (T b l))
 have key:∀N,1<=N->N<=w f->N∈n:=λN q r=>by
  obtain⟨a,rfl⟩:∃a,N=a+1:=⟨N -1,by omega⟩;have ax:=aE.Z6 (N:=a) (by omega);have:∃d∈dY V (c[U].map cu) (dx gD c U) (a+1),d∉dY V (c[U].map cu) (dx gD c U) a:=by
   refine xu λaz=>ax ?_;refine Cj (nK.1 (k _).v.dF) (nK.1 (k _).v.dF) λd=>⟨up a 1 d,λj=>xu λh=>az ⟨d,j,h⟩⟩
  let⟨d,j,aZ⟩:=this;have C:=(k (a+1)).inc d j;have a0:d∈gD:=(gW.1 (sub (k _).v (au.part _) (NW I y (a+1)) d j C)).1;obtain⟨m,A,rfl⟩:=sL a0;have O:=(B m A).view U e e C p;refine(J _).2 ⟨m,A,A,C,?_⟩;have a9:¬a+1<w m:=λh=>O.no (a+1) h j;have ba:¬w m<=a:=λh=>by
   obtain⟨i,rfl⟩:∃i,a=w m+i:=⟨a -w m,by omega⟩;exact aZ (up (w m) i _ O.at')
  omega
 refine⟨key N q r,?_⟩;have:=zQ (b:=List.range' 1 (w f)) (a:=n) (List.nodup_range' ..) λd j=>by
  rw[List.mem_range'_1]at j;exact key d j.1 (by omega)
 grind
theorem apJ(a b:Nat):sR [I (a:Int),I (b:Int)]=aa (I ((max a b:Nat):Int)):=by
 grind[sR]
theorem k4(ba:e8 C)(be:xj C)(ce:yx C)(Ap:∀L f,C 30 [.sl L []] f (.q (Z f+1) 0 0 0) (f++[.arr 0 3 [],.arr 0 3 []]))(a5:PR C 5 [] (.bool ad))(j:D)(M:List S)(ah:eI j)(c1:Sm M)(W:∀ak∈M,dX ak.af):
 PR C 4 [.agg (cP ab T j),eS F (cF ab) M] (.bool ad):=by
 refine r4.pr ?_;simp only[eP,O,gS];refine c a5 ?_;refine c (k6 j M ah c1 W) ?_;rw[bK,O];refine dw (λ_=>.bool _ _) (λh=>?_);let⟨u,f2⟩:=apA h;let⟨fn,aR,d1,ca,cc⟩:=k7 ba be ce Ap (T:=T) (F:=F) u ah W;rcases fn with _|m;refine c (ca rfl) ?_;refine aI (dR:=eS ab (cF ab) ([]:List S)) rfl (aI (dR:=eS ab cN ([]:List Nat)) rfl (aI (dR:=I 2) rfl ?_));simp only[cx,di,O]
 refine eb (M:=[]) ad (λg x=>ei (λh=>by simp at h) (λ_=>kB x rfl)) ?_;simp only[G];refine a8 ?_;refine eb (M:=[]) ad (λg x=>?_) (.bool _ _);refine aW (λ_=>?_) (λh=>by cases h);refine aW (λ_=>?_) (λh=>by simp at h);simp only[a1,di,O];simp_all;obtain⟨_,bD,w,aZ,rfl⟩:=cc m rfl;let⟨d0,Y⟩:=d1 m rfl;have E:=Cc u.kK u.val ah W u.EE;have gt:=d0.small E.v Y;have ci:=EA u.nG u.val;have ge:=E.v.Q
 have J:=IG u E.v aR Y;have d7:=λg x U d bm bv=>apI u E.v aR Y aZ (U:=g) x U (N:=d) bm bv;have dl:=J.lt;have c2:=J.len;have gc:=J.num;have br:=zW (T:=false) (F:=T) j ci;have d3:Z ((ay (Z m)).map w)=Z m:=by simp
 have d2:∀d(o:d<Z ((ay (Z m)).map w)),((ay (Z m)).map w)[d]=w d:=λd o=>by simp
 have el:∀d,d<Z m->w d<=1000000:=λd o=>by
  by_cases am:w d=0;omega;have ac:=aZ d o;by_cases K:∃p,∃s:p<Z (fa (Z j.Q) (c4 j)),m[d].ai∈(fa (Z j.Q) (c4 j))[p].map cu;let⟨p,s,K⟩:=K;have P:oy j (fa (Z j.Q) (c4 j))[p]=false:=by
   rw[<-yV];intro P;exact am (ac.eo p s s K P)
  have d4:=ac.view p s s K P;have:=ZW (J.NY p s P) (J.IF p s).v (w d) λg3 d9=>d4.Z6 d9;omega;exact absurd (ac.none λp s _ E=>K ⟨p,s,E⟩) am
 refine c bD ?_;refine aI (dR:=eS ab (cF ab) m) rfl (aI (dR:=eS ab cN ((ay (Z m)).map w)) rfl (aI (dR:=I 0) rfl ?_));generalize fa (Z j.Q) (c4 j)=n at*;generalize(ay (Z m)).map w=rs at*;simp only[a1,cx,O,d3];refine eb (M:=[]) ab (λg x=>?_) ?_;refine ei (λ_=>kB x (by simp)) (λh=>by simp at h);simp only[G];refine bz ?_;refine c br ?_
 refine bG (K:=Nat×List Obj) (λB=>[ff,I B.1]) (λB=>B.2) (λB=>Z n -B.1) (λB=>B.1<=Z n) (0,[]) (vL _) ?_;rintro⟨g,f⟩ x fx a0;simp only at x a0⊢;simp only[i,G,a1,A,O,a];refine b (λh=>?_) (λ_=>.bool _ _);have R:g<Z n:=by simpa using h
 have az:=bp R;have f5:=c2 _ az;have aj:∀f,bT 1 (eS ab cG n) (I (g:Int)) f=aa (.aH ab (cG n[g]) 0):=λf=>aF R (D2 _);have f4:Z (n[g].map cu)<=24:=by rw[kc];omega
 refine kR (λF _=>∃r,F=ff::r) (λes co=>?_) ?_;refine eC (U:=Z n[g]) (c:=λd=>[.bool ((n[g].take d).all λk=>y ((j.Q[k]?.map cO.of).getD 0<0)),I d]) (λ_=>True) trivial (by simp) (λd o _ a9 f7=>?_) (λ_ a9=>?_);have N:=dl _ az _ (bp o);simp only[i,G,aj,O,aK,zU,a1,A,a,o,decide_true];refine a8 ?_
 have bi:((n[g].take (d+1)).all λk=>y ((j.Q[k]?.map cO.of).getD 0<0))=(((n[g].take d).all λk=>y ((j.Q[k]?.map cO.of).getD 0<0))&&y (j.Q[n[g][d]].of<0)):=by
  rw[iu o,List.all_append];simp[bu N]
 refine eb (M:=f) ((n[g].take (d+1)).all λk=>y ((j.Q[k]?.map cO.of).getD 0<0)) (λg0 aE=>?_) ?_;rw[bi]at aE;refine aW (λH=>?_) (λH=>kB aE (by rw[H]<;>rfl));have eq:∀t,bT 1 (eS ab cN n[g]) (I (d:Int)) t=aa (.aH ab (cN n[g][d]) 0):=λt=>aF o (K2 _);simp only[bj,aK,kt,e,O,eq,GU,aF N (jg _ _),Dh,A];grind;simp only[G];rw[a6,O];grind;simp only[i,G,aj,O,aK,zU,a1,A,a,cn,decide_false,dU];refine bz ?_
 refine aY (dR:=.q (Z f) 0 0 0) (oK:=f++[.arr 0 1 []]) rfl ?_;have ax:∀(r:List AV)(t:List Obj),es (ff::r) t:=λr t=>co _ _ ⟨r,rfl⟩;have d5:=d7 g R;generalize cl:n[g].map cu=l at*;have d8:∀d,d<=Z m->Z (jr m l w d)<=d:=λd o=>by
  unfold jr;rw[kc];exact iP (pA ..) (by simp)
 refine bG (K:=Nat) (λd=>[I (Z (jr m l w d):Nat),I (((jr m l w d).foldl max 0:Nat):Int),.q (Z f) (Z (jr m l w d)) 0 (Z (jr m l w d)),I d]) (λd=>aX (f++[.arr 0 1 []]) (Z f) 1 cN (Z (jr m l w d)) (jr m l w d)) (λd=>Z m -d) (λd=>d<=Z m) 0 (vL _) ?_ (by simp[jr]) (by simp[jr,aX]);intro d o f0 a2;have go:=d8 d o;simp only[i,G,A,O,a];refine b (λh=>?_) (λh=>?_);have X:d<Z m:=by simpa using h
 have V:=a2 (d+1) X (by omega);rw[apH X]at V;have aA:d<Z rs:=by omega
 have em:=d2 d aA;rw[bw];simp only[aj,O,aK,zU,aF X (fR _ _),bj,qI,e,D7,cl];refine c (Zg l m[d].ai (by grind[Sm])) ?_;have fd:∀f,bT 1 (eS ab cI (rs.map cu)) (I (d:Int)) f=aa (.aH ab (cN (w d)) 0):=λf=>by rw[<-D7,aF aA (K2 _),em]
 refine b (λau=>?_) (λau=>?_);rw[if_pos au]at V;rw[a6,O];simp only[fd,O,aK,GU,apJ,Bv];refine yg (a7:=cN) (by simp) rfl (by omega) ?_;simp only[i,G];rw[a6,O];simp_all;rw[if_neg (by grind)]at V;simp only[i,G];rw[a6,O];exact V;have:d=Z m:=by simp at h;omega
 subst this;clear a2;rw[bK,O];refine dw (λ_=>ax _ _) (λU=>?_);have U:∀k∈n[g],∀(N:k<Z j.Q),j.Q[k].of<0:=λk f3 N=>by
  grind
 have d6:=d5 U;have ds:(aX (f++[Obj.arr 0 1 []]) (Z f) 1 cN (Z (jr m l w (Z m))) (jr m l w (Z m)))[Z f]?=aa (.arr (Z (jr m l w (Z m))) 1 ((jr m l w (Z m)).map cN)):=n9 (by simp);have f9:(jr m l w (Z m)).foldl max 0<=1000000:=by
  rcases N0 (jr m l w (Z m)) 0 with h|h;omega;let⟨p,s,_,_,H⟩:=aaa.1 h;rw[<-H];exact el p s
 generalize aX (f++[Obj.arr 0 1 []]) (Z f) 1 cN (Z (jr m l w (Z m))) (jr m l w (Z m))=t at*;generalize jr m l w (Z m)=z at*;refine bG (K:=Nat) (λd=>[ff,I ((d+1:Nat):Int)]) (λ_=>t) (λd=>z.foldl max 0+1 -d) (λd=>d<=z.foldl max 0) 0 (vL _) ?_;intro d o f1 gQ;simp only[i,G,la,O,Int.ofNat_le];refine b (λh=>?_) (λ_=>ax _ _);have h:d+1<=z.foldl max 0:=by simpa using h
 let⟨f6,f8⟩:=d6 (d+1) (by omega) h;refine eb (M:=t) ab (λg1 cs=>?_) ?_;simp only[eX,O];refine ei (λ_=>?_) (λh=>by have:=of_decide_eq_true h;omega);have ex:aM t .cb (AV.q (Z f) (Z z) 0 (Z z)) (eS ad cI (z.map cu)):=by
  rw[<-D7];exact o7 ds (by simp)
 refine e4 _ (Zg (T:=true) (z.map cu) ((d+1:Nat):Int) (by grind[Sm])) (.cons _ _ _ _ _ ex (.cons _ _ _ _ _ (.int _ _ _) (.nil _))) (.bool _) ?_;rw[bK,O];refine kB cs ?_;grind;simp only[G];refine bz ?_;rw[a6,O];grind;rintro F a4 ⟨r,rfl⟩;simp only[G];rw[a6,O];exact a0 (g+1,a4) R (by simp;omega)
theorem aab(h:U<Z bL)(c:bL[U].toNat<128):qs bL U=(bL[U].toNat,1):=by
 have b:U<(⟨bL.toArray⟩:ByteArray).size:=by simpa[ByteArray.size]using h
 have a:(⟨bL.toArray⟩:ByteArray)[U]'b=bL[U]:=rfl;have:=decode_ascii ⟨bL.toArray⟩ U b (by rw[a];exact c);rw[a]at this;exact this
theorem aac(h:U<Z bL)(b:¬bL[U].toNat<128):128<=(qs bL U).1:=by
 have a:U<(⟨bL.toArray⟩:ByteArray).size:=by simpa[ByteArray.size]using h
 have c:(⟨bL.toArray⟩:ByteArray)[U]'a=bL[U]:=rfl;exact(decode_high ⟨bL.toArray⟩ U a (by grind)).1
theorem N1(h:128<=f):o5 f=false:=by
 grind[decide,o5]
theorem apK(e:d):PR C 321 [.str e,.fn 222 [] [],tt] (I (b1 (λi=> !e7 i) e)):=by
 refine RX.pr ?_;refine aY (show vW (.str e) []=aa (.pB 0,[.iD e 0])from rfl) ?_;refine bG (K:=Nat) (λ_=>[I 0]) (λa=>[.iD e a]) (λa=>Z e -a) (λa=>a<=Z e/\∀f(j:f<Z e),f<a->e7 e[f]=ad) 0 ⟨by simp,λf _ h=>by omega⟩ ?_;rintro a ⟨w,n⟩ s r;by_cases h:a<Z e;refine aY (show tP (.pB 0) [.iD e a]=aa (.aB [.bool ad,.int .i64 a,.int .i32 (qs e a).1],[.iD e (a+(qs e a).2)])by simp[tP,h]) ?_
 refine aI (dR:=.bool ad) rfl ?_;refine a8 ?_;refine aI (dR:=I (a:Int)) rfl ?_;refine aI (dR:=.int .i32 (qs e a).1) rfl ?_;refine aY (dR:=222) (oK:=[.int .i32 (qs e a).1]) rfl ?_;refine c (agx _) ?_;rw[acT,O];have u:e7 e[a]=o5 ((qs e a).1:Int):=by
  by_cases g:e[a].toNat<128;rw[aab h g]<;>rfl
  have p:=aac h g;rw[N1 (by omega),e7,N1 (by omega)]
 refine b (λl=>?_) (λl=>?_);have v:o5 ((qs e a).1:Int)=false:=by simpa using l
 have:b1 (λi=> !e7 i) e=a:=tX h (λf j m=>by rw[n f j m]<;>rfl) (by grind);simp_all;have o:o5 ((qs e a).1:Int)=true:=by simpa using l
 have g:e[a].toNat<128:=xu λg=>by
  have p:=aac h g;rw[N1 (by omega)]at o;cases o
 have q:(qs e a).2=1:=by rw[aab h g]
 rw[q];refine r (a+1) ⟨h,λf j m=>?_⟩ (by omega);grind;refine aY (show tP (.pB 0) [.iD e a]=aa (.aB [.bool ab],[.iD e a])by simp[tP,h]) ?_;refine aI (dR:=.bool ab) rfl ?_;refine bz ?_;have:b1 (λi=> !e7 i) e= -1:=wq λf j=>by rw[n f j (by omega)]<;>rfl
 simp_all
variable{gC:List Obj}
theorem uR{args:List AV}{r:AV}(h:jy aU G0 U args M r gC):C U args M r gC:=h
theorem N2:Ev C:=⟨λd b a c=>uR (Yo.q rfl d b a c)⟩
theorem N3:e8 C:=⟨λa _=>apK a,by grind[uR,anT]⟩
theorem apL(e:mn V)(d:Z V.ak<=12):yD (kA dJ (gu V) (Z V.Q) (ay (Z V.Q)) TS.init).out/\Z (kA dJ (gu V) (Z V.Q) (ay (Z V.Q)) TS.init).out<=Z V.Q:=by
 have c:Nf V (pt 4) (pt 5) (pt 2) (pt 0) [one (.q 1 0 0 (Z V.Q)),.arr 0 1 (db (Z V.Q) [I 0]),one (.q 3 0 0 (Z V.Q)),.arr 0 1 (db (Z V.Q) [I 0]),one (eS ab cG ((ay (Z V.Q)).map (gu V))),one (.q 6 0 0 (Z V.Q)),.arr 0 1 (db (Z V.Q) [I 0])]:=by
  refine⟨4,5,2,0,6,3,1,rfl,rfl,rfl,rfl,by simp,λk b=>?_⟩;simp only[b5,jM,or_false]at b;rcases b with rfl|rfl|rfl|rfl|rfl|rfl|rfl<;>rfl
 have a:=Yl N2 e d (E:=.aq) (dQ:=.aq) (oF:=.aq) c;rw[Ub]at a;let⟨i,g,_,_,j⟩:=Kz (An:=Ac) (X:=C) yE _ _ _ a;grind[zu]
theorem N4:yx C:=λe f g b a=>by
 let⟨c,d⟩:=apL b a;refine⟨_,_,?_,anB rfl c,d⟩;refine⟨_,_,uR (Yn N2 b a),?_⟩;simp[Im.snap]
theorem N5:xj C:=⟨λ{v b s r j id} a c l d f t=>by
 have i:=d.get (U:=id) (hL:=.arr 0 3 [cF ab c]) (by simp);rcases l with⟨rfl,rfl,rfl⟩|⟨e,g,rfl,rfl⟩;have:a=0:=by simpa using f
 subst this;refine⟨_,_,uR (Yx i),[(Z j,.arr 0 3 [cF ab c])],bB.of (x:=[c]),?_⟩;exact Holds.alloc d.tail _;have o:=d.get (U:=e) (hL:=.arr g 3 (b.map (cF ab))) (by simp);have n:e≠id:=by
  have:=d.1;simp only[eg,kZ,b5,hD,dK,not_or]at this;exact(by omega)
 have k:(b.map (cF ab)).take a++cF ab c::(b.map (cF ab)).drop a=(b.take a++c::b.drop a).map (cF ab):=by
  simp[OE,IZ]
 have h:=Yw (z:=a) o (by simp) i n f (by omega);rw[k]at h;refine⟨_,_,uR h,[(e,.arr (g+1) 3 ((b.take a++c::b.drop a).map (cF ab)))],?_,?_⟩;have m:Z b+1=Z (b.take a++c::b.drop a):=by simp;omega
 rw[m];exact bB.of;exact Holds.set d.tail _⟩
open Go.Proofs.YtegalmbcaggfiaaGreatDoor Go.Deep Go.ChangeShapes Go.WideShapes Go.ChangeAt Go.RowKit
variable{bE:List AV}{ct:Nat -> Bool}{bA:Value}{oN:List MemPlace}
section
variable{H:Type}{enc:TypeId×Value->H}{P:Program}
theorem aad{w:World}{l:String}{g:Nat}(r:P.globalNamed l=aa g)(j:w.var? P l=aa eG)(f:RL (E0 w) bE (bI eG))(q:∀b∈bE,b.bU=ad):R (E0 w).base (.aH ab bE 0) (.pointer (aa ⟨g,0,ae⟩)):=by
 let⟨d,c,m⟩:∃d c,w.heap[g]?=aa (.cells eG d c):=by
  grind[World.var?]
 have s:=f.length;have i:((bI eG).drop 0).take (Z bE)=bI eG:=by rw[ll,gP (by omega)]
 have one:∀{vs:List AV}{a:List Value},RL (E0 w) vs a->(∀b∈vs,b.bU=ad)->∀e∈a,e.oneCell'=true:=by
  intro vs a h;induction vs generalizing a with
  |nil=>intro _ e o;cases h;simp at o
  |cons b vs t=>
   cases h with
   |cons _ e _ a j i=>
    intro n u k;rcases b5.1 k with rfl|k;exact j.CG (n _ (by simp));grind
 exact R.aH (E:=(E0 w).base) ab bE 0 g 0 eG d c (by show g<w.heap.size;grind) m (by grind) (by rw[i];exact f) (by grind)
theorem apM{w:World}(a:Fr (E0 w) Y)(d:MemPlace->Prop):w.keptBut Y.w d:=by
 refine⟨a.os,a.output,λb c=>?_⟩;have e:Y.w.heap[b]?=w.heap[b]?:=a.heap b c (λ_ _ h=>by cases h) (λ_ h=>by cases h);grind
theorem apN{w:World}(e:Fr (E0 w) Y){b:MemPlace}(d:b.block<w.heap.size):w.sameAt Y.w b:=by
 have c:∀a,a<w.heap.size->Y.w.heap[a]?=w.heap[a]?:=λa f=>e.heap a f (λ_ _ h=>by cases h) (λ_ h=>by cases h);cases b with
 |cell a off=>simp only[World.sameAt,World.cell?,c a d]
 |map a=>exact c a d
theorem apO{w:World}(a:Fr (E0 w) Y){off:Nat}(b:U<w.heap.size):Y.w.frozen? ⟨U,off,ae⟩=w.frozen? ⟨U,off,ae⟩:=by
 have c:Y.w.heap[U]?=w.heap[U]?:=a.heap U b (λ_ _ h=>by cases h) (λ_ h=>by cases h);grind[World.frozen?]
theorem aae{w:World}{T:TypeId->Prop}(g:Kids P T)(j:∀{d b:TypeId},T d->P.underlying d=aa (.slice b)->0<P.cellsOf b):∀{e:List TypeId}{vs:List Value}{f:List (DataW H)}{c:List MemPlace},(∀d∈e,T d)->DataW.TrodAll enc P w 0 (λ_=>ad) ad e vs f c->(∀a∈c,w.sameAt e2 a)->(∀a∈c,ct a.block=ad)->DataW.TrodAll enc P e2 0 ct ad e vs f c
 |[],[],[],_,_,h,_,_=>h
 |_::_,_::_,_::_,_,n,⟨a,l,⟨k,m⟩,i,b⟩,o,p=>
  ⟨a,l,⟨k,by grind[DataW.trod_stays]⟩,
   aae g j (by grind) i (by grind) (by grind),b⟩
theorem apP{c:Func}{e:ChangeSpec}{fresh:Bool}{W:World}{args:Array Value}{f gs:List (DataW H)}{h i:List MemPlace}
 (j:DataW.Whole enc P (bI c.params) e.vars T W (bI args) f gs oN)
 (n:∀(a:Nat)(d:Nat->Bool)(s:Bool),DataW.TrodAll enc P e2 a d s (bI c.resultTypes) (bA.resultList c.resultTypes.size) (e.fn H (f++gs)).results [])
 (k:∀d:Nat->Bool,(∀b∈oN,d b.block=ad)->DataW.TrodAll enc P e2 0 d ad (bI c.params) (bI args) (e.fn H (f++gs)).args h)
 (o:∀d:Nat->Bool,(∀b∈oN,d b.block=ad)->DataW.TrodVars enc P e2 d e.vars (e.fn H (f++gs)).vars i)
 (x:oN=h++i)(u:W.keptBut e2 (· ∈oN))(t:∀a off,a<W.heap.size->e2.frozen? ⟨a,off,ae⟩=W.frozen? ⟨a,off,ae⟩)
 (w:∀(p:Nat)(q:TypeId)(r:Value),c.resultTypes[p]?=aa q->(bA.resultList c.resultTypes.size)[p]?=aa r->Value.okWide P e2 .any 0 q r):
 e.post enc P c T fresh F bC W args bA e2:=by
 have l:∀b∈oN,(λa=>y (a<W.heap.size)) b.block=true:=λb g=>by simpa using j.lt b g
 refine⟨f,gs,oN,[],h,i,j,n _ _ _,k _ l,o _ l,World.keptBut_mono (λb g=>⟨g,?_⟩) u,λ_=>?_⟩;grind;have v:=j.lt;let⟨_,_,_,_,_,z,A⟩:=j;refine⟨w,_,_,([]++h)++i,⟨[]++h,i,trodAll_append (k _ (λ_ _=>rfl)) (n _ _ _),o _ (λ_ _=>rfl),rfl,?_,?_⟩,?_⟩;intro a off g;have m:MemPlace.cell a off∈oN:=by rw[x];simpa using g
 rw[t a off (v _ m)];exact z a off m;grind;grind
end
def tl:List Nat:=[27,28,22,23,24,25,151,212,48,91,38,9,122,128,3,31,4,85,84,89,87,168,93,36,131,5,246]
def yM(b:Program)(e:Nat):Bool:=match b.underlying e with
 |aa (.pointer a)=>tl.contains a
 |aa (.slice a)=>tl.contains a&&y (0<b.cellsOf a)
 |aa (.array g a)=>tl.contains a&&y (b.cellsOf e=g*b.cellsOf a)
 |aa (.struct d)=>((bI d).all λc=>tl.contains c.type)&&y (b.cellsOf e=((bI d).map λc=>b.cellsOf c.type).sum)&&(ay (Z (bI d))).all λf=>((bI d)[f]?).all λc=>y (c.offset=(((bI d).take f).map λc=>b.cellsOf c.type).sum)
 |aa (.map _ a)=>tl.contains a
 |_=>ad
theorem apQ:(tl.all λa=>yM aU a)=true:=by kernel_rfl
theorem Cn(h:U∈tl):yM aU U=true:=by grind[apQ]
theorem apR:Kids aU (· ∈tl)where
 pointer:=λa b=>by have:=Cn a;grind[yM]
 slice:=λa b=>by have:=Cn a;grind[yM]
 array:=λa b=>by have:=Cn a;grind[yM]
 struct:=λ{t c} a b=>by
  have:=Cn a;grind[yM]
 map:=λa b=>by have:=Cn a;grind[yM]
variable{cr:TypeId}
theorem apS(a:u∈tl)(b:aU.underlying u=aa (.slice cr)):0<aU.cellsOf cr:=by
 have:=Cn a;grind[yM]
theorem apT:aU.globalNamed "porism/lattice.keys"=aa 2:=by kernel_rfl
theorem apU:aU.globalNamed "porism/porismref03.Keys"=aa 1:=by kernel_rfl
theorem apV:aU.globalNamed "porism/value.words"=aa 0:=by kernel_rfl
theorem apW:(aU.globals[2]?).map (·.type)=aa 122:=by kernel_rfl
theorem apX:(aU.globals[1]?).map (·.type)=aa 122:=by kernel_rfl
theorem apY:(aU.globals[0]?).map (·.type)=aa 279:=by kernel_rfl
theorem apZ:aU.underlying 122=aa (.slice 9):=by kernel_rfl
theorem aaf:aU.underlying 9=aa .string:=by kernel_rfl
theorem ap0:aU.underlying 279=aa (.array 10 9):=by kernel_rfl
theorem ap1:aU.cellsOf 279=10:=by kernel_rfl
theorem ap2{W:World}(h:laidMetH aU Rows.deriveRoundsUptoRow.laid W):laidMet aU [("porism/lattice.keys",Rows.laid_porism_lattice_keys),("porism/porismref03.Keys",Rows.laid_porism_porismref03_Keys),("porism/value.words",Rows.laid_porism_value_words)] W:=h
theorem ap3:(Rows.laid_porism_lattice_keys:DataW K)=.slice (gJ.map ub) []:=rfl
theorem ap4:(Rows.laid_porism_porismref03_Keys:DataW K)=.slice (gJ.map ub) []:=rfl
theorem ap5:(Rows.laid_porism_value_words:DataW K)=.agg (gJ.map ub):=rfl
theorem aag{W:World}{g:Nat}{a:String}(b:aU.globalNamed a=aa g)(c:W.var? aU a=aa eG)(d:DataW.trod (λ_=>()) aU W 0 (λ_=>ad) ab U 122 (bI eG)=aa (.slice (gJ.map ub) [],oN)):R (E0 W).base (.aH ab [.sl ab (gJ.map λh=>[.str h])] 0) (.pointer (aa ⟨g,0,ae⟩)):=by
 let⟨j,e,f⟩:=ahH (p:=gJ) (by decide) apZ aaf pU d;exact aad b c (by rw[e];exact .cons _ _ _ _ f .nil) (by simp)
theorem ap6{W:World}{g:Nat}{a:String}(b:aU.globalNamed a=aa g)(c:W.var? aU a=aa eG)(d:DataW.trod (λ_=>()) aU W 0 (λ_=>ad) ab U 279 (bI eG)=aa (.agg (gJ.map ub),oN)):R (E0 W).base (.aH ab (gJ.map .str) 0) (.pointer (aa ⟨g,0,ae⟩)):=by
 let⟨f,e⟩:=ahG (p:=gJ) ap0 aaf pU ap1 d;exact aad b c (KQ f e) (by simp)
theorem ap7{W:World}(h:laidMetH aU Rows.deriveRoundsUptoRow.laid W):du G0 (E0 W):=by
 let⟨I,⟨o,r,u,y,F,J,a,i,l,d,⟨p,s,v,z,G,K,b,j,m,e,⟨q,t,w,A,H,L,c,k,n,f,_,_⟩,_⟩,_⟩,_,_⟩:=ap2 h;obtain rfl:2=o:=yY (apT.symm.trans a);obtain rfl:1=p:=yY (apU.symm.trans b);obtain rfl:0=q:=yY (apV.symm.trans c);obtain rfl:122=r:=yY (apW.symm.trans i);obtain rfl:122=s:=yY (apX.symm.trans j);obtain rfl:279=t:=yY (apY.symm.trans k);rw[ap3]at d;rw[ap4]at e;rw[ap5]at f;have C:=aag a l d;have D:=aag b m e
 have E:=ap6 c n f;intro g x B;grind[G0]
abbrev Er:=Option (AV×List Obj)
abbrev Ke:=List AV->List Obj->Er
def fL(b:Option K)(a:K->Er):Er:=match b with|aa c=>a c|ae=>ae
def px(c:Option (K×bZ))(b:K->bZ->Er):Er:=match c with|aa a=>b a.1 a.2|ae=>ae
def IJ:List Ke->Nat->Ke
 |[],_=>λ_ _=>ae
 |v::_,0=>v
 |_::a,b+1=>IJ a b
def N6(a:List AV->List Obj->Ke->Er):Nat->Ke
 |0,_,_=>ae
 |n+1,b,h=>a b h (N6 a n)
def jK(b:K->Option bZ):List K->Option (List bZ)
 |[]=>aa []
 |a::d=>match b a with|aa c=>(match jK b d with|aa e=>aa (c::e)|ae=>ae)|ae=>ae
def lj(h:List Obj):Nat->Md->AV->Option AV
 |0,_,_=>ae
 |n+1,a,d=>match d with
  |.int _ _=>aa d
  |.bool _=>aa d
  |.str _=>aa d
  |.gE=>aa d
  |.fN=>aa d
  |.jX=>aa d
  |.undef=>aa d
  |.aq=>aa (.sl ab [])
  |.dG=>aa (.sl ab [])
  |.agg c=>(jK (lj h n a) c).map .agg
  |.aB c=>(jK (lj h n a) c).map .aB
  |.sl b e=>match a with
   |.cb=>(jK (jK (lj h n .df)) e).map (.sl b)<|>(jK (jK (lj h n .cb)) e).map (.sl ad)
   |_=>(jK (jK (lj h n a)) e).map (.sl b)
  |.q id g off len=>match a with
   |.df=>ae
   |_=>match h[id]? with
    |aa (.arr j _ e)=>if j=g/\off+len<=Z e then(jK (jK (lj h n a)) ((e.drop off).take len)).map (.sl (match a with|.cb=>ad|_=>ab))else ae
    |_=>ae
  |.aH b c off=>match a with
   |.cb=>(jK (lj h n .df) c).map (λf=>.aH b f off)<|>(jK (lj h n .cb) c).map (λf=>.aH ad f off)
   |_=>(jK (lj h n a) c).map λf=>.aH b f off
  |.ptr id g o off=>match a with
   |.df=>ae
   |_=>match h[id]? with
    |aa (.arr j _ e)=>if j=g then match e[o]? with|aa c=>(jK (lj h n a) c).map λf=>.aH (match a with|.cb=>ad|_=>ab) f off|ae=>ae else ae
    |_=>ae
  |.ih k vs=>match a with
   |.res=>ae
   |_=>match jK (lj h n a) k,jK (lj h n a) vs with|aa i,aa b=>aa (.ih i b)|_,_=>ae
  |.b7 id=>match a with
   |.cb=>match h[id]? with
    |aa (.mp _ k vs)=>match jK (lj h n a) k,jK (lj h n a) vs with|aa i,aa b=>aa (.ih i b)|_,_=>ae
    |_=>ae
   |_=>ae
  |.fn m l c=>match jK (lj h n a) l,jK (lj h n a) c with|aa i,aa b=>aa (.fn m i b)|_,_=>ae
  |.iface p d=>(lj h n a d).map (.iface p)
  |_=>ae
def Aw:Nat->AV->Bool
 |0,_=>ab
 |n+1,e=>match e with
  |.int _ _=>ad
  |.bool _=>ad
  |.str _=>ad
  |.gE=>ad
  |.fN=>ad
  |.jX=>ad
  |.undef=>ad
  |.agg a=>a.all (Aw n)
  |.aB a=>a.all (Aw n)
  |.sl _ []=>ad
  |.sl b d=> !b&&d.all λc=>c.all (Aw n)
  |.aH b a _=> !b&&a.all (Aw n)
  |_=>ab
structure CE where
 c:Nat->List AV->List Obj->Er
 p:Nat->List AV->Option AV
def IK(call:CE)(d:Nat)(b:List AV)(a:AV->Er):Er:=match call.p d b with|aa r=>a r|ae=>px (call.c d b []) λf e=>fL (lj e 30 .res f) a
def EK(call:CE)(c:Nat)(args:List AV)(h:List Obj)(b:AV->Er):Er:=
 match jK (lj h 30 .df) (args.map AV.pl)with
 |aa a=>IK call c a b
 |ae=>fL (jK (lj h 30 .cb) (args.map AV.pl)) λa=>IK call c a λr=>if Aw 30 r then b r else ae
def EL(call:CE)(b:Nat)(args:List AV)(h:List Obj)(a:AV->List Obj->Er):Er:=px (call.c b (args.map AV.pl) h) a
def N7(c:AV)(a b:Er):Er:=match c.pl with|.bool ad=>a|.bool ab=>b|_=>ae
def IL(d:AV)(w:Bool)(a b:Er):Er:=match d.pl with|.bool c=>if c=w then a else b|_=>ae
def tG(b:AV->AV->Bool):List AV->List AV->Bool
 |[],[]=>ad
 |a::d,c::e=>b a c&&tG b d e
 |_,_=>ab
def IM(b:AV->AV->Bool):List (List AV)->List (List AV)->Bool
 |[],[]=>ad
 |a::d,c::e=>tG b a c&&IM b d e
 |_,_=>ab
def sF:Nat->AV->AV->Bool
 |0,_,_=>ab
 |n+1,o,w=>match o,w with
  |.int m a,.int c b=>m==c&&a==b
  |.bool a,.bool b=>a==b
  |.str a,.str b=>a==b
  |.agg a,.agg b=>tG (sF n) a b
  |.aq,.aq=>ad
  |.dG,.dG=>ad
  |.sl a c,.sl b j=>a==b&&IM (sF n) c j
  |.q a b d e,.q f i g h=>a==f&&b==i&&d==g&&e==h
  |.b7 a,.b7 b=>a==b
  |.ptr a b d e,.ptr f i g h=>a==f&&b==i&&d==g&&e==h
  |.aH a c k,.aH b j l=>a==b&&tG (sF n) c j&&k==l
  |.undef,.undef=>ad
  |.gE,.gE=>ad
  |.oO,.oO=>ad
  |.pB a,.pB b=>a==b
  |.aB a,.aB b=>tG (sF n) a b
  |_,_=>ab
def ev(call:CE):Nat->Bool->List In->List AV->List Ke->List Obj->Er
 |0,_,_,_,_,_=>ae
 |_+1,_,[],_,_,_=>ae
 |f+1,ah,au::aj,r,ai,h=>
  match au with
  |.n ac=>fL (gk .sl (nv r ac) h) λx=>ev call f ah aj (x::r) ai h
  |.N aR ac=>fL (gk aR (nv r ac) h) λx=>ev call f ah aj (x::r) ai h
  |.L ac=>fL (aQ 1 ab (nv r ac) h) λx=>ev call f ah aj (x::r) ai h
  |.S af ac=>fL (aQ af ad (nv r ac) h) λx=>ev call f ah aj (x::r) ai h
  |.A af ac=>fL (dD af (nv r ac) h) λx=>ev call f ah aj (x::r) ai h
  |.a af ac=>fL (dD af (nv r ac) h) λx=>fL (aQ 1 ab x h) λx=>ev call f ah aj (x::r) ai h
  |.J af ac am=>fL (bT af (nv r ac) (nv r am) h) λx=>ev call f ah aj (x::r) ai h
  |.i ac am=>fL (bT 1 (nv r ac) (nv r am) h) λx=>fL (aQ 1 ab x h) λx=>ev call f ah aj (x::r) ai h
  |.s af ac am=>fL (bT af (nv r ac) (nv r am) h) λx=>fL (aQ af ad x h) λx=>ev call f ah aj (x::r) ai h
  |.b af w ac am=>fL (bT af (nv r ac) (nv r am) h) λx=>fL (dD w x h) λx=>fL (aQ 1 ab x h) λx=>ev call f ah aj (x::r) ai h
  |.C af ac=>fL (dS af (nv r ac)) λax=>ev call f ah aj (ap (gs ax af) r) ai h
  |.d af ac am=>fL (bT af (nv r ac) (nv r am) h) λx=>fL (aQ af ad x h) λx=>fL (dS af x) λax=>ev call f ah aj (ap (gs ax af) r) ai h
  |.D af ac=>fL (aQ af ad (nv r ac) h) λx=>fL (dS af x) λax=>ev call f ah aj (ap (gs ax af) r) ai h
  |.B aR ac am=>fL (aT .s aR (nv r ac) (nv r am)) λx=>ev call f ah aj (x::r) ai h
  |.l ac am=>fL (aT .s .lss (nv r ac) (nv r am)) λx=>ev call f ah aj (x::r) ai h
  |.p ac=>fL (aT .s .add (nv r ac) (I 1)) λx=>ev call f ah aj (x::r) ai h
  |.e ac am=>fL (aT .s .eql (nv r ac) (nv r am)) λx=>ev call f ah aj (x::r) ai h
  |.m ac am=>fL (aT .s .neq (nv r ac) (nv r am)) λx=>ev call f ah aj (x::r) ai h
  |.U bk_1 aR ac am=>fL (aT bk_1 aR (nv r ac) (nv r am)) λx=>ev call f ah aj (x::r) ai h
  |.u ac=>fL (np .not (nv r ac)) λx=>ev call f ah aj (x::r) ai h
  |.E af ac=>fL (fH af (nv r ac)) λx=>ev call f ah aj (x::r) ai h
  |.I af ac=>fL (j0 af (nv r ac)) λx=>ev call f ah aj (x::r) ai h
  |.o ac=>fL (iH (nv r ac) h) λx=>ev call f ah aj (x::r) ai h
  |.O ac=>fL (nu (nv r ac)) λx=>ev call f ah aj (x::r) ai h
  |.q af=>px (ft af h) λx h=>ev call f ah aj (x::r) ai h
  |.t af ac am=>fL (dp af (nv r ac) (nv r am) h) λh=>ev call f ah aj r ai h
  |.P af w ac am=>px (cJ af w (nv r ac) (nv r am) h) λx h=>ev call f ah aj (x::r) ai h
  |.M af ac=>px (nw af (nv r ac) h) λx h=>ev call f ah aj (x::r) ai h
  |.W af az=>px (lA af (vs r az) h) λx h=>ev call f ah aj (x::r) ai h
  |.X af az w ac am=>px (uW af (vs r az) w (nv r ac) (nv r am) h) λx h=>ev call f ah aj (x::r) ai h
  |.f af az w ak=>fL (fQ af (vs r az) w (v2 r ak)) λx=>ev call f ah aj (x::r) ai h
  |.F af az w ak=>px (FJ af (vs r az) w (v2 r ak) h) λx h=>ev call f ah aj (x::r) ai h
  |.H az ak=>fL (ma (vs r az) (v3 r ak)) λax=>ev call f ah aj (.agg ax::r) ai h
  |.j af w ac am=>fL (pN af w (nv r ac) (nv r am) h) λx=>ev call f ah aj (x::r) ai h
  |.k af ak=>EK call af (vs r ak) h λx=>ev call f ah aj (x::r) ai h
  |.K af ak=>EL call af (vs r ak) h λx h=>ev call f ah aj (x::r) ai h
  |.v ac ak=>px (lK (nv r ac) (vp r ak)) λaf au=>EK call af au h λx=>ev call f ah aj (x::r) ai h
  |.V ac ak=>px (lK (nv r ac) (vp r ak)) λaf au=>EL call af au h λx h=>ev call f ah aj (x::r) ai h
  |.iv aZ ac ak=>px (rL aZ (nv r ac) (vp r ak) h) λaf au=>EK call af au h λx=>ev call f ah aj (x::r) ai h
  |.iV aZ ac ak=>px (rL aZ (nv r ac) (vp r ak) h) λaf au=>EL call af au h λx h=>ev call f ah aj (x::r) ai h
  |.x2 aA=>fL (aA r h) λx=>ev call f ah aj (x::r) ai h
  |.y2 aA=>px (aA r h) λx h=>ev call f ah aj (x::r) ai h
  |.z2 aA=>fL (aA r h) λh=>ev call f ah aj r ai h
  |.z x=>ev call f ah aj (x::r) ai h
  |.y af=>ev call f ah aj (Go.AM.I af::r) ai h
  |.g ak=>ev call f ah aj (.agg (vs r ak)::r) ai h
  |.gg a0 af=>ev call f ah aj (.agg (tk (dr r a0) af)::r) ai h
  |.fn af ak w=>ev call f ah aj (.fn af (vp r ak) (vp r w)::r) ai h
  |.Y aZ ac=>ev call f ah aj (.iface aZ (nv r ac).pl::r) ai h
  |.c ac au=>N7 (nv r ac) (ev call f ah au r ai h) (ev call f ah aj r ai h)
  |.G ac au=>IL (nv r ac) ad (ev call f ah au r ai h) (ev call f ah aj r ai h)
  |.Gf ac au=>IL (nv r ac) ab (ev call f ah au r ai h) (ev call f ah aj r ai h)
  |.r au af=>ev call f ah au r ((λax h=>ev call f ah aj (ap (gs ax af) r) ai h)::ai) h
  |.w au af ak=>N6 (λax h aE=>ev call f ah au (ap (gs ax af) r) (aE::ai) h) 2000 (vs r ak) h
  |.h au=>match ev call f ab au r [] h with|aa _=>ev call f ah aj r ai h|ae=>ae
  |.ob ac am=>if !ah&&sF 40 (nv r ac) (nv r am)then aa (.undef,[])else ae
  |.tr=>if ah then ae else aa (.undef,[])
  |.Q ac=>if ah then aa ((nv r ac).pl,h)else ae
  |.T ak=>if ah then aa (.aB (vp r ak),h)else ae
  |.R aE ak=>IJ ai aE (vs r ak) h
  |.Z aE ak a0 af=>IJ ai aE (ap (vs r ak) (tk (dr r a0) af)) h
variable{c9:Md}
theorem mx{h:List Obj}{d:AV->Option AV}(e:∀g f,d g=aa f->aM h c9 g f):∀{c r:List AV},jK d c=aa r->b6 h c9 c r
 |[],r,b=>by cases b;exact .nil _
 |a::c,r,b=>by
  simp only[jK]at b;split at b;rename_i k i;split at b;rename_i l j;cases b
  exact .cons _ _ _ _ _ (e _ _ i) (mx e j);cases b
  cases b
theorem Ax{h:List Obj}{d:AV->Option AV}(e:∀g f,d g=aa f->aM h c9 g f):∀{c r:List (List AV)},jK (jK d) c=aa r->fF h c9 c r
 |[],r,b=>by cases b;exact .nil _
 |a::c,r,b=>by
  simp only[jK]at b;split at b;rename_i k i;split at b;rename_i l j;cases b
  exact .cons _ _ _ _ _ (mx e i) (Ax e j);cases b
  cases b
variable{rC:Option K}{rD:K -> bZ}
theorem sG(h:rC.map rD=aa oK):∃a,rC=aa a/\oK=rD a:=by
 rcases rC with _|a;cases h
 cases h;exact⟨a,rfl,rfl⟩
theorem aah{b:Option K}(h:(rC<|>b)=aa dR):rC=aa dR\/b=aa dR:=by
 rcases rC with _|a;exact .inr h;exact .inl h
theorem EM{h:List Obj}:∀(n:Nat)(d:Md){k l:AV},lj h n d k=aa l->aM h d k l
 |0,_,_,_,e=>by cases e
 |n+1,d,k,l,e=>by
  have b:=λd k l=>@EM h n d k l;cases k<;>simp only[lj]at e
  case int=>cases e;exact .int _ _ _
  case bool=>cases e;exact .bool _ _
  case str=>cases e;exact .str _ _
  case gE=>cases e;exact .gE _
  case fN=>cases e;exact .fN _
  case jX=>cases e;exact .jX _
  case undef=>cases e;exact .undef _ _
  case aq=>cases e;exact .aq _ _
  case dG=>cases e;exact .dG _ _
  case agg=>obtain⟨c,a,rfl⟩:=sG e;exact .agg _ _ _ (mx (b d) a)
  case aB=>obtain⟨c,a,rfl⟩:=sG e;exact .aB _ _ _ (mx (b d) a)
  case iface=>obtain⟨c,a,rfl⟩:=sG e;exact .iface _ _ _ _ (b _ _ _ a)
  case fn=>
   split at e;rename_i c m a i;cases e;exact .fn _ _ _ _ _ _ (mx (b d) a) (mx (b d) i);cases e
  case sl=>
   cases d<;>simp only at e
   case df=>obtain⟨c,a,rfl⟩:=sG e;exact .xB _ (by decide) _ _ _ (Ax (b _) a)
   case res=>obtain⟨c,a,rfl⟩:=sG e;exact .CD _ _ _ (Ax (b _) a)
   case cb=>
    rcases aah e with e|e;obtain⟨c,a,rfl⟩:=sG e;exact .xB _ (by decide) _ _ _ (Ax (b _) a);obtain⟨c,a,rfl⟩:=sG e;exact .AK _ _ _ (Ax (b _) a)
  case aH=>
   cases d<;>simp only at e
   case df=>obtain⟨c,a,rfl⟩:=sG e;exact .uN _ (by decide) _ _ _ _ (mx (b _) a)
   case res=>obtain⟨c,a,rfl⟩:=sG e;exact .CF _ _ _ _ (mx (b _) a)
   case cb=>
    rcases aah e with e|e;obtain⟨c,a,rfl⟩:=sG e;exact .uN _ (by decide) _ _ _ _ (mx (b _) a);obtain⟨c,a,rfl⟩:=sG e;exact .AL _ _ _ _ (mx (b _) a)
  case q id g off len=>
   cases d<;>simp only at e
   case df=>cases e
   all_goals
    split at e;rename_i r s p f;split at e;rename_i j;obtain⟨c,a,rfl⟩:=sG e;obtain⟨rfl,j⟩:=j
    first|exact .vX _ _ _ _ _ _ _ f j (Ax (b _) a)|exact .pE _ _ _ _ _ _ _ f j (Ax (b _) a)
    cases e
    cases e
  case ptr id g v off=>
   cases d<;>simp only at e
   case df=>cases e
   all_goals
    split at e;rename_i r s p f;split at e;rename_i j;subst j;split at e;rename_i t o;obtain⟨c,a,rfl⟩:=sG e
    first|exact .oU _ _ _ _ _ _ _ _ f o (mx (b _) a)|exact .Fb _ _ _ _ _ _ _ _ f o (mx (b _) a)
    cases e
    cases e
    cases e
  case ih=>
   cases d<;>simp only at e
   case res=>cases e
   all_goals
    split at e;rename_i c m a i;cases e
    first|exact .y7 _ _ _ _ (mx (b _) a) (mx (b _) i)|exact .xC _ _ _ _ (mx (b _) a) (mx (b _) i)
    cases e
  case b7=>
   cases d<;>simp only at e
   case cb=>
    split at e;rename_i u w vs f;split at e;rename_i c m a i;cases e
    exact .xD _ _ _ _ _ _ f (mx (b _) a) (mx (b _) i);cases e
    cases e
   all_goals cases e
  all_goals cases e
theorem EN{d:AV->Bool}(e:∀f,d f=ad->NB f):∀{c:List AV},c.all d=ad->sT c
 |[],_=>.nil
 |a::c,b=>by
  simp only[oz,bc]at b;exact .cons _ _ (e _ b.1) (EN e b.2)
theorem aai{d:AV->Bool}(e:∀f,d f=ad->NB f):∀{c:List (List AV)},c.all (λb=>b.all d)=ad->vY c
 |[],_=>.nil
 |a::c,b=>by
  simp only[oz,bc]at b;exact .cons _ _ (EN e b.1) (aai e b.2)
theorem aaj:∀(n:Nat){b:AV},Aw n b=ad->NB b
 |0,_,a=>by cases a
 |n+1,b,a=>by
  have c:=λb=>@aaj n b;unfold Aw at a;split at a;exact .int _ _;exact .bool _;exact .str _;exact .gE;exact .fN;exact .jX;exact .undef;exact .agg _ (EN c a);exact .aB _ (EN c a);exact .Jb _;simp only[bc,gZ]at a;obtain⟨rfl,a⟩:=a;exact .sl _ (aai c a);simp only[bc,gZ]at a;obtain⟨rfl,a⟩:=a;exact .aH _ _ (EN c a);cases a
theorem Co{e:AV->AV->Bool}(f:∀g w,e g w=ad->g=w):∀{c d:List AV},tG e c d=ad->c=d
 |[],[],_=>rfl
 |a::c,h::d,b=>by
  simp only[tG,bc]at b;rw[f _ _ b.1,Co f b.2]
 |[],_::_,b=>by cases b
 |_::_,[],b=>by cases b
theorem N8{e:AV->AV->Bool}(f:∀g w,e g w=ad->g=w):∀{c d:List (List AV)},IM e c d=ad->c=d
 |[],[],_=>rfl
 |a::c,h::d,b=>by
  simp only[IM,bc]at b;rw[Co f b.1,N8 f b.2]
 |[],_::_,b=>by cases b
 |_::_,[],b=>by cases b
theorem EO:∀(n:Nat){b w:AV},sF n b w=ad->b=w
 |0,_,_,a=>by cases a
 |n+1,b,w,a=>by
  have c:=λb w=>@EO n b w;unfold sF at a;split at a
  all_goals first
   |rfl
   |(simp only[bc,beq_iff_eq]at a
     first
      |rw[a.1,a.2]
      |rw[a]
      |(let⟨⟨⟨rfl,rfl⟩,rfl⟩,rfl⟩:=a;rfl)
      |rw[a.1,N8 c a.2]
      |rw[a.1.1,Co c a.1.2,a.2])
   |rw[Co c a]
   |rw[N8 c a]
   |cases a
variable{fo ix:Prop}
section
variable{x:AV×List Obj}
theorem Cp{a:K->Er}{b:K->Prop}(h:fL rC a=aa x)(c:∀v,a v=aa x->b v):bd rC b:=by
 rcases rC with _|v;cases h
 exact c v h
theorem N9{a:Option (K×bZ)}{b:K->bZ->Er}{c:K->bZ->Prop}(h:px a b=aa x)(d:∀v w,b v w=aa x->c v w):cj a c:=by
 rcases a with _|v;cases h
 exact d v.1 v.2 h
theorem ap8{d:AV}{b c:Er}(h:N7 d b c=aa x)(e:b=aa x->fo)(f:c=aa x->ix):ez d fo ix:=by
 unfold N7 at h;unfold ez;split at h;rename_i a;rw[a];exact e h;rename_i a;rw[a];exact f h;cases h
theorem ap9{d:AV}{w:Bool}{b c:Er}(h:IL d w b c=aa x)(f:b=aa x->fo)(g:c=aa x->ix):gd d w fo ix:=by
 unfold IL at h;unfold gd;split at h;rename_i e;rw[e];split at h;rename_i a;simp only[if_pos a];exact f h;rename_i a;simp only[if_neg a];exact g h;cases h
theorem aak{c:List AV->List Obj->Ke->Er}{d:List AV->List Obj->Kt->Prop}(f:∀a h i e,c a h i=aa x->(∀a h,i a h=aa x->e a h)->d a h e):∀(n:Nat){a:List AV}{h:List Obj},N6 c n a h=aa x->jA d a h
 |0,_,_,b=>by cases b
 |n+1,a,h,b=>λI g=>g _ _ (f _ _ _ _ b λ_ _ j=>aak f n j I g)
end
section
variable{call:CE}(hC:(∀f a h x,call.c f a h=aa x->C f a h x.1 x.2)/\∀f a r,call.p f a=aa r->PR C f a r){x:AV×List Obj}
include hC
theorem aal{f:Nat}{args:List AV}{h:List Obj}{c:AV->List Obj->Er}{d:AV->List Obj->Prop}(a:EL call f args h c=aa x)(e:∀b w,c b w=aa x->d b w):ch C f args h d:=by
 unfold EL px at a;split at a;rename_i b g;exact⟨_,_,hC.1 _ _ _ _ g,e _ _ a⟩;cases a
theorem aam{f:Nat}{d:List AV}{c:AV->Er}(a:IK call f d c=aa x):∃r,PR C f d r/\c r=aa x:=by
 unfold IK at a;split at a;rename_i r b;exact⟨r,hC.2 _ _ _ b,a⟩
 ·unfold px fL at a
  split at a
  ·rename_i g e
   try dsimp only at a
   split at a;rename_i r b;exact⟨r,⟨_,_,hC.1 _ _ _ _ e,EM _ _ b⟩,a⟩;cases a
  cases a
theorem aan{f:Nat}{args:List AV}{h:List Obj}{g:AV->Er}{i:AV->Prop}(a:EK call f args h g=aa x)(j:∀k,g k=aa x->i k):cp C f args h i:=by
 unfold EK fL at a;split at a;rename_i c e;let⟨r,d,b⟩:=aam hC a;exact⟨.df,c,r,by decide,mx (λ_ _=>EM _ _) e,d,(λa=>by cases a),j _ b⟩;split at a;rename_i c e;let⟨r,d,b⟩:=aam hC a;split at b;rename_i l;exact⟨.cb,c,r,by decide,mx (λ_ _=>EM _ _) e,d,(λ_=>aaj _ l),j _ b⟩;cases b
 cases a
theorem EP:∀(n:Nat){e:Bool}{p:List In}{r:List AV}{i:List Ke}{l:List Kt}{h:List Obj}{x:AV×List Obj}{Q:AV->List Obj->Prop},ev call n e p r i h=aa x->(e=ad->Q x.1 x.2)->(∀j c h,IJ i j c h=aa x->nk l j c h)->cK Q n p r l h
 |0,_,_,_,_,_,_,_,_,b,_,_=>by cases b
 |n+1,e,[],_,_,_,_,_,_,b,_,_=>by cases b
 |n+1,e,a::p,r,i,l,h,x,Q,b,k,m=>by
  have d:=λ{p r h}(b:ev call n e p r i h=aa x)=>@EP n e p r i l h x Q b k m;cases a<;>simp only[ev]at b<;>simp only[cK]<;>first
   |exact Cp b λ_ b=>d b
   |exact N9 b λ_ _ b=>d b
   |exact d b
   |exact Cp b λ_ b=>Cp b λ_ b=>d b
   |exact Cp b λ_ b=>Cp b λ_ b=>Cp b λ_ b=>d b
   |exact aan hC b λ_ b=>d b
   |exact aal hC b λ_ _ b=>d b
   |exact N9 b λ_ _ b=>aan hC b λ_ b=>d b
   |exact N9 b λ_ _ b=>aal hC b λ_ _ b=>d b
   |exact ap8 b (λb=>d b) λb=>d b
   |exact ap9 b (λb=>d b) λb=>d b
   |exact m _ _ _ b
   |exact trivial
   |(cases b;done)
   |skip
  case r f o=>
   exact@EP n e f r _ _ h x Q b k λj c h b=>by
    rcases j with _|j;exact d b;exact m _ _ _ b
  case w f o A=>
   exact aak (c:=λc h j=>ev call n e f (ap (gs c o) r) (j::i) h) (λc h z y b s=>@EP n e f _ _ _ h x Q b k λj c h b=>by
    rcases j with _|j;exact s _ _ b;exact m _ _ _ b) 2000 b
  case h f=>
   split at b;rename_i u t;exact⟨@EP n ab f r [] l h u Q t (λb=>by cases b) (λ_ _ _ b=>by cases b),d b⟩;cases b
  case Q q=>
   split at b;rename_i g;cases b;exact k g
   cases b
  case T q=>
   split at b;rename_i g;cases b;exact k g
   cases b
  case ob q w=>
   split at b;rename_i g;simp only[bc]at g;exact EO _ g.2;cases b
end
structure Te where
 f:Nat
 k:Nat
 t:List In
 h:∀args:List AV,Z args=k->dT f args λh Q=>cK Q 999 t args [] h
variable{hJ:List String}{fj:List In}
def Oa(h:nY U [] hJ fj):Te:=⟨U,0,(dc 999 (sn hJ) fj).1,λargs a=>match args,a with|[],_=>h⟩
def gX(h:∀{a:AV},nY U [a] hJ fj):Te:=⟨U,1,(dc 999 (sn hJ) fj).1,λargs b=>match args,b with|[a],_=>h⟩
def fi(h:∀{a b:AV},nY U [a,b] hJ fj):Te:=⟨U,2,(dc 999 (sn hJ) fj).1,λargs c=>match args,c with|[a,b],_=>h⟩
def lk(h:∀{a b c:AV},nY U [a,b,c] hJ fj):Te:=⟨U,3,(dc 999 (sn hJ) fj).1,λargs d=>match args,d with|[a,b,c],_=>h⟩
def xn(h:∀{a b c d:AV},nY U [a,b,c,d] hJ fj):Te:=⟨U,4,(dc 999 (sn hJ) fj).1,λargs e=>match args,e with|[a,b,c,d],_=>h⟩
def Ob(h:∀{a b c d e:AV},nY U [a,b,c,d,e] hJ fj):Te:=⟨U,5,(dc 999 (sn hJ) fj).1,λargs f=>match args,f with|[a,b,c,d,e],_=>h⟩
def aqa(h:∀{a b c d e f:AV},nY U [a,b,c,d,e,f] hJ fj):Te:=⟨U,6,(dc 999 (sn hJ) fj).1,λargs g=>match args,g with|[a,b,c,d,e,f],_=>h⟩
def aqb(h:∀{a b c d e f g:AV},nY U [a,b,c,d,e,f,g] hJ fj):Te:=⟨U,7,(dc 999 (sn hJ) fj).1,λargs i=>match args,i with|[a,b,c,d,e,f,g],_=>h⟩
def aao(h:∀{a:AV},dT U [a] (dn fj [a])):Te:=⟨U,1,fj,λargs b=>match args,b with|[a],_=>h⟩
def jV(h:∀{a b:AV},dT U [a,b] (dn fj [a,b])):Te:=⟨U,2,fj,λargs c=>match args,c with|[a,b],_=>h⟩
def yN(h:∀{a b c:AV},dT U [a,b,c] (dn fj [a,b,c])):Te:=⟨U,3,fj,λargs d=>match args,d with|[a,b,c],_=>h⟩
def aqc:List Te:=[Oa r5,fi r7,Oa afy,lk af0,lk adO,gX adP,lk adQ,fi S7,gX RE,jV RF,jV SI,fi Rc,gX S8,jV Re,fi aeC,fi S9,gX R1,lk Si,lk SJ,fi Ta,fi Rf,gX Tc,xn afa,gX Rg,fi aef,fi aeD,Oa aeE,lk aeF,fi afA,fi aeg,fi aeG,lk aeH,lk afB,gX afb,Ob aeh,gX Sj,fi RG,gX R2,gX Td,jV R3,jV Rh,Ob afD,gX Tf,fi Ri,fi SL,fi SM,gX Sk,fi Tg,gX Th,jV KH,lk SN,gX SO,lk Sl,gX Rj,fi RH,gX Rk,fi af6,gX Ti,lk R4,yN aeO,jV Rl,aqa aff,gX RI,fi SP,lk RJ,xn afG,aao qN,gX R5,lk Rn,fi Ro,gX Rp,lk Sn,fi R6,lk Tj,fi RK,fi Tk,fi R7,fi SQ,jV Rq,gX Sp,fi RM,jV Sq,aqb KG,xn Sr,fi RN,aao R8,fi afk,gX afN,xn R9,fi SS,fi Tl,lk Rr,fi RO,fi RP,gX Rs,gX SU,fi Tm,fi Ru,fi RQ,jV Ss,lk RR,fi Tn,xn Rv,xn Su,fi RS,gX SV,jV To,Ob RU,gX SX,yN Tp,yN Rw,yN Rx,gX SY,yN Sv,gX Sw,lk SZ,xn S0,fi Sx,gX RV,gX Sy,fi Ry,fi S1,fi Tq,fi Sz,xn SA,jV SB,jV Sa,gX Sb,jV Sc,jV Ts,gX SD,yN Sd,jV Tt,jV Se,lk SE,gX RW,yN S2,gX Sf,yN S3,gX Tu,fi Tv,fi S4,fi KE,xn Rz,lk RX,jV SF,jV RY,lk S5,jV RZ,jV R0,jV RA,jV Sg,jV SG,jV RB,jV S6,lk RC,jV Tw,gX Sh,fi RD,lk SH]
def aap:AV->Bool
 |.lp _ _=>ab
 |_=>ad
theorem aaq:∀{b:List AV},b.all aap=ad->b.map AV.pl=b
 |[],_=>rfl
 |a::b,c=>by
  simp only[oz,bc]at c;rw[eg,aaq c.2];cases a<;>first|rfl|cases c.1
abbrev Pc:=List (Nat×List AV×AV)
def ER(b:Pc)(d:Nat)(c:List AV):Option AV:=match b.find? (λa=>a.1==d&&tG (sF 40) a.2.1 c)with|aa a=>aa a.2.2|ae=>ae
def yO(b:Pc):Prop:=∀a∈b,PR C a.1 a.2.1 a.2.2
theorem yO.nil:yO []:=λ_ h=>by cases h
theorem yO.cons{r:AV}{b:Pc}(h:PR C U bE r)(d:yO b):yO ((U,bE,r)::b):=λc a=>by
 rcases b5.1 a with rfl|a;exact h;exact d c a
theorem aqd{c:Pc}(g:yO c)(e:Nat)(d:List AV)(r:AV)(a:ER c e d=aa r):PR C e d r:=by
 unfold ER at a;split at a;rename_i h f;cases a
 have b:=I6 f;simp only[bc,beq_iff_eq]at b;rw[<-b.1,<-Co (λ_ _=>EO _) b.2];exact g _ (arT f);cases a
def ES(d:Nat->List AV->List Obj->Er)(b:Pc):Nat->CE
 |0=>⟨λ_ _ _=>ae,ER b⟩
 |n+1=>⟨λc args h=>match aqc.find? (λa=>a.f==c)with
  |some a=>if Z args=a.k/\args.all aap=ad then ev (ES d b n) 999 ad a.t args [] h else ae
  |none=>d c args h,ER b⟩
theorem aqe(c:Nat->List AV->List Obj->Er)(a:Pc):∀b,(ES c a b).p=ER a
 |0=>rfl
 |_+1=>rfl
theorem aar{i:Nat->List AV->List Obj->Er}{g:Pc}(j:yO g)(l:∀d e h b,i d e h=aa b->C d e h b.1 b.2):∀(n d:Nat)(args:List AV)(h:List Obj)(b:AV×List Obj),(ES i g n).c d args h=aa b->C d args h b.1 b.2
 |0,_,_,_,_,a=>by cases a
 |n+1,d,args,h,b,a=>by
  simp only[ES]at a;split at a;rename_i m u;split at a;rename_i k;have t:m.f=d:=by simpa using I6 u
  let⟨r,v,p,q,s⟩:=m.h args k.1 (aaq k.2) h (λe o=>e=b.1/\o=b.2) (EP ⟨aar j l n,λd e r a=>aqd j d e r (by rw[<-aqe i g n];exact a)⟩ 999 a (λ_=>⟨rfl,rfl⟩) λ_ _ _ a=>by cases a);subst q;subst s;rw[<-t];exact p;cases a
  exact l _ _ _ _ a
def Oc(i:Nat)(args:List AV)(h:List Obj):Er:=
 match i,args with
 |72,[.agg a]=>if tG (sF 40) a (cP ab ab pC)||tG (sF 40) a (cP ad ab pC)||tG (sF 40) a (cP ad ad pC)||tG (sF 40) a (cP ab ad pC)then match h with|[]=>aa (.aB [eS ab cN [0,1],eS ab cG [[0],[1]]],[])|_=>ae else ae
 |121,[.q id g 0 c,.int .i64 (.ofNat f),.q b 0 0 1]=>match h[id]?,h[b]? with
  |aa (.arr j 3 e),aa (.arr 0 3 [d])=>if j=g/\Z e=c/\id≠b/\f<=c/\(c+1)*40<=140737488355328 then aa (.q id (g+1) 0 (c+1),h.set id (.arr (g+1) 3 (e.take f++d::e.drop f)))else ae
  |_,_=>ae
 |121,[.aq,.int .i64 (.ofNat 0),.q b 0 0 1]=>match h[b]? with
  |aa (.arr 0 3 [d])=>aa (.q h.length 0 0 1,h++[.arr 0 3 [d]])
  |_=>ae
 |_,_=>ae
theorem aqf:gu pC 0=[]:=by decide+kernel
theorem aqg:gu pC 1=[0,1,0]:=by decide+kernel
theorem aqh:dJ [0]=[0]:=by decide+kernel
theorem aqi:dJ [1]=[1]:=by decide+kernel
theorem aas:((ay 2).map (kA dJ (gu pC) 2 (ay 2) TS.init).of)=[0,1]/\(kA dJ (gu pC) 2 (ay 2) TS.init).out=[[0],[1]]:=by
 have a:ay 2=[0,1]:=rfl;rw[a];simp[kA,iY,sw,aqf,aqg,TS.init,TS.enter,TS.pop,Law.bW,aqh,aqi,List.idxOf,List.findIdx,List.findIdx.go]
theorem aqj(g:Nat)(args:List AV)(h:List Obj)(f:AV×List Obj)(a:Oc g args h=aa f):C g args h f.1 f.2:=by
 unfold Oc at a;split at a;rename_i o;split at a;rename_i b;split at a;cases a
 have m:∀c d,C 72 [.agg (cP c d pC)] [] (.aB [eS ab cN [0,1],eS ab cG [[0],[1]]]) []:=λc d=>by
  have:=Yn N2 (T:=c) (F:=d) Np (V:=pC) (by decide);rw[show Z pC.Q=2 from rfl,aas.1,aas.2]at this;exact this
 simp only[hX]at b;rcases b with((b|b)|b)|b<;>(rw[Co (λ_ _=>EO _) b];exact m _ _)
 cases a
 cases a
 split at a;rename_i n e;split at a;rename_i b;let⟨rfl,i,j,k,l⟩:=b;cases a
 exact uR (Yw n i e j k l);cases a
 cases a
 split at a;rename_i e;cases a
 exact uR (Yx e);cases a
 cases a
def aat(b:Pc)(d:Nat)(args:List AV):Option AV:=match(ES Oc b 60).c d args []with|aa a=>lj a.2 30 .res a.1|ae=>ae
theorem Ay{b:Pc}(d:yO b){args:List AV}{r:AV}(h:(match aat b U args with|aa c=>sF 40 c r|ae=>ab)=ad):PR C U args r:=by
 unfold aat at h;split at h;rename_i c a;split at a;rename_i f e;rw[<-EO _ h];exact⟨_,_,aar d aqj _ _ _ _ _ e,EM _ _ a⟩;cases a
 cases h
def hB:List S:=[hz 0 [97] [98],hz 0 [98] [97],hz 0 [98] [99]]
def Az:List S:=[hz 1 [97] [98],hz 1 [98] [97],hz 1 [98] [99]]
def q3:List S:=[hz 1 [97] [97],hz 1 [97] [98],hz 1 [97] [99],hz 1 [98] [97],hz 1 [98] [98],hz 1 [98] [99]]
theorem Od:∀c∈hB++q3,dX c.af:=by
 have h:∀(g:Int)(a b:d),Z a<=10->Z b<=10->dX (hz g a b).af:=λg a b i j=>⟨nf (by simp[hz]),λk f=>by
  simp only[hz,b5,jM,or_false]at f;rcases f with rfl|rfl<;>exact nf (by simp[fK];omega)⟩
 intro c e;simp only[hB,q3,hD,dK,b5,jM,or_false]at e;rcases e with rfl|rfl|rfl|rfl|rfl|rfl|rfl|rfl|rfl<;>exact h _ _ _ (by decide) (by decide)
theorem Oe:hP pC hB=true:=by decide+kernel
theorem aqk:hP pC (hB++Az)=true:=by decide+kernel
theorem aql:hP pC (hB++q3)=true:=by decide+kernel
theorem aau(h:hP pC X=ad):bH pC (gK pC X) X:=Au Ce h
theorem aav(c:kK pC X 3000=ad)(b:∀a∈X,dX a.af):qW pC (gK pC X):=Cc c Ce (Cf (.inl rfl)) b Ij
theorem Of:∀a∈hB,dX a.af:=λa h=>Od a (OA _ h)
theorem aqm:∀a∈hB++Az,dX a.af:=λa h=>Od a (by
 simp only[hB,Az,q3,hD,dK,b5,jM,or_false]at h⊢;grind)
theorem Og(e:kK pC X 3000=ad)(d:∀c∈X,dX c.af)(a:hP pC X=ad)(i:Z X<=100)(b:fC pC [1] X=gD):PR C 14 [.agg (cP ab ab pC),eS ab cI [1],eS T (cF ab) X] (eS ab (cF ab) gD):=by
 have:=YP N3 N5 N4 (T:=false) (F:=T) (bC:=false) (c6:=false) X [1] (aav e d) (aau a) (by omega) (by rw[Nq,a]<;>rfl) Np (by decide) Ij YV (nf (by decide));rwa[b]at this
theorem aqn:PR C 14 [.agg (cP ab ab pC),eS ab cI [1],eS ad (cF ab) hB] (eS ab (cF ab) Az):=Og (by decide+kernel) Of Oe (by decide) (by decide+kernel)
theorem aqo:PR C 14 [.agg (cP ab ab pC),eS ab cI [1],eS ad (cF ab) (hB++Az)] (eS ab (cF ab) q3):=Og (by decide+kernel) aqm aqk (by decide) (by decide+kernel)
theorem aqp:PR C 14 [.agg (cP ab ab pC),eS ab cI [1],eS ad (cF ab) (hB++q3)] (eS ab (cF ab) q3):=Og (by decide+kernel) Od aql (by decide) (by decide+kernel)
theorem aqq:j7 pC (ts pC) hB (aa (hB++q3)):=by
 rw[YW];refine .cons [0] [[1]] 0 hB hB _ (.stop 0 hB (by decide+kernel) (by decide+kernel)) (.cons [1] [] 3 hB (hB++q3) _ ?_ (.nil _));refine .next 2 _ _ (by decide+kernel) (by decide+kernel) ?_;have a:im pC [1] hB=hB++Az:=by decide+kernel
 rw[a];refine .next 1 _ _ (by decide+kernel) (by decide+kernel) ?_;have b:im pC [1] (hB++Az)=hB++q3:=by decide+kernel
 rw[b];exact .stop 1 _ (by decide+kernel) (by decide+kernel)
theorem IN:PR C 25 [.agg (cP ab ab pC),eS ab (cF ab) hB] (D8 (aa (hB++q3))):=by
 have ok:xk pC hB=true:=by rw[xk,Nq,Oe];decide+kernel
 refine kX N3 N5 N4 (T:=false) (F:=false) (bC:=false) pC hB (Cf (.inl rfl)) (nf (by decide)) Of _ (λh=>by rw[ok]at h;cases h) λ_=>?_;have b:=aav (X:=hB) (by decide+kernel) Of;exact⟨by decide,(Ar (As (X:=hB) (by decide+kernel))).1,Np,λh=>absurd Ij h,λ_ h=>absurd YV h,λ_ _=>⟨_,_,b,aau Oe,by decide,aqq,rfl⟩⟩
end AM
end Go
