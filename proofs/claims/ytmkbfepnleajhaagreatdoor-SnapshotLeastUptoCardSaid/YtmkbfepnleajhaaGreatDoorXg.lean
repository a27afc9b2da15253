/- The law SnapshotLeastUptoCardSaid: part 7 of 9 of the proof. No condition. -/
import Derived.Test.YtmkbfepnleajhaaGreatDoorXf
import Derived.Test.YtmkbfepnleajhaaGreatDoorCards
import Derived.Test.YtmkbfepnleajhaaGreatDoorTie
import Derived.WalkKit
import Derived.Deep.DeepWitnessRowRef
set_option maxRecDepth 100000
open List renaming length->Z,mem_or_eq_of_mem_set->ak6,set_eq_take_append_cons_drop->alc
open Option renaming some->T,none->D
open Bool renaming true->ab,false->aa,not_eq_true->Kr
open Decidable renaming decide->S
open Array renaming toList->bU
open Go.Proofs.Tryz renaming prog->a1
open Go.Proofs.YtmkbfepnleajhaaGreatDoor.Rows renaming snapshotModelMatchesReferenceUptoRow->g2
open List.Perm renaming eq_of_pairwise->anA
open Option.some renaming inj->wM
open Int renaming ofNat_inj->akR
open List.Pairwise renaming imp_of_mem->anz
namespace Go
namespace AM
open Go.Law
def qI:List lT:=[([fh [97],fh [97],fh [98]],[]),([fh [97],fh [98],fh [97]],[]),([fh [98],fh [97],fh [98]],[]),([fh [98],fh [98],fh [97]],[])]
theorem J5:(fA (ij [gL]) gx gL).map (nS (fK gL) (ie gL))=qI:=by decide+kernel
theorem ajo:((fA (ij [gL]) gx gL).all λa=>Z a.bl==Z a.ax)=true:=by decide+kernel
theorem Tb:ie gL=[]:=by decide+kernel
theorem Tc:fK gL=[[88],[89],[90]]:=by decide+kernel
theorem ajp{a b:lT}(c:kH a b)(d:kH b a):a.1=b.1:=by
 unfold kH at*;rw[TO.aE.ta]at c;exact(TO.aE.eq _ _).1 (by omega)
theorem ajq:qI.Pairwise kH:=by
 have:∀a b:lT,S (jj b.1 a.1<0)=aa->kH a b:=by grind[kH]
 simp only[qI,zU,cf,iW,or_false,List.Pairwise.nil,and_true];refine⟨?_,?_,?_,?_⟩
 ·rintro c (rfl|rfl|rfl)<;>exact this _ _ (by decide+kernel)
 ·rintro c (rfl|rfl)<;>exact this _ _ (by decide+kernel)
 ·rintro c rfl;exact this _ _ (by decide+kernel)
 grind
theorem ajr{a:List lT}(d:a.Perm qI)(e:a.Pairwise kH):a=qI:=by
 have g:∀b∈qI,b.2=[]:=by
  intro b c;simp only[qI,cf,iW,or_false]at c;rcases c with rfl|rfl|rfl|rfl<;>rfl
 refine anA (λb f c j h i=>?_) e ajq d;grind[Prod.ext,ajp,trans]
variable{U:Nat}{N:List Obj}{bS:List (List AV)}{Y:AV}
theorem ajs{bytes:Nat}{a:List (List AV)}(h:hQ N U Y=T a)(c:0<Z a)(d:bS.all (λb=>Z b==U)=ab)(e:0<Z bS)(f:(Z bS+Z a)*bytes<=2^47):
 cx U bytes (.qN bS) Y N=T (.q (Z N) 0 0 (Z bS+Z a),N++[.arr 0 U (bS++a)]):=by
 have g:(AV.qN bS).isNil=false:=rfl;grind[cx]
variable{V F:Bool}
theorem kS(f:eP C):PR C 19 [.agg (cP aa aa pC),eS V (cF F) gx,.agg (aP aa gL)] (.aE [eS aa J3 qI,eS aa J4 qI]):=by
 have n:Z (fA (ik pC gL) gx gL)=4:=by
  have:=congrArg List.length J5;rw[kd]at this;exact this
 have g:=(Cd (Ce S0)).1 gL (by simp[ij]);obtain⟨i,k,l,m⟩:=DJ f (V:=false) (F:=V) (bp:=F) (M:=pC) gx (wC (.inl rfl)) (wC (.inr rfl)) vd (by rw[zN,J1]<;>rfl) ajc S1 aja ajb (by decide) g (by simp[Tc]) (by simp[Tc]) (by simp[Tb]) (by omega) (by omega) (by
  intro a c;refine⟨?_,by rw[Tb];simp,?_⟩
  ·have:=ajo
   rw[fi]at this;simpa using this a c
  ·have h:nS (fK gL) (ie gL) a∈qI:=by rw[<-J5];exact du.2 ⟨a,c,rfl⟩
   have b:∀e∈qI,eO e.1:=by
    intro e d;simp only[qI,cf,iW,or_false]at d;rcases d with rfl|rfl|rfl|rfl<;>refine⟨jI (by decide),λp b=>?_⟩<;>
     (simp only[cf,iW,or_false]at b
      rcases b with rfl|rfl|rfl<;>exact jI (by decide))
   exact b _ h)
 have a:(fA (ik pC gL) gx gL).map (nS (fK gL) (ie gL))=qI:=J5;grind[ajr]
theorem Jg(d:eP C)(h:wA C)(k:x5 C):PR C 12 [] (.bool ab):=by
 have K:qH pC js=true:=by rw[qH,zN,J0,ai6]<;>rfl
 have J:qH pC gx=false:=by rw[qH,zN,J1,ai7]<;>rfl
 have o:Z pC.ah<=12:=by decide
 have v:=(Cd (Ce JZ)).1;have A:PR C 23 [.agg (cP aa aa pC),eS aa (cF aa) js] (BL (T gx)):=by
  refine jr d h k pC js (wC (.inl rfl)) (jI (by decide)) (by grind[vd,SZ]) _ (by grind) (λ_=>⟨o,v,S5,λa=>absurd J2 a,by grind[S2],λ_ _=>⟨_,_,S3,S4,by decide,ai9,rfl⟩⟩)
 have B:PR C 23 [.agg (cP aa aa pC),eS ab (cF aa) gx] (tz 1):=
  jr d h k pC gx (wC (.inl rfl)) (jI (by decide)) vd _ (λ_=>rfl) (by grind)
 have r:PR C 17 [.agg (cP aa aa pC),eS aa cI [1],eS aa (cF aa) js] (eS aa (cF aa) (nK pC [1] js)):=
  ai1 d h k js [1] S3 S4 (by decide) (by rw[zN,J0]<;>rfl) S5 o J2 S2 (jI (by decide))
 rw[ai8]at r;have z:=kS d (V:=true) (F:=false);have x:PR C 14 [.agg (cP aa aa pC),eS ab (cF aa) gx] (.bool ab):=by
  have:=d.B0 (V:=false) (F:=false) (bp:=true) (b2:=false) pC gx (wC (.inl rfl)) (jI (by decide)) vd;grind[zN,J1]
 have y:PR C 14 [.agg (cP aa aa pC),eS aa (cF aa) [ga 0 [98] [97],ga 0 [97] [98]]] (.bool aa):=by
  have:=d.B0 (V:=false) (F:=false) (bp:=false) (b2:=false) pC [ga 0 [98] [97],ga 0 [97] [98]] (wC (.inl rfl)) (jI (by decide)) (λe c=>vd e (by
   simp only[cf,iW,or_false]at c;rcases c with rfl|rfl<;>decide))
  grind[zN,ai4]
 have E:PR C 28 [eS aa cV [fh [97],fh [98],fh [97]],eS aa cV [fh [97],fh [98],fh [97]]] (I 0):=by
  have:=kq (V:=false) (F:=false) [fh [97],fh [98],fh [97]] [fh [97],fh [98],fh [97]] ⟨jI (by decide),λL p=>by
   simp only[cf,iW,or_false]at p;rcases p with rfl|rfl|rfl<;>exact jI (by decide)⟩
  rwa[(TO.aE.eq _ _).2 rfl]at this
 refine Z3.pr ?_;refine f ai0 ?_;refine aD (dD:=cP aa aa pC) rfl ?_;refine f (wB 0 [97] [98]) (f (wB 0 [98] [97]) ?_);refine aD (dD:=eS aa (cF aa) js) rfl ?_;have gc:(AV.agg [g (cP aa aa pC) 0,g (cP aa aa pC) 1,g (cP aa aa pC) 2,g (cP aa aa pC) 3])=.agg (cP aa aa pC):=rfl;simp only[gc];refine f A ?_;refine aD rfl (aD rfl (aD rfl ?_))
 refine f (wB 1 [97] [97]) (f (wB 1 [97] [98]) (f (wB 1 [98] [97]) (f (wB 1 [98] [98]) ?_)));refine aD (dD:=eS aa (cF aa) [ga 1 [97] [97],ga 1 [97] [98],ga 1 [98] [97],ga 1 [98] [98]]) rfl ?_;refine bj (ajs (r8 (hE aa) _ _ _) (by decide) rfl (by decide) (by decide)) ?_;refine aD (dD:=eS aa cI [1]) rfl ?_;refine f r ?_;refine aD rfl (aD (dD:=.agg (aP aa gL)) rfl ?_)
 have g3:aI [Obj.arr 0 3 (gx.map (cF aa))] .cm (.q 0 0 0 (Z gx)) (eS ab (cF aa) gx):=l7 rfl (by simp);refine ea _ z (.ck cy (.ck g3 (.ck cy (.nil _)))) ?_ ?_
 ·exact .aE _ (.cons _ _ (rA (λF=>.cons _ _ (zE _) .nil) _) (.cons _ _ (rA (λF=>.cons _ _ (rA (λH=>.cons _ _ (.int _ _) .nil) _) .nil) _) .nil))
 refine aD rfl (aD rfl ?_);refine pg (N:=[Obj.arr 0 3 (gx.map (cF aa))]) aa [g (cP aa aa pC) 0,g (cP aa aa pC) 1,g (cP aa aa pC) 2,g (cP aa aa pC) 3] (λw l=>?_) ?_
 ·refine aD rfl (dx (λ_=>?_) (λa=>by cases a))
  refine ea _ (Bb gx gx (jI (by decide)) (λe c=>(vd e c).1)) (.ck cy (.ck g3 (.nil _))) (.bool _) ?_;refine aD (dD:=.bool aa) (by simp) (dx (λ_=>?_) (λa=>by cases a));refine f (wB 1 [97] [98]) (f (wB 1 [98] [97]) ?_);refine aD (dD:=eS aa (cF aa) [ga 1 [97] [98],ga 1 [98] [97]]) rfl ?_;refine f (Bb [ga 1 [97] [98],ga 1 [98] [97]] [ga 1 [97] [98],ga 1 [98] [97]] (jI (by decide)) (λe c=>(vd e (by
   simp only[cf,iW,or_false]at c;rcases c with rfl|rfl<;>decide)).1)) ?_
  refine aD (dD:=.bool aa) (by simp) (dx (λ_=>?_) (λa=>by cases a));refine aD rfl (aD rfl (dx (λ_=>?_) (λa=>by cases a)));refine aD rfl (aD rfl ?_);exact l
 simp only[G,i];refine bq ?_;have u:(AV.agg [g (cP aa aa pC) 0,g (cP aa aa pC) 1,g (cP aa aa pC) 2,g (cP aa aa pC) 3])=.agg (cP aa aa pC):=rfl;simp only[u];refine ea _ B (.ck cy (.ck g3 (.nil _))) (.aE _ (.cons _ _ (rA (λe=>.cons _ _ (.int _ _) (.cons _ _ (zE _) (.cons _ _ (.int _ _) .nil))) _) (.cons _ _ (.int _ _) .nil))) ?_;refine aD rfl (aD rfl ?_)
 refine pg (N:=[Obj.arr 0 3 (gx.map (cF aa))]) ab [g (cP aa aa pC) 0,g (cP aa aa pC) 1,g (cP aa aa pC) 2,g (cP aa aa pC) 3] (λw l=>?_) ?_
 ·refine ea _ x (.ck cy (.ck g3 (.nil _))) (.bool _) ?_
  refine aZ (λ_=>?_) (λa=>by cases a);refine aD rfl (aD rfl (aD rfl (aD rfl ?_)));refine aD (dD:=eS aa (cF aa) [ga 0 [98] [97],ga 0 [97] [98]]) rfl ?_;refine f y ?_;refine aD rfl (aZ (λ_=>?_) (λa=>by cases a));refine aD rfl (aZ (λ_=>?_) (λa=>by cases a));refine aD rfl (aD (dD:=eS aa cV [fh [97],fh [98],fh [97]]) rfl ?_);refine f (Ci [97]) (f (Ci [98]) (f (Ci [97]) ?_))
  refine aD (dD:=eS aa cV [fh [97],fh [98],fh [97]]) rfl ?_;refine f E ?_;refine aD rfl ?_;exact l
 simp
variable{bH:k}
theorem Td(c:U<Z bH)(d:bH[U].toNat<128):oP bH U=(bH[U].toNat,1):=by
 have b:U<(⟨bH.toArray⟩:ByteArray).size:=by simpa[ByteArray.size]using c
 have a:(⟨bH.toArray⟩:ByteArray)[U]'b=bH[U]:=rfl;have:=decode_ascii ⟨bH.toArray⟩ U b (by rw[a];exact d);rw[a]at this;exact this
theorem Te(b:U<Z bH)(c:¬bH[U].toNat<128):128<=(oP bH U).1:=by
 have a:U<(⟨bH.toArray⟩:ByteArray).size:=by simpa[ByteArray.size]using b
 have d:(⟨bH.toArray⟩:ByteArray)[U]'a=bH[U]:=rfl;exact(decode_high ⟨bH.toArray⟩ U a (by grind)).1
variable{aU:Int}
theorem J6(a:128<=aU):ns aU=false:=by
 grind[decide,ns]
theorem ajt(c:k):PR C 327 [.str c,.fn 282 [] [],tt] (I (bN (λh=> !eE h) c)):=by
 refine Yx.pr ?_;refine bj (show tM (.str c) []=T (.pQ 0,[.hM c 0])from rfl) ?_;refine bB (z:=Nat) (λ_=>[I 0]) (λa=>[.hM c a]) (λa=>Z c -a) (λa=>a<=Z c/\∀e(i:e<Z c),e<a->eE c[e]=ab) 0 ⟨by simp,λe _ d=>by omega⟩ ?_;rintro a ⟨w,n⟩ s r;by_cases d:a<Z c
 ·refine bj (show rU (.pQ 0) [.hM c a]=T (.aE [.bool ab,.int .i64 a,.int .i32 (oP c a).1],[.hM c (a+(oP c a).2)])by simp[rU,d]) ?_
  refine aD (dD:=.bool ab) rfl ?_;refine a7 ?_;refine aD (dD:=I (a:Int)) rfl ?_;refine aD (dD:=.int .i32 (oP c a).1) rfl ?_;refine bj (dD:=282) (b:=[.int .i32 (oP c a).1]) rfl ?_;refine f (aaS _) ?_;rw[Mr,Q];have u:eE c[a]=ns ((oP c a).1:Int):=by
   by_cases g:c[a].toNat<128
   ·rw[Td d g]<;>rfl
   ·have p:=Te d g
    rw[J6 (by omega),eE,J6 (by omega)]
  refine b (λl=>?_) (λl=>?_)
  ·have v:ns ((oP c a).1:Int)=false:=by simpa using l
   have:bN (λh=> !eE h) c=a:=sU d (λe i m=>by rw[n e i m]<;>rfl) (by grind);simp_all
  ·have o:ns ((oP c a).1:Int)=true:=by simpa using l
   have g:c[a].toNat<128:=yl λg=>by
    have p:=Te d g;rw[J6 (by omega)]at o;cases o
   have q:(oP c a).2=1:=by rw[Td d g]
   rw[q];refine r (a+1) ⟨d,λe i m=>?_⟩ (by omega);grind
 ·refine bj (show rU (.pQ 0) [.hM c a]=T (.aE [.bool aa],[.hM c a])by simp[rU,d]) ?_
  refine aD (dD:=.bool aa) rfl ?_;refine bq ?_;have:bN (λh=> !eE h) c= -1:=vJ λe i=>by rw[n e i (by omega)]<;>rfl
  simp_all
open Go.Proofs
variable{ey:List Obj}
theorem vv{args:List AV}(a:jz a1 G0 U args N Y ey):C U args N Y ey:=a
theorem Tf:B8 C:=⟨λd b a c=>vv (Sw.q rfl d b a c)⟩
theorem aju:eP C:=⟨λa _=>ajt a,by grind[vv,aiB]⟩
variable{M:aj}
theorem ajv(f:ky M)(e:Z M.ah<=12):wy (kb dM (gw M) (Z M.d) (List.range (Z M.d)) TS.init).out/\Z (kb dM (gw M) (Z M.d) (List.range (Z M.d)) TS.init).out<=Z M.d:=by
 have c:JO M (pt 4) (pt 5) (pt 2) (pt 0) [one (.q 1 0 0 (Z M.d)),.arr 0 1 (List.replicate (Z M.d) [I 0]),one (.q 3 0 0 (Z M.d)),.arr 0 1 (List.replicate (Z M.d) [I 0]),one (eS aa cG ((List.range (Z M.d)).map (gw M))),one (.q 6 0 0 (Z M.d)),.arr 0 1 (List.replicate (Z M.d) [I 0])]:=by
  refine⟨4,5,2,0,6,3,1,rfl,rfl,rfl,rfl,by simp,λl b=>?_⟩;simp only[cf,iW,or_false]at b;rcases b with rfl|rfl|rfl|rfl|rfl|rfl|rfl<;>rfl
 have a:=Su Tf f e (Y:=.ai) (E:=.ai) (aL:=.ai) c;rw[NG]at a;obtain⟨j,h,-,-,k⟩:=G8 (An:=Ac) (X:=C) wz _ _ _ a;grind[xl]
theorem ajw:x5 C:=λe f g b a=>by
 obtain⟨c,d⟩:=ajv b a;refine⟨_,_,?_,aij rfl c,d⟩;refine⟨_,_,vv (ais Tf b a),?_⟩;simp[Im.snap]
theorem ajx:wA C:=⟨λ{v b s r j id} a c l d f t=>by
 have i:=d.get (U:=id) (iX:=.arr 0 3 [cF aa c]) (by simp);rcases l with⟨rfl,rfl,rfl⟩|⟨e,g,rfl,rfl⟩
 ·have:a=0:=by simpa using f
  subst this;refine⟨_,_,vv (aiG i),[(Z j,.arr 0 3 [cF aa c])],bA.of (o:=[c]),?_⟩;exact w.alloc d.tail _
 ·have o:=d.get (U:=e) (iX:=.arr g 3 (b.map (cF aa))) (by simp)
  have n:e≠id:=by
   have:=d.1;simp only[eJ,kf,cf,fm,c3,not_or]at this;exact(by omega)
  have k:(b.map (cF aa)).take a++cF aa c::(b.map (cF aa)).drop a=(b.take a++c::b.drop a).map (cF aa):=by
   simp[Ks,Ku]
  have h:=aiF (y:=a) o (by simp) i n f (by omega);rw[k]at h;refine⟨_,_,vv h,[(e,.arr (g+1) 3 ((b.take a++c::b.drop a).map (cF aa)))],?_,?_⟩
  ·have m:Z b+1=Z (b.take a++c::b.drop a):=by simp;omega
   rw[m];exact bA.of
  ·exact w.set d.tail _⟩
open Go.Proofs.YtmkbfepnleajhaaGreatDoor Go.Deep Go.ChangeShapes Go.WideShapes Go.ChangeAt Go.RowKit
variable{e:World}{fq:Array Value}{bg:List AV}{L:l}{pM:World}{b9:Nat -> Bool}{bp:Bool}{bL:Value}{m5:List MemPlace}
section
variable{H:Type}{enc:TypeId×Value->H}{P:Program}
theorem Tg{m:String}{g:Nat}(s:P.globalNamed m=T g)(k:e.var? P m=T fq)(i:RL (E0 e) bg (bU fq))(r:∀b∈bg,b.bP=ab):R (E0 e).base (.aK aa bg 0) (.pointer (T ⟨g,0,D⟩)):=by
 obtain⟨d,c,n⟩:∃d c,e.heap[g]?=T (.cells fq d c):=by
  grind[World.var?]
 have t:=i.length;have j:((bU fq).drop 0).take (Z bg)=bU fq:=by rw[jR,fW (by omega)]
 have one:∀{vs:List AV}{a:List Value},RL (E0 e) vs a->(∀b∈vs,b.bP=ab)->∀f∈a,f.oneCell'=true:=by
  intro vs a h;induction vs generalizing a with
  |nil=>intro _ f p;cases h;simp at p
  |cons b vs u=>
   cases h with
   |cons _ f _ a k j=>
    intro o v l;rcases cf.1 l with rfl|l
    ·exact k.Ab (o _ (by simp))
    grind
 exact R.aK (E:=(E0 e).base) aa bg 0 g 0 fq d c (by show g<e.heap.size;grind) n (by grind) (by rw[j];exact i) (by grind)
theorem ajz(a:Fr (E0 e) L)(f:MemPlace->Prop):e.keptBut L.w f:=by
 refine⟨a.os,a.output,λc d=>?_⟩;have g:L.w.heap[c]?=e.heap[c]?:=a.heap c d (λ_ _ b=>by cases b) (λ_ b=>by cases b);grind
theorem ajA(g:Fr (E0 e) L){c:MemPlace}(f:c.block<e.heap.size):e.sameAt L.w c:=by
 have d:∀a,a<e.heap.size->L.w.heap[a]?=e.heap[a]?:=λa h=>g.heap a h (λ_ _ b=>by cases b) (λ_ b=>by cases b);cases c with
 |cell a off=>simp only[World.sameAt,World.cell?,d a f]
 |map a=>exact d a f
theorem ajB(b:Fr (E0 e) L){off:Nat}(c:U<e.heap.size):L.w.frozen? ⟨U,off,D⟩=e.frozen? ⟨U,off,D⟩:=by
 have d:L.w.heap[U]?=e.heap[U]?:=b.heap U c (λ_ _ a=>by cases a) (λ_ a=>by cases a);grind[World.frozen?]
theorem Th{f:TypeId->Prop}(i:Kids P f)(l:∀{d b:TypeId},f d->P.underlying d=T (.slice b)->0<P.cellsOf b):∀{g:List TypeId}{vs:List Value}{h:List (DataW H)}{c:List MemPlace},(∀d∈g,f d)->DataW.TrodAll enc P e 0 (λ_=>ab) ab g vs h c->(∀a∈c,e.sameAt pM a)->(∀a∈c,b9 a.block=ab)->DataW.TrodAll enc P pM 0 b9 ab g vs h c
 |[],[],[],_,_,j,_,_=>j
 |_::_,_::_,_::_,_,p,⟨a,n,⟨m,o⟩,k,b⟩,q,r=>
  ⟨a,n,⟨m,by grind[DataW.trod_stays]⟩,
   Th i l (by grind) k (by grind) (by grind),b⟩
theorem ajC{c:Func}{f:ChangeSpec}{fresh:Bool}{W:World}{args:Array Value}{g gs:List (DataW H)}{i j:List MemPlace}
 (k:DataW.Whole enc P (bU c.params) f.vars V W (bU args) g gs m5)
 (o:∀(a:Nat)(d:Nat->Bool)(t:Bool),DataW.TrodAll enc P e a d t (bU c.resultTypes) (bL.resultList c.resultTypes.size) (f.fn H (g++gs)).results [])
 (l:∀d:Nat->Bool,(∀b∈m5,d b.block=ab)->DataW.TrodAll enc P e 0 d ab (bU c.params) (bU args) (f.fn H (g++gs)).args i)
 (p:∀d:Nat->Bool,(∀b∈m5,d b.block=ab)->DataW.TrodVars enc P e d f.vars (f.fn H (g++gs)).vars j)
 (y:m5=i++j)(v:W.keptBut e (· ∈m5))(u:∀a off,a<W.heap.size->e.frozen? ⟨a,off,D⟩=W.frozen? ⟨a,off,D⟩)
 (x:∀(q:Nat)(s:TypeId)(r:Value),c.resultTypes[q]?=T s->(bL.resultList c.resultTypes.size)[q]?=T r->Value.okWide P e .any 0 s r):
 f.post enc P c V fresh F bp W args bL e:=by
 have m:∀b∈m5,(λa=>S (a<W.heap.size)) b.block=true:=λb h=>by simpa using k.lt b h
 refine⟨g,gs,m5,[],i,j,k,o _ _ _,l _ m,p _ m,World.keptBut_mono (λb h=>⟨h,?_⟩) v,λ_=>?_⟩
 ·grind
 ·have w:=k.lt
  obtain⟨_,_,_,_,_,z,A⟩:=k;refine⟨x,_,_,([]++i)++j,⟨[]++i,j,trodAll_append (l _ (λ_ _=>rfl)) (o _ _ _),p _ (λ_ _=>rfl),rfl,?_,?_⟩,?_⟩
  ·intro a off h
   have n:MemPlace.cell a off∈m5:=by rw[y];simpa using h
   rw[u a off (w _ n)];exact z a off n
  ·grind
  grind
end
def tl:List Nat:=[27,28,22,23,24,25,75,142,67,35,72,9,53,73,3,29,4,30,32,33,62,112,64,46,176,5,70]
def wD(b:Program)(e:Nat):Bool:=match b.underlying e with
 |some (.pointer a)=>tl.contains a
 |some (.slice a)=>tl.contains a&&S (0<b.cellsOf a)
 |some (.array g a)=>tl.contains a&&S (b.cellsOf e=g*b.cellsOf a)
 |some (.struct d)=>((bU d).all λc=>tl.contains c.type)&&S (b.cellsOf e=((bU d).map λc=>b.cellsOf c.type).sum)&&(List.range (Z (bU d))).all λf=>((bU d)[f]?).all λc=>S (c.offset=(((bU d).take f).map λc=>b.cellsOf c.type).sum)
 |some (.map _ a)=>tl.contains a
 |_=>ab
theorem ajD:(tl.all λa=>wD a1 a)=true:=by kernel_rfl
theorem zO(a:U∈tl):wD a1 U=true:=by grind[ajD]
theorem ajE:Kids a1 (· ∈tl)where
 pointer:=λa b=>by have:=zO a;grind[wD]
 slice:=λa b=>by have:=zO a;grind[wD]
 array:=λa b=>by have:=zO a;grind[wD]
 struct:=λ{t c} a b=>by
  have:=zO a;grind[wD]
 map:=λa b=>by have:=zO a;grind[wD]
variable{t cK:TypeId}
theorem ajF(a:t∈tl)(b:a1.underlying t=T (.slice cK)):0<a1.cellsOf cK:=by
 have:=zO a;grind[wD]
theorem ajG:a1.globalNamed "porism/lattice.keys"=T 2:=by kernel_rfl
theorem ajH:a1.globalNamed "porism/porismref03.Keys"=T 0:=by kernel_rfl
theorem ajI:a1.globalNamed "porism/value.words"=T 1:=by kernel_rfl
theorem ajJ:(a1.globals[2]?).map (·.type)=T 53:=by kernel_rfl
theorem ajK:(a1.globals[0]?).map (·.type)=T 53:=by kernel_rfl
theorem ajL:(a1.globals[1]?).map (·.type)=T 311:=by kernel_rfl
theorem ajM:a1.underlying 53=T (.slice 9):=by kernel_rfl
theorem Ti:a1.underlying 9=T .string:=by kernel_rfl
theorem ajN:a1.underlying 311=T (.array 10 9):=by kernel_rfl
theorem ajO:a1.cellsOf 311=10:=by kernel_rfl
theorem ajP{W:World}(a:laidMetH a1 g2.laid W):laidMet a1 [("porism/lattice.keys",Rows.laid_porism_lattice_keys),("porism/porismref03.Keys",Rows.laid_porism_porismref03_Keys),("porism/value.words",Rows.laid_porism_value_words)] W:=a
variable{z:Type}
theorem ajQ:(Rows.laid_porism_lattice_keys:DataW z)=.slice (fR.map r6) []:=rfl
theorem ajR:(Rows.laid_porism_porismref03_Keys:DataW z)=.slice (fR.map r6) []:=rfl
theorem ajS:(Rows.laid_porism_value_words:DataW z)=.agg (fR.map r6):=rfl
theorem Tj{W:World}{g:Nat}{a:String}(b:a1.globalNamed a=T g)(c:W.var? a1 a=T fq)(d:DataW.trod (λ_=>()) a1 W 0 (λ_=>ab) aa U 53 (bU fq)=T (.slice (fR.map r6) [],m5)):R (E0 W).base (.aK aa [.sl aa (fR.map λh=>[.str h])] 0) (.pointer (T ⟨g,0,D⟩)):=by
 obtain⟨j,e,f⟩:=ab5 (x:=fR) (by decide) ajM Ti oi d;exact Tg b c (by rw[e];exact .cons _ _ _ _ f .nil) (by simp)
theorem ajT{W:World}{g:Nat}{a:String}(b:a1.globalNamed a=T g)(c:W.var? a1 a=T fq)(d:DataW.trod (λ_=>()) a1 W 0 (λ_=>ab) aa U 311 (bU fq)=T (.agg (fR.map r6),m5)):R (E0 W).base (.aK aa (fR.map .str) 0) (.pointer (T ⟨g,0,D⟩)):=by
 obtain⟨f,e⟩:=ab4 (x:=fR) ajN Ti oi ajO d;exact Tg b c (Hk f e) (by simp)
theorem ajU{W:World}(q:laidMetH a1 g2.laid W):dC G0 (E0 W):=by
 obtain⟨J,⟨n,r,u,y,G,K,a,h,k,d,⟨o,s,v,z,H,L,b,i,l,e,⟨p,t,w,A,I,M,c,j,m,f,-,-⟩,-⟩,-⟩,-,-⟩:=ajP q;obtain rfl:2=n:=wM (ajG.symm.trans a);obtain rfl:0=o:=wM (ajH.symm.trans b);obtain rfl:1=p:=wM (ajI.symm.trans c);obtain rfl:53=r:=wM (ajJ.symm.trans h);obtain rfl:53=s:=wM (ajK.symm.trans i);obtain rfl:311=t:=wM (ajL.symm.trans j);rw[ajQ]at d;rw[ajR]at e;rw[ajS]at f;have C:=Tj a k d;have E:=Tj b l e
 have F:=ajT c m f;intro g x B;grind[G0]
end AM
namespace AM
def ali(c:aj)(b d e:Int):Prop:=∀a,e8 c b=T a->dK a d.toNat e.toNat=ab
variable{apO:aj}{aqb aqC:Int}
theorem ali.refl:ali apO aqb aqC aqC:=λa _=>ad9 a _
def AtF(b:aj)(gs:List aw)(a:aw):Prop:=∃g∈gs,g.aq=a.aq/\g.ad=a.ad/\ali b a.aq a.af g.af
def amu(c:aj)(a:aw):Prop:=∃b,e8 c a.aq=T b/\a.af=fy b []
def alh(b:aj)(gs:List aw)(a:aw):Prop:=amu b a\/AtF b gs a
def LeI(c:aj)(b gs:List aw):Prop:=∀a∈b,AtF c gs a
variable{ap6:List aw}
theorem LeI.refl:LeI apO ap6 ap6:=λa b=>⟨a,b,rfl,rfl,.refl⟩
theorem ali.trans{c d:Int}(h:∀a,e8 apO aqb=T a->eF a c=ab)(e:ali apO aqb aqC c)(f:ali apO aqb c d):ali apO aqb aqC d:=λa b=>by
 obtain⟨i,rfl,g⟩:=qo (h a b);exact aea g (e a b) (f a b)
variable{aqy:aw}
theorem AtF.trans{gs:List aw}(h:∀g∈gs,qx apO g)(b:AtF apO gs aqy)(c:LeI apO gs ap6):AtF apO ap6 aqy:=by
 obtain⟨g,a,d,e,f⟩:=b;obtain⟨i,w1,k,l,n⟩:=c g a;refine⟨i,w1,k.trans d,l.trans e,f.trans (λj m=>h g a j (by grind)) ?_⟩;grind
variable{aro:List aw}
theorem LeI.trans{gs:List aw}(e:∀g∈gs,qx apO g)(b:LeI apO ap6 gs)(c:LeI apO gs aro):LeI apO ap6 aro:=λa d=>(b a d).trans e c
variable{aqN:bM}
theorem aoP(a:eu aqN=0)(h:eF aqN aqb=ab)(c:dK aqN aqb.toNat (fy aqN []).toNat=ab):aqb=fy aqN []:=by
 obtain⟨i,e,f,g⟩:=aed a;obtain⟨d,rfl,b⟩:=qo h;rw[e]at c⊢;have:=Pj a b f c (g d b);rw[this]
theorem amu.down(h:uM apO){g:aw}(f:qx apO aqy)(i:g.aq=aqy.aq)(c:ali apO aqy.aq aqy.af g.af)(e:amu apO g):amu apO aqy:=by
 obtain⟨b,a,d⟩:=e;rw[i]at a;refine⟨b,a,aoP (h b (Bz a)) (f b a) ?_⟩;rw[<-d];exact c b a
theorem alh.down(c:uM apO){g:aw}(f:qx apO aqy)(h:qx apO g)(d:g.aq=aqy.aq)(e:g.ad=aqy.ad)(b:ali apO aqy.aq aqy.af g.af)(a:alh apO ap6 g):alh apO ap6 aqy:=by
 rcases a with a|⟨i,w1,k,l,m⟩
 ·exact .inl (a.down c f d b)
 ·refine .inr ⟨i,w1,k.trans d,l.trans e,b.trans (λj c=>h j (by grind)) ?_⟩
  grind
theorem alh.trans{gs:List aw}(c:∀g∈gs,qx apO g)(a:alh apO gs aqy)(b:LeI apO gs ap6):alh apO ap6 aqy:=
 a.imp id λa=>a.trans c b
theorem anq(f:eu aqN=0)(t:eF aqN aqb=ab)(a:eF aqN aqC=ab):
 eF aqN (fy aqN [aqb,aqC])=ab/\dK aqN aqb.toNat (fy aqN [aqb,aqC]).toNat=ab/\dK aqN aqC.toNat (fy aqN [aqb,aqC]).toNat=ab/\
 ∀b,eF aqN b=ab->dK aqN aqb.toNat b.toNat=ab->dK aqN aqC.toNat b.toNat=ab->dK aqN (fy aqN [aqb,aqC]).toNat b.toNat=true:=by
 obtain⟨k,rfl,h⟩:=qo t;obtain⟨l,rfl,i⟩:=qo a;obtain⟨j,g,o,p,q⟩:=aec f h i;rw[g];refine⟨Et o,p,q,λb u r s=>?_⟩;obtain⟨w,rfl,v⟩:=qo u;have a:0<=qm (Z aqN.au) (dK aqN) λc=>S ((c:Int)∈[(k:Int),(l:Int)]):=by
  have d:=Ph f h i;unfold lK at d;simp only[Kw,decide_eq_false_iff_not,Int.not_lt]at d;exact d.2
 obtain⟨c,m,-,-,n⟩:=Pk a;have e:(j:Int)=c:=by
  rw[<-g,<-m];simp_all[fy,Et]
 have e:j=c:=by omega
 subst e;refine n w v λaqC _ a=>?_;have a:aqC=k\/aqC=l:=by simp at a;omega
 rcases a with rfl|rfl
 ·exact r
 ·exact s
theorem am0(f:aj)(b:List aw)(a:aw):
 (amu f a/\dp f b a=b)\/(¬amu f a/\(
  (∃c,∃d:c<Z b,b[c].aq=a.aq/\b[c].ad=a.ad/\(e8 f a.aq=D/\dp f b a=b\/∃g,e8 f a.aq=T g/\dp f b a=b.set c ⟨b[c].aq,b[c].ad,fy g [b[c].af,a.af]⟩))\/
  ((∀e∈b,¬(e.aq=a.aq/\e.ad=a.ad))/\dp f b a=j8 b a))):=by
 have n:∀e:aw,gW a.aq a.ad e=ab<->e.aq=a.aq/\e.ad=a.ad:=by simp[gW]
 have o:b.findIdx? (gW a.aq a.ad)=D->∀e∈b,¬(e.aq=a.aq/\e.ad=a.ad):=λd e t s=>by
  rw[wK]at d;have:=d e t;rw[(n e).2 s]at this;cases this
 have p:∀c,b.findIdx? (gW a.aq a.ad)=T c->∃d:c<Z b,b[c].aq=a.aq/\b[c].ad=a.ad:=λc d=>by
  obtain⟨h,j,-⟩:=nW.1 d;exact⟨h,(n _).1 j⟩
 unfold dp;cases m:e8 f a.aq with
 |none=>
  have i:¬amu f a:=by rintro⟨g,d,-⟩;rw[m]at d;cases d
  refine .inr ⟨i,?_⟩;cases k:b.findIdx? (gW a.aq a.ad)with
  |none=>exact .inr ⟨o k,by simp⟩
  |some c=>
   obtain⟨h,j,l⟩:=p c k;exact .inl ⟨c,h,j,l,.inl ⟨rfl,by simp⟩⟩
 |some g=>
  by_cases i:a.af=fy g []
  ·exact .inl ⟨⟨g,m,i⟩,by simp[i]⟩
  ·have r:¬amu f a:=by
    rintro⟨u,d,q⟩;rw[m]at d;cases d;exact i q
   refine .inr ⟨r,?_⟩;simp only[i,if_false];cases k:b.findIdx? (gW a.aq a.ad)with
   |none=>exact .inr ⟨o k,rfl⟩
   |some c=>
    obtain⟨h,j,l⟩:=p c k;exact .inl ⟨c,h,j,l,.inr ⟨g,rfl,by simp only[bC h]⟩⟩
theorem aol(m:uM apO)(s:∀g∈ap6,qx apO g)(r:qx apO aqy):LeI apO ap6 (dp apO ap6 aqy)/\alh apO (dp apO ap6 aqy) aqy:=by
 rcases am0 apO ap6 aqy with⟨l,a⟩|⟨l,⟨n,e,a,d,⟨b,h⟩|⟨f,b,h⟩⟩|⟨a,d⟩⟩
 ·rw[a];exact⟨.refl,.inl l⟩
 ·rw[h]
  refine⟨.refl,.inr ⟨ap6[n],bs e,a,d,λf m=>?_⟩⟩;simp_all
 ·rw[h]
  have q:=s _ (bs e) f (by rw[a];exact b);obtain⟨v,o,p,-⟩:=anq (m f (Bz b)) q (r f b);refine⟨λg i=>?_,.inr ⟨_,List.mem_set e _,a,d,λu c=>?_⟩⟩
  ·obtain⟨j,t,rfl⟩:=jS.1 i
   by_cases k:n=j
   ·subst k
    refine⟨_,List.mem_set e _,rfl,rfl,λu c=>?_⟩;rw[a,b]at c;cases c;exact o
   ·refine⟨ap6[j],?_,rfl,rfl,.refl⟩
    refine jS.2 ⟨j,by simpa using t,?_⟩;rw[List.getElem_set_ne k]
  ·rw[b]at c;cases c
   exact p
 ·rw[d]
  exact⟨λg i=>⟨g,H6.2 (.inr i),rfl,rfl,.refl⟩,.inr ⟨aqy,H6.2 (.inl rfl),rfl,rfl,.refl⟩⟩
theorem aoj(B:uM apO){j:Int->Prop}{gs:List aw}(x:fY gs)(z:∀a∈ap6,qx apO a)(A:∀a∈gs,qx apO a)(y:qx apO aqy)(f:∀a∈ap6,j a.aq->AtF apO gs a)(o:j aqy.aq->alh apO gs aqy):∀a∈dp apO ap6 aqy,j a.aq->AtF apO gs a:=by
 rcases am0 apO ap6 aqy with⟨k,h⟩|⟨k,⟨C,p,h,l,⟨d,m⟩|⟨e,d,m⟩⟩|⟨h,l⟩⟩
 ·rw[h];exact f
 ·rw[m];exact f
 ·rw[m]
  intro a c b;rcases ak6 c with c|rfl
  ·exact f a c b
  ·have b:=b
   obtain⟨g,t,u,v,w⟩:=(o (h▸b)).resolve_left k;obtain⟨n,w1,E,q,F⟩:=f ap6[C] (bs p) b;have r:=Pr x n w1 g t (by omega) (by rw[q,v,l]);subst r;refine⟨n,w1,E,q,λG i=>?_⟩;have i:=i;rw[h,d]at i;cases i;have s:=z _ (bs p) e (by omega);exact(anq (B e (Bz d)) s (y e d)).2.2.2 _ (A n w1 e (by rw[u];exact d)) (F e (by omega)) (w e d)
 ·rw[l]
  intro a c b;rcases H6.1 c with rfl|c
  ·exact(o b).resolve_left k
  ·exact f a c b
theorem amV(h:uM apO):∀(a:List aw){c:List aw},(∀d∈c,qx apO d)->(∀d∈a,qx apO d)->LeI apO c (jm apO c a)/\∀e∈a,alh apO (jm apO c a) e
 |[],c,_,_=>⟨.refl,by simp⟩
 |b::a,c,i,g=>by
  have f:=(Eu h i (g b (by simp))).2;obtain⟨l,m⟩:=aol h i (g b (by simp));obtain⟨j,n⟩:=amV h a f λd o=>g d (by simp[o]);have k:jm apO c (b::a)=jm apO (dp apO c b) a:=rfl;rw[k];refine⟨l.trans f j,λe hf=>?_⟩;rcases cf.1 hf with rfl|hf
  ·exact m.trans f j
  ·exact n e hf
theorem anJ(i:uM apO){g:Int->Prop}{gs:List aw}(k:fY gs)(l:∀a∈gs,qx apO a):∀(c:List aw){d:List aw},(∀a∈d,qx apO a)->(∀a∈c,qx apO a)->(∀a∈d,g a.aq->AtF apO gs a)->(∀e∈c,g e.aq->alh apO gs e)->∀a∈jm apO d c,g a.aq->AtF apO gs a
 |[],d,_,_,f,_=>f
 |b::c,d,f,h,m,j=>anJ i k l c (Eu i f (h b (by simp))).2 (λa o=>h a (by simp[o]))
  (aoj i k f l (h b (by simp)) m (j b (by simp))) λe n=>j e (by simp[n])
theorem aoi(l:uM apO){gs:List aw}(h:fY gs)(k:∀a∈gs,qx apO a)(b:List aw)(e:∀a∈ap6,qx apO a)(i:∀a∈b,qx apO a)(f:LeI apO ap6 gs)(g:∀c∈b,alh apO gs c):LeI apO (jm apO ap6 b) gs:=
 λa d=>anJ (g:=λ_=>True) l h k b e i (λa d _=>f a d) (λc j _=>g c j) a d trivial
def alk(f:aj)(e:Int)(a b:aX):Prop:=b.ax=a.ax/\b.bl=a.bl/\b.m=a.m/\∃c:List (Int×Int),a.au=c.map Prod.fst/\b.au=c.map Prod.snd/\∀d∈c,ali f e d.1 d.2
variable{aqk aqY:aX}
theorem anp(b:aqY.ax=aqk.ax)(c:aqY.bl=aqk.bl)(a:aM):bW aqY a=bW aqk a:=by
 unfold bW;rw[b,c]
theorem aoh(b:aqY.ax=aqk.ax)(c:aqY.bl=aqk.bl)(a:List aM):eG aqY a=eG aqk a:=by
 unfold eG;simp only[anp b c]
theorem anB(c:alk apO aqb aqk aqY)(a:aM)(b:aO):alk apO aqb (fT aqk a b) (fT aqY a b):=by
 obtain⟨d,e,f,g⟩:=c;exact⟨by simp[fT,d],by simp[fT,e],by simp[fT,f],g⟩
theorem anM{i:aj}{h:Int}:∀(c:List aM)(vs:List aO){e d f:aX},alk i h e d->hU e c vs=T f->∃j,hU d c vs=T j/\alk i h f j
 |[],vs,e,d,f,b,a=>by
  simp only[hU,eK]at a⊢;subst a;exact⟨d,rfl,b⟩
 |t::c,[],e,d,f,b,a=>by simp[hU]at a
 |t::c,l::vs,e,d,f,b,a=>by
  rw[hU]at a;rw[hU,anp b.1 b.2.1];split at a
  ·rename_i g
   rw[if_pos g];split at a
   ·rename_i k
    rw[if_pos k];exact anM c vs b a
   ·cases a
  ·rename_i g
   rw[if_neg g];exact anM c vs (anB b t l) a
theorem aom(c:alk apO aqb aqk aqY)(a:Lit){b:Int}(k:a.bind≠[]->ali apO aqb aqC b):alk apO aqb (jq aqk a aqC) (jq aqY a b):=by
 unfold jq;split
 ·exact c
 ·rename_i j
  obtain⟨d,e,f,n,g,h,i⟩:=c;refine⟨d,e,by simp[f],n++[(aqC,b)],by simp[g],by simp[h],?_⟩;simp only[c5,lV];rintro m (l|rfl)
  ·exact i m l
  ·exact k j
theorem aox(a:alk apO aqb aqk aqY)(b:Lit):alk apO aqb (g7 aqk b) (g7 aqY b):=by
 unfold g7;split
 ·rename_i c d _
  simp only[anp a.1 a.2.1];split
  ·split
   ·exact anB a _ _
   ·split
    ·exact anB a _ _
    ·exact a
  ·exact a
 ·exact a
def Agr(b:Int)(c gs:List aw):Prop:=c.filter (λa=>a.aq==b)=gs.filter (λa=>a.aq==b)
theorem Agr.find{gs:List aw}(c:Agr aqb ap6 gs)(args:List aO):ap6.find? (gW aqb args)=gs.find? (gW aqb args):=by
 have key:∀b:List aw,b.find? (gW aqb args)=(b.filter λa=>a.aq==aqb).find? (gW aqb args):=by
  intro b;rw[List.find?_filter]
  congr 1
  funext a
  unfold gW;cases a.aq==aqb<;>simp
 rw[key ap6,key gs,c]
theorem aoN{g e:Int}(a:sg apO aqb aqC g=ab)(n:∀c,e8 apO aqb=T c->eF c e=ab)(j:ali apO aqb g e)(k:e8 apO aqb≠D):sg apO aqb aqC e=true:=by
 obtain⟨c,b⟩:=Option.ne_none_iff_exists'.1 k;have h:=j c b;have i:=n c b;unfold sg at a⊢;unfold e8 at b;cases f:apO.d[aqb.toNat]? with
 |none=>rw[f]at a;cases a
 |some o=>
  rw[f]at a b;simp only at a b⊢;by_cases l:o.of<0
  ·simp_all
  ·rw[if_neg l]at b
   rw[b]at a⊢;simp only[ox,bG,beq_iff_eq]at a⊢;obtain⟨p,rfl,m⟩:=qo a.1.2;exact⟨⟨⟨a.1.1.1,a.1.1.2⟩,i⟩,aea m a.2 h⟩
variable{aqj:aG}{aqA:Lit}
theorem aoz(p:PJ apO aqj aqA){gs:List aw}(v:∀g∈gs,qx apO g)(w:LeI apO ap6 gs)(o:pc aqA=ab->Agr aqA.aq ap6 gs){r:aX}(e:alk apO aqj.aq aqk aqY)(b:r∈e5 apO ap6 aqk aqA):
 ∃G∈e5 apO gs aqY aqA,alk apO aqj.aq r G:=by
 unfold e5 at b⊢;by_cases c:(aqA.ak==1||aqA.ak==3)=ab
 ·rw[if_pos c]at b⊢
  obtain⟨s,f,b⟩:=yj.1 b;obtain⟨f,a⟩:=tF.1 f;obtain⟨g,l,m,t,n⟩:=w s f;unfold nJ at b;obtain⟨H,y,rfl⟩:=dg.1 b;obtain⟨E,z,d⟩:=anM _ _ e y;unfold j9 at a;simp only[bG,beq_iff_eq,kg,bne_iff_ne,ne_eq]at a;refine⟨jq E aqA g.af,yj.2 ⟨g,tF.2 ⟨l,?_⟩,?_⟩,aom d aqA λu=>?_⟩
  ·unfold j9
   simp only[bG,beq_iff_eq,kg,bne_iff_ne,ne_eq];refine⟨m.trans a.1,?_⟩;by_cases q:aqA.ak=3
   ·obtain⟨A,x,-⟩:=p.gN (.inl q)
    refine .inr (aoN (a.2.resolve_left λe=>e q) (λi h=>v g l i (by rw[m,a.1];exact h)) ?_ (by rw[x];simp));rw[<-a.1];exact n
   omega
  ·unfold nJ
   rw[t,z]<;>rfl
  ·obtain⟨-,-,A,B,C⟩:=p.bind u
   intro i h;refine n i ?_;rw[a.1,B,<-C,h]
 ·rw[if_neg c]at b⊢
  split at b
  ·rename_i a
   have d:=aox e aqA;simp only[lV]at b;subst b;refine⟨g7 aqY aqA,?_,d⟩;rw[if_pos]
   ·simp
   ·simp only[kg,beq_iff_eq,not_or]at c
    unfold pe at a⊢;rw[aoh d.1 d.2.1];rw[if_neg c.1]at a⊢;by_cases j:aqA.ak=2
    ·rw[if_pos j]at a⊢
     rw[<-(o (by simp[pc,j])).find];exact a
    ·rw[if_neg j]at a⊢
     by_cases k:(aqA.ak==3||aqA.ak==4)=ab
     ·rw[if_pos k]at a⊢
      have F:aqA.ak=4:=by simpa[c.2]using k
      unfold tb at a⊢;rw[<-(o (by simp[pc,F])).find];exact a
     ·rw[if_neg k]at a⊢
      exact a
  ·cases b
theorem ann{c:aj}{q:aG}{l gs:List aw}(m:∀g∈gs,qx c g)(n:LeI c l gs){f:List Lit}(p:∀b∈f,PJ c q b)(o:∀b∈f,pc b=ab->Agr b.aq l gs):
 ∀(d:List Nat){h e k:aX},alk c q.aq h e->k∈kY c l f d h->∃r∈kY c gs f d e,alk c q.aq k r
 |[],h,e,k,j,a=>by
  simp only[kY,lV]at a⊢;subst a;exact⟨e,rfl,j⟩
 |i::d,h,e,k,j,a=>by
  rw[kY]at a⊢;split at a
  ·rename_i b t
   have s:=sG t;obtain⟨A,w,a⟩:=TJ.1 a;obtain⟨z,x,u⟩:=aoz (p b s) m n (o b s) j w;obtain⟨r,y,v⟩:=ann m n p o d u a;exact⟨r,TJ.2 ⟨z,x,y⟩,v⟩
  ·exact ann m n p o d j a
def amy(b:aj):Prop:=∀a∈b.ah,0<=a.aq->a.af.ak=3->∀d,e8 b a.aq=T d->∀c,b.aW[a.af.aQ.toNat]?=T c->pb d c.gM=ab
theorem an2(b:alk apO aqb aqk aqY)(a:k):ali apO aqb (jO aqk a) (jO aqY a):=by
 obtain⟨-,-,c,j,d,e,f⟩:=b;unfold jO;rw[c,d,e];split
 ·rename_i h _
  simp only[oM,zS];cases g:j[h]? with
  |none=>exact .refl
  |some i=>exact f i (sG g)
 ·exact .refl
theorem aoG(m:amy apO)(n:aqj∈apO.ah)(o:zl apO aqj)(g:0<=aqj.aq)(b:alk apO aqj.aq aqk aqY)(k:aqj.af.ak=3->∀a,e8 apO aqj.aq=T a->eF a (jO aqk aqj.af.aB)=ab/\eF a (jO aqY aqj.af.aB)=ab):
 (iR apO aqj aqY).aq=(iR apO aqj aqk).aq/\(iR apO aqj aqY).ad=(iR apO aqj aqk).ad/\ali apO (iR apO aqj aqk).aq (iR apO aqj aqk).af (iR apO aqj aqY).af:=by
 refine⟨rfl,aoh b.1 b.2.1 _,?_⟩;show ali apO aqj.aq (nI apO aqj aqk) (nI apO aqj aqY);unfold nI;split
 ·exact .refl
 ·split
  ·exact an2 b _
  ·split
   ·rename_i c
    intro a d;obtain⟨e,x,f,y,u,v,w⟩:=o.fn g c;have i:=m aqj n g c a d apO.aW[e] (by rw[f];simp);obtain⟨p,q⟩:=k c a d;have h:=an2 b aqj.af.aB a d;obtain⟨r,j,s⟩:=qo p;obtain⟨t,v1,v2⟩:=qo q;have l:apO.aW[aqj.af.aQ.toNat]?=T apO.aW[e]:=by rw[f];simp
    rw[l,j,v1];rw[j,v1]at h;simp only[pb,bG,fi,la,kg,jt]at i;exact(i.2 r s t v2).resolve_left (by simpa using h)
   ·exact .refl
variable{aqg:List aO}
theorem anZ(d:ti apO aqg)(y:amy apO){gs:List aw}(o:dq apO aqg ap6)(h:dq apO aqg gs)(x:LeI apO ap6 gs)(b:aqj∈apO.ah)(v:0<=aqj.aq)(z:∀q∈aqj.ae,pc q=ab->Agr q.aq ap6 gs):
 ∀a∈tg apO ap6 aqj,∃g∈tg apO gs aqj,g.aq=a.aq/\g.ad=a.ad/\ali apO a.aq a.af g.af:=by
 intro a w;obtain⟨u,f,rfl⟩:=du.1 w;have e:=d.hG aqj b;have i:=d.safe aqj b;have v1:=Ii e i (o.meet d b) (λa c=>(o.ok a c).af) u f;simp only[uD,bG]at i;obtain⟨C,p⟩:=rM.1 i.1.1;rw[PI p]at f;obtain⟨k,j,B⟩:=ann (λg c=>(h.ok g c).af) x e.lits z C ⟨rfl,rfl,rfl,[],rfl,rfl,by simp⟩ f;rw[<-PI p]at j;have v2:=Ii e (d.safe aqj b) (h.meet d b) (λa c=>(h.ok a c).af) k j
 refine⟨iR apO aqj k,du.2 ⟨k,j,rfl⟩,aoG y b e v B λr E A=>?_⟩;obtain⟨F,l,s⟩:=v1.au _ (Ez v1.zm (v1.m (.inr r)));obtain⟨G,n,t⟩:=v2.au _ (Ez v2.zm (v2.m (.inr r)));rw[A]at l n;cases l;cases n
 exact⟨s,t⟩
variable{aqL:List Int}
theorem amK(a:th aqL aqj=ab):0<=aqj.aq:=by
 simp only[th,bG,decide_eq_true_eq]at a;exact a.1
theorem anE{b:List aw->Prop}(g:b [])(d:∀a∈apO.ah,th aqL a=ab->∀out,b out->b (jm apO out (tg apO ap6 a))):b (nK apO aqL ap6):=by
 have key:∀(c:List aG)(_:∀a∈c,a∈apO.ah){out:List aw},b out->b (c.foldl (mb apO aqL ap6) out):=by
  intro c;induction c with
  |nil=>exactλ_ _ d=>d
  |cons a c j=>
   intro e out f;refine j (λk i=>e k (by simp[i])) ?_;unfold mb;split
   ·rename_i h;exact d a (e a (by simp)) h out f
   ·exact f
 exact key apO.ah (λ_ d=>d) g
theorem anI{e:Int->List aO->Prop}:∀(d:List aw){c:List aw},(∀a∈c,e a.aq a.ad)->(∀a∈d,e a.aq a.ad)->∀a∈jm apO c d,e a.aq a.ad
 |[],_,f,_=>f
 |b::d,c,f,g=>anI d (c:=dp apO c b) (Pf f (g b (by simp))) λa h=>g a (by simp[h])
theorem anF{c:Int->List aO->Prop}(d:∀b∈apO.ah,th aqL b=ab->∀a∈tg apO ap6 b,c a.aq a.ad):∀a∈nK apO aqL ap6,c a.aq a.ad:=
 anE (b:=λout=>∀a∈out,c a.aq a.ad) (by simp) λb g e _ f=>anI _ f (d b g e)
theorem aoa(f:ti apO aqg)(g:dq apO aqg ap6):∀(e:List aG)(_:∀r∈e,r∈apO.ah){out:List aw},dq apO aqg out->
 LeI apO out (e.foldl (mb apO aqL ap6) out)/\∀r∈e,th aqL r=ab->∀d∈tg apO ap6 r,alh apO (e.foldl (mb apO aqL ap6) out) d
 |[],_,out,_=>⟨.refl,by simp⟩
 |r::e,s,out,l=>by
  have n:=s r (by simp);have m:=(EB f g aqL [r] (by simpa using n) l).1;obtain⟨h,q⟩:=aoa f g e (by grind) m;rw[oJ];have j:∀b∈mb apO aqL ap6 out r,qx apO b:=λb a=>(m.ok b a).af;have i:LeI apO out (mb apO aqL ap6 out r)/\(th aqL r=ab->∀d∈tg apO ap6 r,alh apO (mb apO aqL ap6 out r) d):=by
   unfold mb;split
   ·rename_i c
    have p:0<=r.aq:=by
     simp only[th,bG,decide_eq_true_eq]at c;exact c.1
    have:=amV f.aV (tg apO ap6 r) (λb a=>(l.ok b a).af) (λb a=>(PQ f g n p b a).af);exact⟨this.1,λ_=>this.2⟩
   ·rename_i c
    exact⟨.refl,λo=>absurd o c⟩
  refine⟨i.1.trans j h,λb a c d k=>?_⟩;rcases cf.1 a with rfl|a
  ·exact(i.2 c d k).trans j h
  ·exact q b a c d k
theorem aob(f:ti apO aqg){gs:List aw}(d:dq apO aqg ap6)(h:dq apO aqg gs)(l:∀c∈apO.ah,th aqL c=ab->∀g∈tg apO ap6 c,alh apO gs g):LeI apO (nK apO aqL ap6) gs:=
 (anE (b:=λout=>dq apO aqg out/\LeI apO out gs) ⟨.nil apO aqg,by intro g d;cases d⟩ λc k j out e=>by
  have i:=PQ f d k (amK j);exact⟨EA f.aV _ e.1 i,aoi f.aV h.fz (λb a=>(h.ok b a).af) _ (λb a=>(e.1.ok b a).af) (λb a=>(i b a).af) e.2 (l c k j)⟩).2
theorem anG(e:ti apO aqg)(d:dq apO aqg ap6):∀a∈apO.ah,th aqL a=ab->∀b∈tg apO ap6 a,alh apO (nK apO aqL ap6) b:=
 (aoa e d apO.ah (λ_ c=>c) (.nil apO aqg)).2
def amG(c:aj)(b:List aw):Prop:=∀a∈b,¬amu c a
theorem aok(m:uM apO)(l:∀c∈ap6,qx apO c)(r:qx apO aqy)(g:amG apO ap6):amG apO (dp apO ap6 aqy):=by
 rcases am0 apO ap6 aqy with⟨i,d⟩|⟨i,⟨e,h,d,j,⟨b,k⟩|⟨f,b,k⟩⟩|⟨d,j⟩⟩
 ·grind
 ·simp_all
 ·rw[k]
  intro c a;rcases ak6 a with a|rfl
  ·exact g c a
  ·have p:=l _ (bs h) f (by rw[d];exact b)
   obtain⟨-,o,-,-⟩:=anq (m f (Bz b)) p (r f b);intro q;refine g ap6[e] (bs h) (amu.down (g:=⟨ap6[e].aq,ap6[e].ad,fy f [ap6[e].af,aqy.af]⟩) m (l _ (bs h)) rfl (λs n=>?_) q);rw[d,b]at n;cases n;exact o
 ·rw[j]
  intro c a;rcases H6.1 a with rfl|a
  ·exact i
  ·exact g c a
theorem anK(e:uM apO):∀(a:List aw){c:List aw},(∀f∈c,qx apO f)->(∀f∈a,qx apO f)->amG apO c->amG apO (jm apO c a)
 |[],_,_,_,d=>d
 |b::a,c,d,g,h=>anK e a (Eu e d (g b (by simp))).2 (by grind) (aok e d (g b (by simp)) h)
theorem aoo{gs:List aw}(a:fY ap6)(k:LeI apO ap6 gs)(d:Int):fS ap6 d<=fS gs d:=by
 have l:((ap6.filter λb=>b.aq==d).map aw.ad).Nodup:=by
  rw[List.nodup_iff_pairwise_ne,TQ];refine anz (λ{f o} c e n m=>n ?_) ((aen a).filter _);have c:=tF.1 c;have e:=tF.1 e;exact Pr a f c.1 o e.1 (by simp_all) m
 have p:=BA l (a:=(gs.filter λb=>b.aq==d).map aw.ad) λf c=>by
  obtain⟨b,a,rfl⟩:=du.1 c;have a:=tF.1 a;obtain⟨g,h,i,j,-⟩:=k b a.1;exact du.2 ⟨g,tF.2 ⟨h,by simpa[i]using a.2⟩,j⟩
 simp_all[fS]
theorem an9{gs:List aw}(e:fY ap6)(d:LeI apO ap6 gs)(f:jP gs=aa):jP ap6=false:=by
 unfold jP;rw[<-Kr,FE];rintro⟨a,b,c⟩;have b:a<Z ap6:=by simpa using b
 rw[si,bC b]at c;simp only[decide_eq_true_eq]at c;have g:=aej f ap6[a].aq;have h:=aoo e d ap6[a].aq;have i:fS (ap6.take (a+1)) ap6[a].aq<=fS ap6 ap6[a].aq:=by
  unfold fS;exact List.Sublist.length_le ((List.take_sublist _ _).filter _)
 omega
theorem anH{d:aj}:∀(f:List aw){a:List aw},(∀c∈f,c.aq≠aqb)->Agr aqb (jm d a f) a
 |[],_,_=>rfl
 |b::f,a,k=>by
  have o:=anH (d:=d) f (a:=dp d a b) λc q=>k c (by simp[q]);have m:=k b (by simp);refine o.trans ?_;rcases am0 d a b with⟨-,i⟩|⟨-,⟨e,n,i,l,⟨p,j⟩|⟨r,p,j⟩⟩|⟨-,l⟩⟩
  ·rw[i]
  ·rw[j]
  ·rw[j]
   have g:¬(a[e].aq==aqb)=true:=by rw[i];simpa using m
   have h:a.filter (λc=>c.aq==aqb)=(a.take e).filter (λc=>c.aq==aqb)++(a.drop (e+1)).filter (λc=>c.aq==aqb):=by
    conv=>lhs;rw[<-vg e a,mQ n,Ty,List.filter_cons_of_neg (p:=λc:aw=>c.aq==aqb) g]
   rw[h,alc,if_pos n,Ty,List.filter_cons_of_neg (p:=λc:aw=>c.aq==aqb) (a:=⟨a[e].aq,a[e].ad,fy r [a[e].af,b.af]⟩) g]
  ·rw[l]
   have g:¬(b.aq==aqb)=true:=by simpa using m
   have h:a.filter (λc=>c.aq==aqb)=(a.take (kA a b (Z a))).filter (λc=>c.aq==aqb)++(a.drop (kA a b (Z a))).filter (λc=>c.aq==aqb):=by
    conv=>lhs;rw[<-vg (kA a b (Z a)) a,Ty]
   unfold j8;rw[h,Ty,List.filter_cons_of_neg (p:=λc:aw=>c.aq==aqb) g]
theorem aoc:∀a∈nK apO aqL ap6,a.aq∈aqL:=
 anF (c:=λc _=>c∈aqL) λg _ b a d=>by
  obtain⟨f,-,rfl⟩:=du.1 d;simp only[th,bG,List.contains_iff_mem]at b;exact b.2
def amD(e:aj)(b:List Int)(d gs:List aw):Prop:=∀c∈e.ah,th b c=ab->∀a∈c.ae,pc a=ab->a.aq∉b/\Agr a.aq d gs
theorem ant(c:aqb∉aqL):Agr aqb (iG apO aqL ap6) ap6:=
 anH _ λb d a=>c (a▸aoc b d)
theorem amD.next{gs:List aw}(a:amD apO aqL ap6 gs):amD apO aqL (iG apO aqL ap6) gs:=λg e c f d b=>
 ⟨(a g e c f d b).1,(ant (a g e c f d b).1).trans (a g e c f d b).2⟩
theorem an7(a:ti apO aqg)(r:amy apO){gs:List aw}(c:dq apO aqg ap6)(d:dq apO aqg gs)(m:LeI apO ap6 gs)(s:amD apO aqL ap6 gs)(b:∀f∈apO.ah,th aqL f=ab->∀i∈tg apO gs f,alh apO gs i):LeI apO (iG apO aqL ap6) gs:=by
 have t:=(EC a c aqL).1;refine aoi a.aV d.fz (λh b=>(d.ok h b).af) _ (λh b=>(c.ok h b).af) (λh b=>(t.ok h b).af) m λi p=>.inr ?_;refine aob a c d (λf e k g l=>?_) i p;have j:=amK k;obtain⟨n,w1,v,w,x⟩:=anZ a r c d m e j (λu q o=>(s f e k u q o).2) g l;exact(b f e k n w1).down a.aV (PQ a c e j g l).af (PQ a d e j n w1).af v w x
variable{aoO:Nat}{asa:Option (List aw)}
theorem anD(c:ti apO aqg)(g:amy apO)(a:sn apO aqL aoO ap6 asa){gs:List aw}(b:dq apO aqg ap6)(f:dq apO aqg gs)(d:LeI apO ap6 gs)(l:jP gs=aa)(e:amD apO aqL ap6 gs)(h:∀asa∈apO.ah,th aqL asa=ab->∀j∈tg apO gs asa,alh apO gs j):
 ∃out,asa=T out/\LeI apO out gs:=by
 induction a with
 |over aoO ap6 a=>
  have k:=an7 c g b f d e h;rw[an9 (Il c b aqL).1.fz k l]at a;cases a
 |stop aoO ap6 a i=>exact⟨ap6,rfl,d⟩
 |next aoO ap6 asa a i n m=>exact m (Il c b aqL).1 (an7 c g b f d e h) e.next
theorem amM(f:ti apO aqg)(c:sn apO aqL aoO ap6 asa)(d:dq apO aqg ap6):∀gs,asa=T gs->dq apO aqg gs/\LeI apO ap6 gs/\jP gs=aa/\iG apO aqL gs=gs:=by
 induction c with
 |over aoO ap6 c=>grind
 |stop aoO ap6 c g=>
  intro gs e;cases e
  exact⟨d,.refl,by grind,g⟩
 |next aoO ap6 asa c g o n=>
  intro gs e;have h:=(Il f d aqL).1;obtain⟨i,j,k⟩:=n h gs e;have m:=(EC f d aqL).1;have l:=(amV f.aV (nK apO aqL ap6) (λb a=>(d.ok b a).af) λb a=>(m.ok b a).af).1;exact⟨i,l.trans (λb a=>(h.ok b a).af) j,k⟩
theorem ank(i:ti apO aqg):∀{g:List (List Int)}{b:List aw}{e:Option (List aw)},ra apO g b e->dq apO aqg b->∀gs,e=T gs->dq apO aqg gs/\LeI apO b gs
 |[],b,e,a,f=>by cases a;intro gs d;cases d;exact⟨f,.refl⟩
 |c::g,b,e,a,f=>by
  intro gs d;cases a with
  |none _ _ o _ a=>cases d
  |cons _ _ o _ j _ a p=>
   obtain⟨h,k,-,-⟩:=amM i a f j rfl;obtain⟨l,m⟩:=ank i p h gs d;exact⟨l,k.trans (λq n=>(h.ok q n).af) m⟩
theorem aoD(f:nN apO):∀b∈apO.aW,∃d,apO.m[b.of.toNat]?=T d/\0<=b.of/\pb d b.gM=true:=by
 intro b g;have e:=JR (congrArg aj.aW f.2.2.2) b g;obtain⟨c,h,rfl⟩:=jS.1 g;have a:=f.2.1;simp only[po,bG,fi,la]at a;have a:=a.1.2 c h;rw[oz,bC h]at a;simp only[bG]at a;obtain⟨a,-⟩:=a;split at a
 ·rename_i d i
  simp only[bG,decide_eq_true_eq]at a;have j:apO.aW[c].of=dz apO apO.aW[c].aV:=(congrArg Fn.of e).symm;have k:apO.aW[c].gM=fe d apO.aW[c]:=by
   refine(congrArg Fn.gM e).symm.trans ?_;simp only[eQ,i,if_pos a]
  refine⟨d,by rw[j];exact i,by omega,?_⟩;rw[k];have:=a.2;simp only[e9,bG]at this;exact this.2
 ·cases a
theorem aoR(c:nN apO):amy apO:=by
 intro a q G o I e E n;have A:apO.aW=apO.aW.map (eQ apO):=congrArg aj.aW c.2.2.2;have B:apO.d=apO.d.map (en apO):=congrArg aj.d c.2.2.2;have v:=congrArg aj.ah c.2.2.2;have y:dT apO []=⟨apO.m,apO.aW,apO.d,[]⟩:=by
  show(⟨apO.m,apO.aW.map (eQ apO),apO.d.map (en apO),[]⟩:aj)=_;grind
 have i:=JR v a q;obtain⟨l,-,-⟩:=c.2.2.1 a q;rw[y]at i l;have C:a.aq=kE ⟨apO.m,apO.aW,apO.d,[]⟩ a:=(congrArg aG.aq i).symm;have w:a.af.aQ=oA ⟨apO.m,apO.aW,apO.d,[]⟩ a:=(congrArg (λg:aG=>g.af.aQ) i).symm;have p:a.ar≠[]:=by grind[kE]
 obtain⟨k,j,z,-,-,-,-,r⟩:=IM l p;obtain⟨g,f,s,h⟩:=r o;have j:k<Z apO.d:=j;have f:=f;have t:a.af.aQ=g:=by rw[w,oA,if_neg p,if_neg (by omega),if_pos o,s]
 have u:a.aq=k:=by grind[kE]
 rw[t,ej,bC f]at n;cases n
 obtain⟨H,b,F,x⟩:=aoD c apO.aW[g] (bs f);rw[u,yf,JT j]at e;split at e
 ·cases e
 ·have h:=h
  rw[h]at b;have b:=b;rw[e]at b;cases b
  exact x
theorem LeI.fB{gs:List aw}(e:LeI apO ap6 gs):∀a∈ap6,∀b∈a.ad,b∈pa apO gs:=λa f b h=>by
 obtain⟨g,c,-,d,-⟩:=e a f;exact aiV c (d▸h)
def amI(c:aj)(d b:List aw):Bool:=d.all λa=>S (0<=sf b a.aq a.ad)&& !(S (0<=hK c a.aq)&& !sg c a.aq a.af ((b[(sf b a.aq a.ad).toNat]?.map aw.af).getD 0))
open Go.Law
def ae6(a:List Int)(c:List aw):List aw:=c.filter λb=>a.contains b.aq
def anN(d:aj)(a:List Int):Prop:=∀c∈d.ah,th a c=ab->∀b∈c.ae,pc b=ab->b.aq∉a
theorem Agr.symm{gs:List aw}(a:Agr aqb ap6 gs):Agr aqb gs ap6:=Eq.symm a
inductive amx(n:Nat)(D:cO):(Nat->Bool)->List (List Nat)->Prop
 |nil (done:Nat->Bool):amx n D done []
 |cons (done:Nat->Bool) (g:List Nat) (L:List (List Nat)) (h1:∀x∈g,x<n/\done x=aa) (h2:∀x∈g,∀b,b<n->D x b=ab->done b=ab\/b∈g) (h3:∀x∈g,∀y∈g,eY D x y=ab)
  (done':Nat->Bool) (h4:∀b,b<n->(done' b=ab<->done b=ab\/b∈g)) (t:amx n D done' L):amx n D done (g::L)
variable{aqQ:cO}{ap3:Nat}
theorem aod(a:eY aqQ aoO ap3=ab):eY aqQ ap3 aoO=true:=by
 simp only[eY,kg,beq_iff_eq,bG]at a⊢;grind
variable{aqe:Nat}
theorem aoe(c:∀aoO ap3 aqe,aqQ aoO ap3=ab->aqQ ap3 aqe=ab->aqQ aoO aqe=ab)(a:eY aqQ aoO ap3=ab)(b:eY aqQ ap3 aqe=ab):eY aqQ aoO aqe=true:=by
 simp only[eY,kg,beq_iff_eq,bG]at a b⊢;grind
theorem anS(i:∀b a r,aqQ b a=ab->aqQ a r=ab->aqQ b r=ab):∀(k:Nat){done:Nat->Bool},(∀b a,b<aoO->a<aoO->eY aqQ b a=ab->done b=ab->done a=ab)->amx aoO aqQ done (nL aoO aqQ k done)
 |0,done,_=>.nil _
 |k+1,done,s=>by
  rw[nL];split
  ·exact .nil _
  ·rename_i b v
   obtain⟨g,l,-⟩:=FD.1 v;have l:b<aoO:=by simpa using l
   simp only[ph,bG,jt,fi,la,kg]at g;have f:∀c,c∈(List.range aoO).filter (eY aqQ b)<->c<aoO/\eY aqQ b c=true:=by simp
   refine .cons _ _ _ (λc d=>?_) (λc d a j t=>?_) (λc d q p=>?_) (λa=>done a||eY aqQ b a) (λa j=>?_) (anS i k λc q d p u hd=>?_)
   ·obtain⟨m,e⟩:=(f c).1 d
    refine⟨m,?_⟩;rw[<-Kr];intro hd;rw[s c b m l (aod e) hd]at g;exact absurd g.1 (by simp)
   ·obtain⟨m,e⟩:=(f c).1 d
    have n:aqQ b a=ab\/eY aqQ b a=true:=by
     simp only[eY,kg,beq_iff_eq,bG]at e;rcases e with rfl|e
     ·exact .inl t
     ·exact .inl (i _ _ _ e.1 t)
    by_cases o:eY aqQ b a=ab
    ·exact .inr ((f a).2 ⟨j,o⟩)
    ·have n:=n.resolve_right o
     rcases g.2 a j with(h|h)|h
     ·rw[n]at h;cases h
     ·exact .inl h
     ·exact absurd h o
   ·exact aoe i (aod ((f c).1 d).2) ((f q).1 p).2
   ·simp[j]
   ·simp only[kg]at hd⊢
    rcases hd with hd|hd
    ·exact .inl (s c q d p u hd)
    ·exact .inr (aoe i hd u)
variable{ap2 aqE:Type}
theorem anr{f:List ap2->aqE->List ap2}{d:aqE->ap2->Prop}(g:∀e x a,a∈f e x<->a∈e\/d x a):∀(c:List aqE)(b:List ap2)(a:ap2),a∈c.foldl f b<->a∈b\/∃x∈c,d x a
 |[],b,a=>by simp
 |x::c,b,a=>by
  rw[oJ,anr g c,g];grind
theorem an4{b:Edge}:b∈kv apO<->∃a∈apO.ah,∃d∈a.ae,qs apO a d=ab/\b=((a.aq,d.aq),pc d):=by
 have f:∀a c e(b:Edge),b∈jD apO a c e<->b∈c\/(qs apO a e=ab/\b=((a.aq,e.aq),pc e)):=λa c e b=>by
  unfold jD;split<;>simp[*]
 have g:∀c a(b:Edge),b∈pd apO c a<->b∈c\/∃d∈a.ae,qs apO a d=ab/\b=((a.aq,d.aq),pc d):=λc a b=>anr (f a) _ c b;have:=anr g apO.ah [] b;simpa[kv]using this
theorem ano:sd apO aoO ap3=ab<->∃a∈kv apO,a.1.1=aoO/\a.1.2=ap3:=by
 simp[sd,qn]
theorem anV(a b:Nat)(e:sd apO a b=ab):a<Z apO.d/\b<Z apO.d:=by
 obtain⟨c,f,g,h⟩:=ano.1 e;have:=Bv c f;omega
theorem aou(d:aj):∀a b c,iF d a b=ab->iF d b c=ab->iF d a c=true:=by
 intro a b c e f;rw[iF,OE anV]at*;exact e.trans f
theorem anT(a:aj):amx (Z a.d) (iF a) (λ_=>aa) (pj (Z a.d) (iF a)):=
 anS (aou a) _ (by simp)
variable{aq1:List (List Nat)}
theorem amx.later{done:Nat->Bool}(b:amx aoO aqQ done aq1):∀g∈aq1,∀a∈g,a<aoO/\done a=false:=by
 induction b with
 |nil=>simp
 |cons done g aq1 h m n l i o j=>
  intro k c a f;rcases cf.1 c with rfl|c
  ·exact h a f
  ·obtain⟨d,e⟩:=j k c a f
   refine⟨d,?_⟩;rw[<-Kr]at e⊢;exactλb=>e ((i a d).2 (.inl b))
theorem anC(a:sn apO aqL aoO ap6 asa)(d:aqb∉aqL):∀gs,asa=T gs->Agr aqb gs ap6:=by
 induction a with
 |over aoO ap6 a=>grind
 |stop aoO ap6 a c=>intro gs b;cases b;rfl
 |next aoO ap6 asa a c f e=>exactλgs b=>(e gs b).trans (ant d)
theorem amN:∀{g:List (List Int)}{e:List aw}{f:Option (List aw)},ra apO g e f->∀{b:Int},(∀c∈g,b∉c)->∀gs,f=T gs->Agr b gs e
 |[],e,f,a,b,_=>by cases a;intro gs d;cases d;rfl
 |c::g,e,f,a,b,i=>by
  intro gs d;cases a with
  |none _ _ j _ a=>cases d
  |cons _ _ j _ h _ a k=>exact(amN k (by grind) gs d).trans (anC a (i c (by simp)) h rfl)
theorem ao9(d:se apO=[]):∀b∈apO.ah,∀a∈b.ae,kX apO b a=false:=by
 have key:∀(c:List aG){f:List (Int×Int)},c.foldl (qu apO) f=[]->f=[]/\∀b∈c,∀a∈b.ae,kX apO b a=false:=by
  intro c;induction c with
  |nil=>simp
  |cons b c k=>
   intro f d;rw[oJ]at d;obtain⟨e,j⟩:=k d;unfold qu at e;split at e
   ·simp at e
   ·rename_i i
    rw[FF]at i;refine⟨e,λl g a h=>?_⟩;rcases cf.1 g with rfl|g
    ·simpa using i a h
    ·exact j l g a h
 exact(key apO.ah d).2
theorem aov(h:aqj∈apO.ah)(g:aqA∈aqj.ae)(a:aqj.aq=aoO)(b:aqA.aq=ap3)(c:aoO<Z apO.d)(e:ap3<Z apO.d)(f:aqA.ak≠5):iF apO aoO ap3=true:=by
 rw[iF,D7];exact .gP _ _ (ano.2 ⟨_,an4.2 ⟨aqj,h,aqA,g,by simp[qs,ep,a,b,c,e,f],rfl⟩,a,b⟩)
def amZ(d:aj)(a:List Int)(c:List aw):Prop:=∀b∈c,b.aq∉a
theorem aof(q:ti apO aqg){done:Nat->Bool}{g:List Nat}(o:∀b∈g,b<Z apO.d/\done b=aa)(p:∀b∈g,∀a,a<Z apO.d->iF apO b a=ab->done a=ab\/a∈g)(l:aqj∈apO.ah)(j:th (g.map Int.ofNat) aqj=ab)(k:aqA∈aqj.ae):
 aqA.aq= -1\/∃a:Nat,a<Z apO.d/\aqA.aq=a/\(done a=ab\/a∈g):=by
 have m:=(q.hG aqj l).lits aqA k;by_cases e:aqA.ak=5
 ·exact .inl (m.cmp e).2
 ·obtain⟨a,c,h,-⟩:=m.aq e
  refine .inr ⟨a,c,h,?_⟩;simp only[th,bG,decide_eq_true_eq,List.contains_iff_mem,du]at j;obtain⟨-,f,i,n⟩:=j;exact p f i a c (aov l k n.symm h (o f i).1 c e)
theorem an6(z:ti apO aqg)(v:se apO=[]){g:List Nat}(k:∀j∈g,j<Z apO.d)(r:∀j∈g,∀w∈g,eY (iF apO) j w=ab):anN apO (g.map Int.ofNat):=by
 intro i u p a t m q;have n:=ao9 v i u a t;simp only[th,bG,decide_eq_true_eq,List.contains_iff_mem,du]at p q;obtain⟨-,b,l,e⟩:=p;obtain⟨c,o,f⟩:=q;have h:a.ak≠5:=by
  intro h;simp[pc,h]at m
 have s:=r b l c o;have e:i.aq=(b:Int):=e.symm;have f:a.aq=(c:Int):=f.symm;have x:=k b l;have y:=k c o;have:kX apO i a=true:=by
  simp only[kX,qs,ep,e,f,m,HW,ej,ve,bG,decide_eq_true_eq,bne_iff_ne,ne_eq];refine⟨⟨(by omega),h⟩,?_⟩;simpa[eY]using s
 rw[this]at n;cases n
theorem amL{g:List Nat}:(aoO:Int)∈g.map Int.ofNat<->aoO∈g:=by
 simp[akR]
def TyA(h:aj)(f:Int)(g:List aO):Prop:=∀c,h.d[f.toNat]?=T c->∀(a:Nat)(e:aO)(b:Int),g[a]?=T e->c.bb[a]?=T b->e.ty=b
def alj(e:k->Int)(a:aX):Prop:=∀(b:Nat)(d:k)(c:aO),a.ax[b]?=T d->a.bl[b]?=T c->c.ty=e d
variable{aqP:k -> Int}{aqw:aM}
theorem alj.get(f:alj aqP aqk)(j:Z aqk.bl=Z aqk.ax)(d:known aqk.ax aqw=ab):(bW aqk aqw).1.ty=eZ aqP aqw:=by
 unfold eZ bW;by_cases a:aqw.aB=[]
 ·simp[a]
 ·rw[if_neg a,if_neg a]
  have h:aqw.aB∈aqk.ax:=by
   simp only[known,kg,beq_iff_eq,decide_eq_true_eq]at d;exact d.resolve_left a
  cases c:aqk.ax.findIdx? (λi=>i==aqw.aB)with
  |none=>
   rw[wK]at c;have:=c _ h;simp at this
  |some e=>
   obtain⟨g,b,-⟩:=nW.1 c;have b:aqk.ax[e]=aqw.aB:=by simpa using b
   simp only;rw[oM,bC (by omega)];exact f e aqw.aB _ (by rw[bC g,b]) (bC (by omega))
variable{arf:aO}
theorem alj.put(e:alj aqP aqk)(g:Z aqk.bl=Z aqk.ax)(l:aqw.aB≠[])(j:arf.ty=eZ aqP aqw):alj aqP (fT aqk aqw arf):=by
 intro d i h b a;simp only[fT]at b a;by_cases c:d<Z aqk.ax
 ·rw[lU c]at b
  rw[lU (by omega)]at a;exact e d i h b a
 ·rw[FH (by omega)]at b
  rw[FH (by omega)]at a;have c:d=Z aqk.ax:=by
   obtain⟨f,-⟩:=e6.1 b;simp at f;omega
  subst c;simp only[Ke,cv,eK]at b;rw[g,Ke]at a;simp only[cv,eK]at a;simp_all[eZ]
variable{aqi:List k}
theorem anL(a:known aqi aqw=aa):aqw.aB≠[]:=by
 simp_all[known]
theorem alj.hU:∀(d:List aM)(vs:List aO){b g:aX},Z b.bl=Z b.ax->alj aqP b->(∀(c:Nat)(t:aM)(e:aO),d[c]?=T t->vs[c]?=T e->e.ty=eZ aqP t)->AM.hU b d vs=T g->alj aqP g
 |[],vs,b,g,_,f,_,a=>by
  simp only[AM.hU,eK]at a;exact a▸f
 |t::d,[],b,g,_,f,_,a=>by simp[AM.hU]at a
 |t::d,e::vs,b,g,h,f,j,a=>by
  rw[AM.hU]at a;have l:∀(c:Nat)(t:aM)(e:aO),d[c]?=T t->vs[c]?=T e->e.ty=eZ aqP t:=λc o p m n=>j (c+1) o p (by simpa using m) (by simpa using n);split at a
  ·split at a
   ·exact alj.hU d vs h f l a
   ·cases a
  ·rename_i i
   rw[qy,Kr]at i;refine alj.hU d vs (by simp[fT,h]) (f.put h (anL i) ?_) l a;exact j 0 t e (by simp) (by simp)
structure anO(p:aj)(r:aG)(τ:k->Int):Prop where
 head:0<=r.aq->∀x∈mL p r.aq r.ad,eZ τ x.1=x.2
 lit:∀l∈r.ae,0<=l.aq->∀x∈mL p l.aq l.ad,eZ τ x.1=x.2
 eq:∀l∈r.ae,l.ak=5->∀a b,l.ad=[a,b]->eZ τ a=eZ τ b
theorem ao0(c:nN apO)(l:aqj∈apO.ah):∃i,anO apO aqj i:=by
 have s:apO.aW=apO.aW.map (eQ apO):=congrArg aj.aW c.2.2.2;have t:apO.d=apO.d.map (en apO):=congrArg aj.d c.2.2.2;have n:=congrArg aj.ah c.2.2.2;have p:dT apO []=⟨apO.m,apO.aW,apO.d,[]⟩:=by
  show(⟨apO.m,apO.aW.map (eQ apO),apO.d.map (en apO),[]⟩:aj)=_;grind
 have o:=JR n aqj l;obtain⟨-,-,-,⟨i,b⟩,-⟩:=c.2.2.1 aqj l;rw[o,p]at b;simp only[we,wi,wj,c5,du,dB,zR]at b;refine⟨i,λe a g=>?_,λh f e a g=>?_,λh f r j k q=>?_⟩
 ·exact b (.ty a.1 a.2) (.inl ⟨a,.inl (by rw[BE,if_pos e];exact g),rfl⟩)
 ·exact b (.ty a.1 a.2) (.inl ⟨a,.inr ⟨_,⟨h,f,rfl⟩,by rw[iS,if_pos e];exact g⟩,rfl⟩)
 ·exact b (.eq j k) (.inr ⟨(j,k),⟨_,⟨h,f,rfl⟩,by simp[rj,r,q]⟩,rfl⟩)
variable{arD:List aM}{arS:cD}
theorem anR(b:∀a∈mL apO aqb arD,eZ aqP a.1=a.2)(e:apO.d[aqb.toNat]?=T arS)(f:arD[aoO]?=T aqw)(c:arS.bb[aoO]?=T aqC):eZ aqP aqw=aqC:=by
 refine b (aqw,aqC) ?_;unfold mL;rw[e];refine sG (i:=aoO) ?_;rw[List.getElem?_zip_eq_some];exact⟨f,c⟩
theorem alj.ext(s:anO apO aqj aqP)(F:dq apO aqg ap6)(y:∀f∈ap6,TyA apO f.aq f.ad)(p:aqA∈aqj.ae)(z:PJ apO aqj aqA)(g:Z aqk.bl=Z aqk.ax)(c:alj aqP aqk)(b:aqY∈e5 apO ap6 aqk aqA):alj aqP aqY:=by
 unfold e5 at b;split at b
 ·rename_i h
  obtain⟨f,j,b⟩:=yj.1 b;obtain⟨I,A,rfl⟩:=dg.1 b;obtain⟨j,r⟩:=tF.1 j;have x:f.aq=aqA.aq:=by
   simp only[j9,bG,beq_iff_eq]at r;exact r.1
  have m:=c.hU _ _ g (λl H B a v=>by
   have i:aqA.ak≠5:=by
    intro i;simp[i]at h
   obtain⟨e,E,u,C⟩:=z.aq i;have q:apO.d[aqA.aq.toNat]?=T apO.d[e]:=by rw[u];simp
   obtain⟨G,-⟩:=e6.1 a;have o:apO.d[e].bb[l]?=T (apO.d[e].bb[l]'(by omega)):=bC _;rw[anR (s.lit aqA p (by omega)) q a o];exact y f j _ (by rw[x];exact q) l B _ v o) A
  unfold jq;split
  ·exact m
  ·exact m
 ·split at b
  ·simp only[lV]at b
   subst b;unfold g7;split
   ·rename_i e t w
    split
    ·rename_i h
     simp only[bG,beq_iff_eq]at h;have n:=s.eq aqA p h.1 e t w;split
     ·rename_i a
      simp only[bG,jt]at a;rw[qy,qy]at a;exact c.put g (anL a.2) ((c.get g a.1).trans n)
     ·split
      ·rename_i a
       simp only[bG,jt]at a;rw[qy,qy]at a;exact c.put g (anL a.2) ((c.get g a.1).trans n.symm)
      ·exact c
    ·exact c
   ·exact c
  ·cases b
theorem aoH(d:ti apO aqg)(z:nN apO)(f:dq apO aqg ap6)(y:∀a∈ap6,TyA apO a.aq a.ad)(b:aqj∈apO.ah)(r:0<=aqj.aq):∀a∈tg apO ap6 aqj,TyA apO a.aq a.ad:=by
 intro a w;obtain⟨c,i,rfl⟩:=du.1 w;obtain⟨F,p⟩:=ao0 z b;have o:=d.hG aqj b;have k:=Ii o (d.safe aqj b) (f.meet d b) (λa g=>(f.ok a g).af) c i;have n:=d.safe aqj b;simp only[uD,bG]at n;obtain⟨J,m⟩:=rM.1 n.1.1;rw[PI m]at i;have key:=aer (f.meet d b) (λ_ c=>alj F c) (λdone G c E q A e j h s t H u v=>by
  have l:=sG e;exact alj.ext p f y l (o.lits A l) (by rw[t,s]) u v) (BB m).1 e0 rfl rfl (by simp[e0]) (λq E C g=>by simp[e0]at g) c i
 intro K x q C I e j;simp only[iR,eG,zS,dg]at e;obtain⟨B,h,rfl⟩:=e;rw[key.1.get k.len (k.ax B (sG h))];exact anR (p.head r) x h j
theorem ao3{e:List aw->Prop}(h:∀f a,e a->e (iG apO f a)):∀{g:List (List Int)}{a:List aw}{d:Option (List aw)},ra apO g a d->e a->∀b,d=T b->e b:=by
 have n:∀{f c a d},sn apO f c a d->e a->∀b,d=T b->e b:=by
  intro f c a d k;induction k with
  |over c a h=>grind
  |stop c a h i=>grind
  |next c a o m i p l=>exactλj=>l (h _ _ j)
 intro g a d k;induction k with
 |nil a=>grind
 |none f g c a h=>grind
 |cons f g c a gs o m p l=>exactλj b i=>l (n m j gs rfl) b i
structure amC(p:aj)(fB:List aO)(fs:List aw):Prop where
 v:dq p fB fs
 ty:∀f∈fs,TyA p f.aq f.ad
 nb:amG p fs
theorem aoK(b:ti apO aqg)(k:nN apO)(c:List Int)(a:amC apO aqg ap6):amC apO aqg (iG apO c ap6):=by
 have j:=(EC b a.v c).1;exact⟨(Il b a.v c).1,anI _ a.ty (anF λl i h f g=>aoH b k a.v a.ty i (amK h) f g),anK b.aV _ (λe d=>(a.v.ok e d).af) (λe d=>(j.ok e d).af) a.nb⟩
theorem anX(t:nN apO)(s:∀u∈aqg,qX u=ab)(a:amC apO aqg ap6):jk apO ap6=true:=by
 unfold jk;rw[fi];intro g b;have b:g<Z ap6:=by simpa using b
 have c:=bs b;rw[lL,bC b];simp only[bG];refine⟨?_,?_⟩
 ·obtain⟨f,j,h,w⟩:=(a.v.ok _ c).fJ
  have q:apO.d[ap6[g].aq.toNat]?=T apO.d[f]:=by rw[h];simp
  unfold qw;rw[q];simp only[bG,decide_eq_true_eq,v5,beq_iff_eq,fi,la];refine⟨by omega,⟨by omega,λe k=>?_⟩,?_⟩
  ·have n:apO.d[f].bb[e]?=T (apO.d[f].bb[e]'(by omega)):=bC _
   unfold uJ;rw[bC k,n];simp only[bG,beq_iff_eq];exact⟨s _ ((a.v.ok _ c).fB _ (bs k)),a.ty _ c _ q e _ _ (bC k) n⟩
  ·unfold xE
   split
   ·rename_i l
    have:=(a.v.ok _ c).none (by rw[yf,h,JT j,if_pos l]);simp[this]
   ·rename_i l
    have x:=SM t _ (bs j);have o:apO.d[f].of.toNat<Z apO.m:=by omega
    rw[bC o];have p:e8 apO ap6[g].aq=T apO.m[apO.d[f].of.toNat]:=by rw[yf,h,JT j,if_neg l,bC o]
    have i:=(a.v.ok _ c).af _ p;simp only[eF,bG,decide_eq_true_eq]at i;simp only[bG,decide_eq_true_eq,bne_iff_ne,ne_eq];exact⟨i.1,i.2,λr=>a.nb _ c ⟨_,p,r⟩⟩
 ·cases g with
  |zero=>rfl
  |succ e=>
   rw[uK,bC (by omega),bC b];simpa using a.v.fz e (e+1) (by omega) b (by omega)
theorem an0(y:nN apO)(o:jk apO ap6=ab):amC apO (pa apO ap6) ap6/\∀a∈ap6,∀g∈a.ad,qX g=true:=by
 have w:=JW y o;rw[jk,fi]at o;have v:∀a∈ap6,qw apO a=true:=by
  intro a f;obtain⟨c,i,rfl⟩:=jS.1 f;have:=o c (by simpa using i);rw[lL,bC i]at this;simp only[bG]at this;exact this.1
 have p:∀a∈ap6,∃e,apO.d[a.aq.toNat]?=T e/\(∀(c:Nat)(g:aO),a.ad[c]?=T g->qX g=ab/\∀l,e.bb[c]?=T l->g.ty=l)/\xE apO e a=true:=by
  intro a f;have m:=v a f;simp only[qw,bG]at m;have h:=m.2;split at h
  ·cases h
  ·rename_i e k
   simp only[v5,bG,beq_iff_eq,fi,la]at h;refine⟨e,k,λc g n=>?_,h.2⟩;obtain⟨i,t⟩:=e6.1 n;have b:=h.1.2 c i;have q:c<Z e.bb:=by omega
   rw[uJ,n,bC q]at b;simp only[bG,beq_iff_eq]at b;refine⟨b.1,λl r=>?_⟩;rw[bC q]at r;cases r
   exact b.2
 refine⟨⟨w,λa f e k c g l m h=>?_,λa f=>?_⟩,λa f g n=>?_⟩
 ·obtain⟨A,s,b,-⟩:=p a f
  rw[k]at s;cases s;exact(b c g m).2 l h
 ·rintro⟨z,j,t⟩
  obtain⟨e,k,-,b⟩:=p a f;rw[yf]at j;have u:hK apO a.aq=e.of:=by unfold hK;rw[k]
  rw[u]at j;unfold xE at b;split at j
  ·cases j
  ·rename_i x
   rw[if_neg x,j]at b;simp only[bG,decide_eq_true_eq,bne_iff_ne,ne_eq]at b;omega
 ·obtain⟨c,i,rfl⟩:=jS.1 n
  obtain⟨e,-,b,-⟩:=p a f;exact(b c _ (bC i)).1
theorem aog(a:ic aqw=ab)(b:aqw.aB=[]):qX aqw.const=true:=by
 grind[ic]
theorem anW(j:nN apO)(g:∀f∈ap6,∀b∈f.ad,qX b=ab):∀b∈pa apO ap6,qX b=true:=by
 refine aiX g (λl i e a d=>?_);have c:=(BJ j.1).hG l i;simp only[iO,c5,zR,du]at a;rcases a with a|⟨_,⟨k,h,rfl⟩,a⟩
 ·exact aog (c.BI e a) d
 ·exact aog ((c.lit k h).BI e a) d
theorem aoQ(a:nN apO){d:List (List Int)}(h:ti apO (pa apO ap6))(e:jk apO ap6=ab)(j:ra apO d ap6 (T aro)):jk apO aro=ab/\amC apO (pa apO ap6) aro:=by
 obtain⟨f,g⟩:=an0 a e;have b:=ao3 (λc gs i=>aoK h a c i) j f aro rfl;exact⟨anX a (anW a g) b,b⟩
variable{aqt:List Nat}
theorem ao5(j:ti apO aqg)(A:amy apO)(aL:se apO=[]){out:List aw}(aB:jP ap6=aa)(s:dq apO aqg out)(ak:LeI apO out ap6)(p:∀H:Int,H∉aqt.map Int.ofNat->Agr H out ap6)(aQ:LeI apO (nK apO (aqt.map Int.ofNat) out) out){done:Nat->Bool}(aU:amx (Z apO.d) (iF apO) done aq1):
 ∀{e:List aw},ra apO (aq1.map (·.map Int.ofNat)) e (T ap6)->dq apO aqg e->aqt∈aq1->amZ apO (aqt.map Int.ofNat) e->∀a∈ap6,a.aq∈aqt.map Int.ofNat->AtF apO out a:=by
 induction aU with
 |nil=>intro e _ _ ad;cases ad
 |cons done g aq1 w Q R a9 x G a0=>
  intro e E n r J;have M:=E;rw[eJ]at E;cases E with
  |cons _ _ be _ gs _ v L=>
   obtain⟨ah,-,-,-⟩:=amM j v n gs rfl;rcases cf.1 r with rfl|r
   ·obtain⟨bb,y⟩:=ank j M n ap6 rfl
    have mem:∀{a:aw}{m o:List aw},Agr a.aq m o->a∈m->a∈o:=λ{a m o} b n=>by
     have:a∈m.filter λh=>h.aq==a.aq:=by simp[n]
     rw[show m.filter _=o.filter _ from b]at this;exact(tF.1 this).1
    have ac:LeI apO e out:=λa l=>by
     obtain⟨h,a2,O,a3,a4⟩:=y a l;refine⟨h,mem (Agr.symm (p h.aq (by rw[O];exact J a l))) a2,O,a3,a4⟩
    have au:=an6 j aL (λh i=>(w h i).1) R;have ar:amD apO (aqt.map Int.ofNat) e out:=λF t q N K k=>by
     have C:=au F t q N K k;refine⟨C,?_⟩;have l:Agr N.aq ap6 e:=by
      refine amN M (λP f=>?_) ap6 rfl;rw[eJ]at f;rcases cf.1 f with rfl|f
      ·exact C
      ·obtain⟨u,z,rfl⟩:=du.1 f
       intro B;rcases aof j w Q t q K with b|⟨c,U,b,W⟩
       ·obtain⟨h,-,i⟩:=du.1 B
        rw[b]at i;simp at i
       ·rw[b]at B
        have:=(G.later u z c (amL.1 B)).2;rw[(x c U).2 W]at this;cases this
     exact l.symm.trans (p _ C).symm
    obtain⟨bf,b,ae⟩:=anD j A v n s ac (an9 s.fz ak aB) ar λF t q a X=>by
     exact(anG j s F t q a X).trans (λh i=>((EC j s _).1.ok h i).af) aQ
    cases b
    intro a l Y;refine ae a ?_;obtain⟨c,k,b⟩:=du.1 Y;have b:=b.symm;have i:Agr a.aq ap6 gs:=by
     rw[b];refine amN L (λP f V=>?_) ap6 rfl;obtain⟨u,z,rfl⟩:=du.1 f;have:=(G.later u z c (amL.1 V)).2;rw[(x c (w c k).1).2 (.inr k)]at this;cases this
    exact mem i l
   ·refine a0 L ah r λa y f=>?_
    obtain⟨c,k,b⟩:=du.1 f;have b:=b.symm;obtain⟨S,I⟩:=G.later aqt r c k;have ax:(c:Int)∉g.map Int.ofNat:=λA=>by
     rw[(x c S).2 (.inr (amL.1 A))]at I;cases I
    have p:=anC v ax gs rfl;have:a∈gs.filter λa=>a.aq==(c:Int):=by simp[y,b]
    rw[show gs.filter _=e.filter _ from p]at this;exact J a (tF.1 this).1 f
def amz(d:aj)(c:aw)(b:Nat):Option Int:=match e8 d c.aq with
 |some a=>if b%3=1/\(((b/3%Z a.au:Nat):Int)≠c.af/\((b/3%Z a.au:Nat):Int)≠fy a []/\ox a ((b/3%Z a.au:Nat):Int) c.af=ab)then T ((b/3%Z a.au:Nat):Int)else D
 |none=>D
def alm(d:aj)(g:List Int)(c:List UInt8)(a:List aw×Bool×Nat)(b:aw):List aw×Bool×Nat:=
 if(!g.contains b.aq||oB d b)=ab then(a.1++[b],a.2.1,a.2.2)else
 if((c[a.2.2%Z c]?).getD 0).toNat%3=0 then(a.1,ab,a.2.2+1)else
 match amz d b ((c[a.2.2%Z c]?).getD 0).toNat with
 |some e=>(a.1++[⟨b.aq,b.ad,e⟩],ab,a.2.2+1)
 |none=>(a.1++[b],a.2.1,a.2.2+1)
def ael(c:aj)(g:List Int)(a:List UInt8)(b:List aw):List aw×Bool×Nat:=b.foldl (alm c g a) ([],aa,0)
def aeh(a:aw):aw:=⟨a.aq,a.ad,0⟩
variable{asb:aw}
theorem ani(a:aeh aqy=aeh asb):aqy.aq=asb.aq/\aqy.ad=asb.ad:=by
 grind[aeh]
theorem an1(a b:aw):db (aeh a) (aeh b)=db a b:=ad6 rfl rfl rfl rfl
def amW(e:aj)(g:List Int)(d:List aw)(a:aw):Prop:=a∈d\/∃b∈d,aeh a=aeh b/\b.aq∈g/\∃c,e8 e b.aq=T c/\eF c a.af=ab/\a.af≠fy c []/\dK c a.af.toNat b.af.toNat=ab/\a.af≠b.af
theorem amW.app{g:List Int}(a:amW apO g ap6 aqy):amW apO g (ap6++aro) aqy:=
 a.imp (λa=>by simp[a]) λ⟨b,c,d⟩=>⟨b,by simp[c],d⟩
theorem anP{C b:List aw}(f:Agr aqb ap6 aro)(g:∀a∈C,a.aq≠aqb)(h:∀a∈b,a.aq≠aqb):Agr aqb (ap6++C) (aro++b):=by
 have d:∀c:List aw,(∀a∈c,a.aq≠aqb)->c.filter (λe=>e.aq==aqb)=[]:=by simp
 unfold Agr at*;rw[Ty,Ty,f,d C g,d b h]
structure amB(p:aj)(g:List Int)(m out:List aw)(less:Bool):Prop where
 sub:(out.map aeh).Sublist (m.map aeh)
 mem:∀x∈out,amW p g m x
 off:∀a:Int,a∉g->Agr a out m
 less:less=ab->∃f∈m,(f.aq∈g/\oB p f=aa)/\(aeh f∉out.map aeh\/∃x∈out,aeh x=aeh f/\x.af≠f.af/\∃l,e8 p f.aq=T l/\eF l x.af=ab/\dK l x.af.toNat f.af.toNat=ab)
variable{arT:List UInt8}{apN:Bool}
theorem amB.step{g:List Int}{out:List aw}(c:amB apO g ap6 out apN)(u:aeh aqy∉ap6.map aeh):amB apO g (ap6++[aqy]) (alm apO g arT (out,apN,aoO) aqy).1 (alm apO g arT (out,apN,aoO) aqy).2.1:=by
 have E:aeh aqy∉out.map aeh:=λC=>u (c.sub.subset C);have I:∀m:List aw,(∀q∈m,aeh q=aeh aqy)->(apN=ab->∃d∈ap6++[aqy],(d.aq∈g/\oB apO d=aa)/\(aeh d∉(out++m).map aeh\/∃b∈out++m,aeh b=aeh d/\b.af≠d.af/\∃f,e8 apO d.aq=T f/\eF f b.af=ab/\dK f b.af.toNat d.af.toNat=ab)):=by
  intro m F l;obtain⟨d,t,y,z⟩:=c.less l;refine⟨d,by simp[t],y,z.imp (λo e=>?_) λ⟨b,o,e⟩=>⟨b,by simp[o],e⟩⟩;rw[ht,c5]at e;rcases e with e|e
  ·exact o e
  ·obtain⟨q,G,s⟩:=du.1 e
   rw[F q G]at s;exact u (s▸du.2 ⟨d,t,rfl⟩)
 have H:amB apO g (ap6++[aqy]) (out++[aqy]) apN:=by
  refine⟨by simpa using c.sub.append (List.Sublist.refl [aeh aqy]),λb a=>?_,λi j=>?_,I [aqy] (by simp)⟩
  ·rcases c5.1 a with a|a
   ·exact(c.mem b a).app
   ·exact .inl (by simp at a;simp[a])
  ·have:=c.off i j
   unfold Agr at this⊢;rw[Ty,Ty,this]
 unfold alm;split
 ·exact H
 ·rename_i v
  have p:aqy.aq∈g/\oB apO aqy=false:=by
   simp only[kg,jt,not_or,Bool.not_eq_false,List.contains_iff_mem,Kr]at v;exact v
  have B:=p.1;split
  ·exact⟨by rw[ht];exact c.sub.trans (by simp),λb a=>(c.mem b a).app,λi j=>by simpa using anP (C:=[]) (b:=[aqy]) (c.off i j) (by simp) (by grind),λ_=>⟨aqy,by simp,p,.inl E⟩⟩
  ·split
   ·rename_i w h
    unfold amz at h;split at h
    ·rename_i f l
     split at h
     ·rename_i A
      cases h
      obtain⟨-,r,x,n⟩:=A;simp only[ox,bG]at n;have k:=And.intro n.1.1.2 n.2;generalize(((arT[aoO%Z arT]?).getD 0).toNat/3%Z f.au:Nat)=w at*;refine⟨?_,λb a=>?_,λi j=>anP (c.off i j) (by grind) (by grind),λ_=>⟨aqy,by simp,p,.inr ⟨⟨aqy.aq,aqy.ad,w⟩,by simp,rfl,r,f,l,k.1,k.2⟩⟩⟩
      ·rw[ht,ht]
       exact c.sub.append (List.Sublist.refl [aeh aqy])
      ·rcases c5.1 a with a|a
       ·exact(c.mem b a).app
       ·rw[lV]at a
        subst a;exact .inr ⟨aqy,by simp,rfl,B,f,l,k.1,x,k.2,r⟩
     ·cases h
    ·cases h
   omega
theorem aor{g:List Int}(i:fY ap6):amB apO g ap6 (ael apO g arT ap6).1 (ael apO g arT ap6).2.1:=by
 have key:∀a,a<=Z ap6->amB apO g (ap6.take a) (ael apO g arT (ap6.take a)).1 (ael apO g arT (ap6.take a)).2.1:=by
  intro a;induction a with
  |zero=>exactλ_=>⟨by simp[ael],by simp[ael],by simp[ael,Agr],by simp[ael]⟩
  |succ a m=>
   intro o;have c:a<Z ap6:=by omega
   have e:=m (by omega);have b:ael apO g arT (ap6.take (a+1))=alm apO g arT (ael apO g arT (ap6.take a)) ap6[a]:=by
    unfold ael;rw[hX c,vj]<;>rfl
   rw[b,hX c];refine e.step λk=>?_;obtain⟨p,l,b⟩:=du.1 k;obtain⟨d,j,rfl⟩:=jS.1 l;rw[gb]at j;rw[Cu]at b;have n:=i d a (by omega) c (by omega);obtain⟨f,h⟩:=ani b;have:=(zj ap6[d] ap6[a]).2 ⟨f,h⟩;omega
 have:=key (Z ap6) (di _);simp_all
theorem anU{g:List Int}{out:List aw}(i:amC apO aqg ap6)(s:amB apO g ap6 out apN):amC apO aqg out/\LeI apO out ap6:=by
 have j:∀a∈out,∃c∈ap6,c.aq=a.aq/\c.ad=a.ad/\ali apO a.aq a.af c.af/\qx apO a/\(e8 apO a.aq=D->a.af= -1)/\¬amu apO a:=by
  intro a j;rcases s.mem a j with b|⟨c,b,e,-,C,d,o,p,q,-⟩
  ·exact⟨a,b,rfl,rfl,.refl,(i.v.ok a b).af,(i.v.ok a b).none,i.nb a b⟩
  ·obtain⟨l,n⟩:=ani e
   refine⟨c,b,l.symm,n.symm,λu f=>?_,λu f=>?_,λB=>?_,λ⟨u,f,y⟩=>?_⟩
   ·rw[l,d]at f;cases f;exact q
   ·rw[l,d]at f;cases f;exact o
   ·simp_all
   ·rw[l,d]at f;cases f;exact p y
 refine⟨⟨⟨?_,λa h=>?_⟩,λa h=>?_,λa h=>?_⟩,λa h=>?_⟩
 ·rw[H4]
  have b:(ap6.map aeh).Pairwise λk m=>db k m<0:=by
   rw[TQ];refine(H4.1 i.v.fz).imp λ{k m} r=>?_;rw[an1];exact r
  have e:=b.sublist s.sub;rw[TQ]at e;refine e.imp λ{k m} r=>?_;rw[<-an1];exact r
 ·obtain⟨c,b,e,d,-,p,q,-⟩:=j a h
  have t:=i.v.ok c b;obtain⟨k,x,l,n⟩:=t.fJ;exact⟨⟨k,x,by omega,by rw[<-d];exact n⟩,λA z=>t.fB A (d▸z),p,q⟩
 ·obtain⟨c,b,e,d,-⟩:=j a h
  have:=i.ty c b;rw[e,d]at this;exact this
 ·obtain⟨c,-,-,-,-,-,-,w⟩:=j a h
  exact w
 ·obtain⟨c,b,e,d,o,-⟩:=j a h
  exact⟨c,b,e,d,o⟩
theorem aos(y:ti apO aqg){g:List Int}{out:List aw}(m:amC apO aqg ap6)(j:amB apO g ap6 out apN)(u:∀a∈ap6,a.aq∈g->AtF apO out a):apN=false:=by
 rw[<-Kr];intro w;obtain⟨x,-⟩:=anU m j;obtain⟨a,k,t,b⟩:=j.less w;obtain⟨e,n,z,A,B⟩:=u a k t.1;have c:aeh e=aeh a:=by unfold aeh;rw[z,A]
 rcases b with b|⟨C,E,o,F,d,f,G,p⟩
 ·exact b (c▸du.2 ⟨e,n,rfl⟩)
 ·have s:=Pr x.v.fz e n C E (ani (c.trans o.symm)).1 (ani (c.trans o.symm)).2
  subst s;obtain⟨H,h,q⟩:=qo G;obtain⟨I,i,r⟩:=qo ((m.v.ok a k).af d f);have l:=B d f;rw[h,i]at l p;exact F (by rw[h,i,Pj (y.aV d (Bz f)) q r p l])
theorem aoM(r:kz apO)(o:dq apO aqg ap6)(q:fY aro)(m:amI apO ap6 aro=ab):LeI apO ap6 aro:=by
 intro a i;have e:=fi.1 m a i;simp only[bG,decide_eq_true_eq]at e;have n:=nH (gW a.aq a.ad) aro;rcases n with⟨l,j,c,p⟩|⟨c,-⟩
 ·have c:sf aro a.aq a.ad=l:=c
  have f:=TN p;simp only[gW,bG,beq_iff_eq,decide_eq_true_eq]at f;refine⟨aro[l],bs j,f.1,f.2,λs d=>?_⟩;rw[c,ej,bC j]at e;have g:¬hK apO a.aq<0:=by
   intro g;rw[yf,if_pos g]at d;cases d
  have b:=e.2;simp only[iA,oK,jt,KA,decide_eq_false_iff_not,Ko]at b;have b:=b.resolve_left (by omega);obtain⟨t,k,h,-⟩:=(o.ok a i).fJ;rw[yf,if_neg g,h,JT k]at d;unfold sg at b;rw[h,ej,bC k]at b;simp only[d,ox,bG]at b;exact b.2
 ·have c:sf aro a.aq a.ad= -1:=c
  omega
open Go.Proofs
variable{apE apQ aqc aqG:AV}
theorem r7N:qQX 7 [apE,apQ,aqc,aqG] 0x124400710710215e00102c000102017e602324e65c0311e618e415e17e415e10e317e0eeb000321402811e30d4030201ae28e326e00211de11de3324e43232fe2ae4032118e4020032121e402001430402c430e44098722e40200dcb26e4020010e0fe0ee04020fe70323e60fe041fe35e030ee0416e0122e6b041fe31e030ee8016eb108601421e2ce038a50e4400eedc19e4020011e10e0fe040201d1510ee17e02bebba03721e25e23004012e302c414e0d1350fe11e1023e18e121e8000fe0ee03020c28e326e00210fe10fe3324e43232fe2ae4408760402c009870402604721e1ee2310ed0d080ee0220e61811eb511e32ceb40490fe80fe05a31ee0418e12810007100102a800102c00010206d2510e04d050eeb4100102c00010220d2810e0316e05b0121e66415e111ce001ce50217e62415e00174100102c000102c0001020129e3ce5b810e01d058810e017e4021fe61415eb0c60414e [.x2 λa b=>jM (.int .i64) (nv a 12),.B .rem 1 0,.x2 λa b=>dV (.sl 3) (nv a 21) (some (nv a 9)) (some (nv a 0)) b,.B .rem 12 0,.x2 λa b=>jM (.int .i64) (nv a 0),.B .rem 2 0,.B .rem 7 5,.B .rem 3 0]:=
 ru Tryz.func7 (an 0x800000001000400020000020000100010003fff1f 0x80000000100040002000002000010001000000000 [18] [(14,3)] [] []) []
theorem r25:qQQ 25 [apE] 0x7100102a000102a00010240d080147e67415e0ee01d05080146e62415e0ee0130e60415eb0414e:=
 ru Tryz.func25 (am 7 0) []
theorem r31:qQQ 31 [apE,apQ] 0x122007c0007202711e00974017e014721e4a0321e7234029780fe05a0007a4100102c000102c000102017ea021ae67415e10e017e0119e64415e10e017e0413d6bb8f50415eb0414e:=
 ru Tryz.func31 (am 0x2001100037 0x2001100000) []
theorem r32:qQQ 32 [apE,apQ] 0x1220270001202611e3050220327312207603120a28e326e1021b0b3324e2ae8c31fe40001202411e100102c20010201d9d0321e3d18e10eb4029b80feab4029580fe0531ee31ee:=
 ru Tryz.func32 (an 0x4000411f3 0x400041000 [] [(4,3),(5,3)] [] []) []
theorem r36:qQQ 36 [apE,apQ,aqc] 0x122007c000a202a11e00c74100102c00d102000102017e012323e6814e2321ed12e2321e3041fe0ee030eeb12be10ea39b013721e7c0321e92301b357e6491321e380321e4029680fe05a0414e:=
 ru Tryz.func36 (am 0x40000000000023cf 0x4000000000002000) []
def amF(c:List Obj)(b:AV)(a:List aw):Prop:=lN c b a\/∃d,b=eS d (cF aa) a
variable{apF:List Obj}
theorem amF.g3(a:amF apF apE ap6):apE.pl=apE/\∃b,aI apF .cm apE.pl (eS b (cF aa) ap6):=by
 rcases a with a|⟨b,rfl⟩
 ·exact⟨a.pl,ab,by rw[a.pl];exact a.g3⟩
 ·exact⟨rfl,b,Im.snap (by simp)⟩
noncomputable def amA(a:aj):Bool:=iH a&&(Z (nA a):Int)==0&&(Z (se a):Int)==0
theorem k25(a:aj)(g:dW a)(d:Z a.ah<=20)(h:∀i∈a.ah,j6 i)(e:nN a->ky a):PR C 25 [.agg (cP aa apN a)] (.bool (amA a)):=by
 refine r25.pr ?_;simp only[dS,Q,fQ,bo,G];refine f (afx a g) (aZ (λb=>?_) (λb=>bE (by rw[amA,b]<;>rfl)));refine f (Ot a d h) ?_;simp only[a8,c9,Q];refine aZ (λc=>?_) (λc=>bE (by rw[amA,b,c]<;>rfl));refine f (O4 a (e (QM.1 b)) d) ?_;simp only[a8,c9,Q];exact gU (by rw[amA,b,c]<;>rfl)
noncomputable def amE(a:aj)(b:List aw):Bool:=r9 a b 3000&&amA a&&jk a b&&b.all (oB a)
variable{ap5:Bool}
theorem k31(b:aj)(c:List aw)(o:dW b)(n:Sm c)(w:∀v∈c,eO v.ad):PR C 31 [.agg (cP aa apN b),eS ap5 (cF aa) c] (.bool (amE b c)):=by
 refine r31.pr ?_;simp only[dS,Q,fQ];refine eh (N:=[]) (!(r9 b c 3000&&amA b&&jk b c)) (λH j=>?_) ?_
 ·refine f (acP b c 3000 (by omega) o n) ?_
  simp only[bD,Q];refine dx (λe=>?_) (λe=>kB j (by simp_all));have e:r9 b c 3000=true:=by simpa using e
  have s:=Ce e;obtain⟨B,z,-⟩:=Cd s;refine f (k25 b o z B (SW s)) ?_;simp only[bD,Q];refine dx (λh=>?_) (λh=>kB j (by simp_all));have h:amA b=true:=by simpa using h
  have E:nN b:=by
   simp only[amA,bG]at h;exact QM.1 h.1.1
  refine f (adS b c o (SM E) n w) ?_;simp only[bD,Q];exact kB j (by simp_all)
 simp only[G];refine c8 (λe=>bE (by rw[amE,e]<;>rfl)) (λe=>?_);have x:jk b c=true:=by
  simp only[bG]at e;exact e.2
 have y:=aiO x;refine et (U:=Z c) (c:=λk=>[ff,I k]) (λk=>(c.take k).all (oB b)=ab) (by simp) rfl (λk g l t j=>?_) (λl t=>?_)
 ·obtain⟨u,q,m⟩:=y _ (bs g)
  have r:oB b c[k]=b.d[u].fI:=by
   unfold oB;rw[m,ej,bC q]
  simp only[i,G,a8,A,Q,a,g,decide_true,a6,aH,iy,aJ,aC g (hE _ _),p5,m,aC q (hD _ _),AP,bD];refine a7 ?_;refine c8 (λp=>bE ?_) (λp=>?_)
  ·rw[amE,e,cu,List.all_eq_false]
   exact⟨_,bs g,by rw[r,p];simp⟩
  ·rw[n.inc g,Q]
   refine j ?_;rw[mD g,l,r,p]<;>rfl
 ·simp only[i,G,a8,A,Q,a,ca,decide_false]
  refine bq (hR ?_);rw[dB]at l;rw[amE,e,l]<;>rfl
def am2(c:aj)(b:List aw)(a:aw):Bool:=S (0<=sf b a.aq a.ad)&& !(S (0<=hK c a.aq)&& !sg c a.aq a.af ((b[(sf b a.aq a.ad).toNat]?.map aw.af).getD 0))
theorem k36(c:aj)(b e:List aw)(P:dW c)(N:kz c)(E:Sm b)(F:Sm e)(J:∀t∈e,eO t.ad)(H:fY e)(K:∀t∈b,∃h:Nat,∃_:h<Z c.d,t.aq=h):PR C 36 [.agg (cP aa apN c),eS aa (cF aa) b,eS ap5 (cF aa) e] (.bool (amI c b e)):=by
 have y:amI c b e=b.all (am2 c e):=rfl;refine r36.pr ?_;simp only[dS,Q];refine et (U:=Z b) (c:=λg=>[ff,I g]) (λg=>(b.take g).all (am2 c e)=ab) (by simp) rfl (λg k s B L=>?_) (λs B=>?_)
 ·obtain⟨h,j,o⟩:=K _ (bs k)
  have O:hK c b[g].aq=c.d[h].of:=by rw[o,JT j]
  simp only[i,G,a8,A,Q,a,k,decide_true,a6,aH,iy,aJ,aC k (hE _ _),p5,ug,uh];refine a7 ?_;refine f (En e b[g].aq b[g].ad F J H) ?_;have v:=xW (gW b[g].aq b[g].ad) e;have v: -1<=sf e b[g].aq b[g].ad/\sf e b[g].aq b[g].ad<Z e:=v;simp only[o,aC j (hD _ _),a6,aH,yO,Q,aJ];refine eh (N:=[]) (!am2 c e b[g]) (λU r=>?_) ?_
  ·rw[am2,O,o]at r
   rw[o]at v;generalize S:sf e (h:Int) b[g].ad=u at*;simp only[A,gF,Q];refine dx (λl=>?_) (λl=>kB r (by have l:=(by simpa using l);have:=(by omega);simp[this]));have l:0<=u:=by simp at l;omega
   refine aZ (λn=>?_) (λn=>kB r (by have n:¬(0<=c.d[h].of):=(by simp at n;omega);simp[l,n]));have n:0<=c.d[h].of:=by simpa using n
   obtain⟨q,w⟩:∃q:Nat,c.d[h].of=q:=⟨c.d[h].of.toNat,by omega⟩;have x:q<Z c.m:=by have:=N _ (bs j);omega
   obtain⟨p,rfl⟩:∃p:Nat,u=p:=⟨u.toNat,by omega⟩;have z:p<Z e:=by omega
   have M:sg c (h:Int) b[g].af e[p].af=ox c.m[q] b[g].af e[p].af:=by
    unfold sg;rw[ej,bC j];simp only[w,ej,bC x]
   simp only[a6,aH,oe,Q,aJ,w,aC x (jh _ _),hF,aC k (hE _ _),uh,aC z (hE _ _)];refine f (OO c.m[q] _ _ (P.aV _ (bs x))) ?_;simp only[bD,Q];refine kB r ?_;simp[w,M,bC z]
  ·simp only[G]
   refine c8 (λj=>bE ?_) (λj=>?_)
   ·rw[y,List.all_eq_false]
    exact⟨_,bs k,by rw[j];simp⟩
   ·rw[E.inc k,Q]
    refine L ?_;rw[mD k,s,j]<;>rfl
 ·simp only[i,G,a8,A,Q,a,ca,decide_false]
  refine bq (hR ?_);rw[dB]at s;exact y.trans s
theorem an5(a:List aw):NB (eS aa (cF aa) a):=rA (λb=>.cons _ _ (.int _ _) (.cons _ _ (zE _) (.cons _ _ (.int _ _) .nil))) a
structure amY(p:aj)(fs:List aw):Prop where
 r9:r9 p fs 3000=ab
 q3:qi p fs
 val:nN p
 uns:nA p=[]
 str:se p=[]
 form:jk p fs=ab
 fI:fs.all (oB p)=ab
theorem aoA(a:amE apO ap6=ab):amY apO ap6:=by
 simp only[amE,amA,bG,beq_iff_eq]at a;obtain⟨⟨⟨b,⟨c,f⟩,g⟩,d⟩,e⟩:=a;exact⟨b,Ce b,QM.1 c,wF (by omega),wF (by omega),d,e⟩
theorem aoI(i:eP C)(j:wA C)(l:x5 C)(a:amY apO ap6)(h:dW apO)(d:∀k∈ap6,eO k.ad):
 ∃b,ra apO (xV apO) ap6 b/\(∀gs,b=T gs->dq apO (pa apO ap6) gs/\jP gs=aa)/\PR C 23 [.agg (cP aa apN apO),eS ap5 (cF aa) ap6] (BL b):=by
 obtain⟨p,-,o⟩:=Cd a.q3;have f:=JV a.r9 a.val h d a.uns;have e:=JW a.val a.form;have r:=a.q3.facts;obtain⟨b,g,m⟩:=PT f.v (xV apO) e (Io (by omega));have n:qH apO ap6=true:=by
  rw[qH,a.form,a.fI,QM.2 a.val]<;>rfl
 refine⟨b,g,m,jr i j l (V:=apN) (F:=ap5) (bp:=false) apO ap6 h (by unfold Sm;omega) d (BL b) (λc=>by rw[n]at c;cases c) λ_=>?_⟩;exact⟨o,p,SW a.q3 a.val,λc=>absurd a.uns c,λ_ c=>absurd a.str c,λ_ _=>⟨_,b,f,e,by omega,g,rfl⟩⟩
theorem aoW(c:aoO<Z ap6):ae6 aqL (ap6.take (aoO+1))=if aqL.contains ap6[aoO].aq=ab then ae6 aqL (ap6.take aoO)++[ap6[aoO]]else ae6 aqL (ap6.take aoO):=by
 rw[ae6,hX c,Ty];by_cases a:aqL.contains ap6[aoO].aq=ab
 ·rw[if_pos a,List.filter_cons_of_pos (p:=λb:aw=>aqL.contains b.aq) a]<;>rfl
 ·rw[if_neg a,List.filter_cons_of_neg (p:=λb:aw=>aqL.contains b.aq) a]
  simp[ae6]
theorem aoV(b:List Int)(a:List aw):Z (ae6 b a)<=Z a:=vh ..
theorem k32(d:List aw)(e:List Int)(B:Z d<=1000000)(y:Z e<=1000000):PR C 32 [eS apN (cF aa) d,eS ap5 cI e] (eS aa (cF aa) (ae6 e d)):=by
 refine r32.pr ?_;simp only[eA,dZ,c3,de,fm,gz];refine bB (z:=Nat) (λc=>[.q 1 (Z (ae6 e (d.take c))) 0 (Z (ae6 e (d.take c))),I c]) (λc=>aY [.arr 0 3 [],.arr 0 3 []] 1 3 (cF aa) (Z (ae6 e (d.take c))) (ae6 e (d.take c))) (λc=>Z d -c) (λc=>c<=Z d) 0 (by simp) ?_ (by simp[ae6]) (by simp[ae6,aY]);intro c z w u;have t:=aoV e (d.take c);rw[gb]at t;simp only[i,G,a8,A,Q,a];refine b (λh=>?_) (λh=>?_)
 ·have h:c<Z d:=by simpa using h
  have k:=u (c+1) h (by omega);rw[aoW h]at k;rw[bo];generalize ae6 e (d.take c)=m at*;generalize n:aY [Obj.arr 0 3 [],Obj.arr 0 3 []] 1 3 (cF aa) (Z m) m=o at*;have r:∀f(j:f<Z e),(e.take (f+1)).contains d[c].aq=((e.take f).contains d[c].aq||e[f]==d[c].aq):=λf j=>by
   rw[hX j,hY];simp only[List.contains_iff_mem,c5,lV,kg,beq_iff_eq];exact or_congr_right eq_comm
  refine et (U:=Z e) (c:=λf=>[.bool ((e.take f).contains d[c].aq),I f]) (λ_=>True) trivial (by simp) (λf j _ p s=>?_) (λ_ p=>?_)
  ·simp only[i,G,a8,A,Q,a,j,decide_true]
   refine a7 ?_;refine eh (N:=o) ((e.take (f+1)).contains d[c].aq) (λE l=>?_) ?_
   ·rw[r f j]at l
    refine dx (λg=>?_) (λg=>kB l (by rw[g]<;>rfl));simp only[aC j (g4 _),aH,j4,aC h (hE _ _),a6,p5,c9,Q,aJ];exact kB l (by rw[g]<;>rfl)
   ·simp only[G]
    rw[ba,Q];exact s trivial
  ·simp only[i,G,a8,A,Q,a,ca,decide_false,dB]
   refine bq ?_;refine b (λg=>?_) (λg=>?_)
   ·rw[if_pos g]at k
    simp only[aC h (hE _ _),my,Q,acF];rw[<-n];refine xq (a2:=cF aa) (by simp) rfl (by omega) ?_;rw[ba,Q];rw[fb,gz]at k⊢;exact k
   ·rw[if_neg (by rw[g];decide),n]at k
    rw[ba,Q];exact k
 ·have:c=Z d:=by simp at h;omega
  subst this;rw[dB];exact fx (oo (by simp)) (by simp)
theorem anY(a:nN apO)(f:aqj∈apO.ah)(q:aoO<Z apO.d)(j:aqj.aq=aoO):apO.d[aoO].fI=false:=by
 have n:apO.aW=apO.aW.map (eQ apO):=congrArg aj.aW a.2.2.2;have o:apO.d=apO.d.map (en apO):=congrArg aj.d a.2.2.2;have h:dT apO []=⟨apO.m,apO.aW,apO.d,[]⟩:=by
  show(⟨apO.m,apO.aW.map (eQ apO),apO.d.map (en apO),[]⟩:aj)=_;grind
 have c:=JR (congrArg aj.ah a.2.2.2) aqj f;obtain⟨e,-,-⟩:=a.2.2.1 aqj f;rw[h]at c e;have p:aqj.aq=kE ⟨apO.m,apO.aW,apO.d,[]⟩ aqj:=(congrArg aG.aq c).symm;have i:aqj.ar≠[]:=by grind[kE]
 obtain⟨b,r,k,g,-⟩:=IM e i;have l:aqj.aq=b:=by grind[kE]
 have:aoO=b:=by omega
 subst this;exact g
theorem ana(b:aoO<Z apO.d)(a:aqy.aq=aoO):oB apO aqy=apO.d[aoO].fI:=by
 unfold oB;rw[a,ej,bC b]
theorem aot(a:iF apO aoO ap3=ab):∃b∈apO.ah,b.aq=aoO:=by
 have key:∀c,sd apO aoO c=ab->∃b∈apO.ah,b.aq=aoO:=λc a=>by
  obtain⟨g,e,d,-⟩:=ano.1 a;obtain⟨b,f,h,-,-,rfl⟩:=an4.1 e;exact⟨b,f,d⟩
 rw[iF,OE anV]at a;cases a with
 |gP _ _ a=>exact key _ a
 |step _ c _ a i=>exact key _ a
theorem amx.xK{done:Nat->Bool}(b:amx aoO aqQ done aq1):∀g∈aq1,∀f∈g,∀h∈g,eY aqQ f h=true:=by
 induction b with
 |nil=>simp
 |cons done g aq1 j k c i l m d=>
  intro e a;rcases cf.1 a with rfl|a
  ·exact c
  ·exact d e a
theorem aop(f:amY apO ap6){g:List Nat}(k:g∈pj (Z apO.d) (iF apO))(o:aoO∈g)(t:aoO<Z apO.d)(p:apO.d[aoO].fI=aa):amZ apO (g.map Int.ofNat) ap6:=by
 intro e r q;obtain⟨a,i,c⟩:=du.1 q;have c:e.aq=(a:Int):=c.symm;have l:=anT apO;have j:=(l.later g k a i).1;have b:=fi.1 f.fI e r;rw[ana j c]at b;by_cases h:a=aoO
 ·subst h
  rw[p]at b;cases b
 ·have m:=l.xK g k a i aoO o
  simp only[eY,kg,beq_iff_eq,bG]at m;obtain⟨u,s,n⟩:=aot (m.resolve_left h).1;have:=anY f.val s j n;rw[b]at this;cases this
theorem am3(c:0<ap3):aS .s .rem (I (aoO:Int)) (I (ap3:Int))=T (I ((aoO%ap3:Nat):Int)):=by
 have a:=(Int.ofNat_tmod aoO ap3).symm;have b:(ap3:Int)≠0:=by omega
 simp only[aS,if_true,jv,if_neg b,a]
theorem anQ(a:Nat):aS .s .rem (I (a:Int)) (I 3)=T (I ((a%3:Nat):Int)):=am3 (by decide)
theorem aon(b:aoO<1000000):aS .s .quo (I (aoO:Int)) (I 3)=T (I ((aoO/3:Nat):Int)):=by
 have a:(aoO:Int).tdiv 3=((aoO/3:Nat):Int):=by
  rw[ak3 (by omega)];omega
 simp only[aS,if_true,jv];rw[if_neg (by decide),a,wrap64 (by omega) (by omega)]
variable{aqm:ap2 -> List AV}{aqf:List ap2}
theorem ao6(d:∀f,Z (aqm f)=aoO)(e:ap3<Z aqf):dV (.sl aoO) (eS apN aqm aqf) (T (I ap3)) (T (I ((ap3+1:Nat):Int))) apF=T (eS apN aqm [aqf[ap3]]):=by
 have b:cQ (Z aqf) (Z aqf) (T (I ((ap3+1:Nat):Int)))=T (ap3+1):=by
  simp only[cQ];rw[if_pos (by omega),ej]
 have c:cQ (ap3+1) 0 (T (I (ap3:Int)))=T ap3:=by
  simp only[cQ];rw[if_pos (by omega)];simp
 have a:((aqf.map aqm).take (ap3+1)).drop ap3=[aqm aqf[ap3]]:=by
  rw[hX (by simpa using e),List.drop_append_of_le_length (by simp;omega),List.drop_of_length_le (by simp;omega)];simp
 simp only[dV,eS,kd,b,c,NT d aqf,if_true,a];rfl
theorem aoq{g:List Int}(a:aoO<Z ap6):ael apO g arT (ap6.take (aoO+1))=alm apO g arT (ael apO g arT (ap6.take aoO)) ap6[aoO]:=by
 unfold ael;rw[hX a,vj]<;>rfl
theorem anm{c:aj}{g:List Int}{b:List UInt8}:∀(d:List aw)(a:List aw×Bool×Nat),Z (d.foldl (alm c g b) a).1<=Z a.1+Z d/\(d.foldl (alm c g b) a).2.2<=a.2.2+Z d
 |[],a=>by simp
 |f::d,a=>by
  have e:=anm (c:=c) (g:=g) (b:=b) d (alm c g b a f);have h:Z (alm c g b a f).1<=Z a.1+1/\(alm c g b a f).2.2<=a.2.2+1:=by
   unfold alm;split
   ·simp
   ·split
    ·simp
    ·split<;>simp
  rw[oJ,iJ];omega
theorem k7N(a2:eP C)(a3:wA C)(bb:x5 C){B O c6:Bool}(c:aj)(E:List aw)(bv:UInt8)(n:List UInt8)(R:dW c)(ex:Sm E)(bg:∀e∈E,eO e.ad):
 PR C 7 [.agg (cP aa B c),eS O (cF aa) E,.int .u8 (bv.toNat:Int),eS c6 cU n] (.bool ab):=by
 refine r7N.pr ?_;have ae:∀w,aR 4 ab (.aK aa (cP aa B c) 0) w=T (.agg (cP aa B c)):=λ_=>rfl;refine aD (dD:=.aK aa (cP aa B c) 0) rfl ?_;refine f (Jg a2 a3 bb) ?_;refine eh (N:=[]) (!(amE c E&& !((Z n:Int)==0)&& !S ((60:Int)<Z n))) (λx k=>?_) ?_
 ·try simp only[ae,Q]
  refine f (k31 c E R ex bg) ?_;rw[bD,Q];refine dx (λj=>?_) (λj=>kB k (by simp_all));have j:amE c E=true:=by simpa using j
  simp only[a8,c9,er,Q];refine dx (λV=>kB k (by rw[j,V];simp)) (λV=>kB k (by rw[V];simp))
 simp only[G];refine c8 (λ_=>.bool _ _) (λj=>?_);simp only[bG,jt,beq_eq_false_iff_ne,ne_eq,decide_eq_false_iff_not]at j;obtain⟨⟨j,bf⟩,f4⟩:=j;have bf:0<Z n:=by omega
 have o:=aoA j;obtain⟨u,cs,e2,dD⟩:=aoI a2 a3 bb (apN:=B) (ap5:=O) o R bg;have be:=SW o.q3 o.val;obtain⟨ge,-,fq⟩:=Cd o.q3
 try simp only[ae,Q]
 refine f dD ?_;cases u with
 |none=>
  refine aD (dD:=eS aa (cF aa) ([]:List aw)) rfl (aD (dD:=I 2) rfl ?_)
  try simp only[ae,Q]
  refine f (xL c be) ?_;refine eh (N:=[]) ab (λx k=>?_) ?_
  ·simp only[cd,Q]
   exact dx (λj=>by simp at j) (λ_=>kB k rfl)
  simp only[G];refine a7 ?_;refine eh (N:=[]) ab (λx k=>?_) (.bool _ _);refine aZ (λ_=>?_) (λj=>by cases j);simp only[c9,Q];exact dx (λ_=>kB k (by decide)) (λ_=>kB k rfl)
 |some s=>
  obtain⟨bp,cn⟩:=e2 s rfl;have H:=JV o.r9 o.val R bg o.uns;have el:=JW o.val o.form;have gc:=bp.small H.v cn;obtain⟨f6,b3⟩:=aoQ o.val H.v o.form cs;refine aD (dD:=eS aa (cF aa) s) rfl (aD (dD:=I 0) rfl ?_)
  try simp only[ae,Q]
  refine f (xL c be) ?_;have d1:∀g∈pj (Z c.d) (iF c),Z g<=Z c.d:=λg bi=>IQ _ g bi;have f5:Z (pj (Z c.d) (iF c))<=Z c.d:=IS _;have cK:=anT c;have ee:=λg(bi:g∈pj (Z c.d) (iF c)) r(M:r∈g) ar d0=>aop o bi (aoO:=r) M ar d0;have cA:=cs;unfold xV at cA;generalize pj (Z c.d) (iF c)=K at*;have fp:=H.v.d;refine eh (N:=[]) ((Z K:Int)==0) (λx k=>?_) ?_
  ·simp only[cd,c9,a8,Q]
   exact dx (λ_=>k) (λj=>by simp at j)
  simp only[G];refine b (λ_=>?_) (λax=>?_)
  ·refine eh (N:=[]) ab (λx k=>?_) (.bool _ _)
   refine aZ (λ_=>?_) (λj=>by cases j);simp only[c9,Q];exact dx (λj=>by simp at j) (λ_=>kB k rfl)
  have ax:0<Z K:=by have:=beq_eq_false_iff_ne.1 ax;omega
  have c1:bv.toNat%Z K<Z K:=Nat.mod_lt _ ax;simp only[AW,Mt,Q,a8,am3 ax,aC c1 (EF _),aH,EG];generalize em:K[bv.toNat%Z K]=a9 at*;have aB:a9∈K:=em▸bs c1;have eq:=d1 _ aB;rw[QN];generalize bm:a9.map Int.ofNat=l at*;have f7:Z l<=24:=by rw[<-bm,kd];exact iU eq fp
  refine bj rfl ?_;simp only[c3,de];refine bB (z:=Nat) (λp=>[.q 0 (Z (ael c l n (s.take p)).1) 0 (Z (ael c l n (s.take p)).1),.bool (ael c l n (s.take p)).2.1,I (ael c l n (s.take p)).2.2,I p]) (λp=>aY [.arr 0 3 []] 0 3 (cF aa) (Z (ael c l n (s.take p)).1) (ael c l n (s.take p)).1) (λp=>Z s -p) (λp=>p<=Z s) 0 (by simp) ?_;intro p f8 f1 bu;simp only[i,G,a8,A,Q,a];refine b (λj=>?_) (λj=>?_)
  ·have j:p<Z s:=by simpa using j
   have y:=bu (p+1) j (by omega);rw[aoq j]at y;have F:=anm (c:=c) (g:=l) (b:=n) (s.take p) ([],aa,0);rw[gb]at F;have F:Z (ael c l n (s.take p)).1<=p/\(ael c l n (s.take p)).2.2<=p:=by
    unfold ael;simp at F;omega
   clear bu;generalize ael c l n (s.take p)=a0 at*;obtain⟨out,aQ,ah⟩:=a0;simp only at y F⊢;obtain⟨r,M,P,-⟩:=(bp.ok _ (bs j)).fJ;have es:=ana M P;have fr:=ao6 (apF:=aY [Obj.arr 0 3 []] 0 3 (cF aa) (Z out) out) (apN:=false) (hE aa) j;have dF:=k32 (apN:=false) (ap5:=false) [s[p]] l (by simp) (by omega);generalize d8:s[p]=e at*;rw[bo];have dG:(0:Nat)<Z ([Obj.arr 0 3 []]:List Obj):=by simp
   generalize bz:aY [Obj.arr 0 3 []] 0 3 (cF aa) (Z out) out=J at*;have bw:∀(z:aw)(aU:AV->List Obj->Prop),aU (.q 0 (Z (out++[z])) 0 (Z (out++[z]))) (aY [Obj.arr 0 3 []] 0 3 (cF aa) (Z (out++[z])) (out++[z]))->cc (cx 3 40 (.q 0 (Z out) 0 (Z out)) (.sl aa [cF aa z]) J) aU:=λz aU bH=>by
    rw[<-bz];refine xq (a2:=cF aa) dG rfl (by omega) ?_;rw[fb,gz]at bH⊢;exact bH
   simp only[aC j (hE _ _),d8,my,GG,Q,NP,NQ,NR];refine pg (N:=J) (!l.contains e.aq||oB c e) [I e.aq,eS aa cV e.ad,I e.af] (λx k=>?_) ?_
   ·rw[ba,Q,fr,Q]
    refine f dF ?_;simp only[a8,c9,Q];have co:ae6 l [e]=if l.contains e.aq=ab then[e]else[]:=by
     unfold ae6;by_cases h:l.contains e.aq=ab
     ·rw[if_pos h,List.filter_cons_of_pos (p:=λe:aw=>l.contains e.aq) h]<;>rfl
     ·rw[if_neg h,List.filter_cons_of_neg (p:=λe:aw=>l.contains e.aq) h]<;>rfl
    refine dx (λh=>?_) (λh=>xJ k ?_)
    ·have U:l.contains e.aq=true:=by
      refine yl λbr=>?_;rw[co,if_neg br]at h;simp at h
     simp only[P,a6,aH,iy,aJ,Q,aC M (hD _ _),AP];rw[P]at k U;rw[U,es]at k;exact k
    ·have U:¬l.contains e.aq=true:=λbr=>by
      rw[co,if_pos br]at h;simp at h
     rw[Kr]at U;rw[U]<;>rfl
   simp only[G,i];have dl:(AV.agg [I e.aq,eS aa cV e.ad,I e.af])=.agg (cF aa e):=rfl;refine b (λk=>?_) (λk=>?_)
   ·rw[alm,if_pos k]at y
    rw[dl,acF,Q];refine bw e _ ?_;rw[ba,Q];exact y
   ·rw[alm,if_neg (by rw[k];decide)]at y
    have c0:ah%Z n<Z n:=Nat.mod_lt _ bf;rw[bC c0,oK]at y;simp only[a8,Q,am3 bf,aC c0 (Dq _),aH,Dr,AW,Mt];rw[ba,Q];have gh:=n[ah%Z n].toNat_lt;generalize n[ah%Z n].toNat=t at*;simp only[anQ,Q,c9];refine b (λL=>?_) (λL=>?_)
    ·have L:t%3=0:=by simp at L;omega
     rw[if_pos L]at y;rw[ba,Q];rw[<-bz];exact y
    ·have L:¬t%3=0:=by simp at L;omega
     rw[if_neg L]at y;simp only[P,a6,aH,iy,aJ,Q,aC M (hD _ _),yO];refine pg (N:=J) ((amz c e t).isSome||aQ) [I e.aq,eS aa cV e.ad,I ((amz c e t).getD e.af)] (λk7N aL=>?_) ?_
     ·have cq:e8 c e.aq=if c.d[r].of<0 then D else c.m[c.d[r].of.toNat]?:=by
       rw[e8,P,ej,bC M]
      have cg:amz c e t=D->k7N [.bool aQ,I e.aq,eS aa cV e.ad,I e.af] J:=λh=>by
       rw[h]at aL;exact aL
      have fs:∀x,amz c e t=T x->k7N [tt,I e.aq,eS aa cV e.ad,I x] J:=λx h=>by
       rw[h]at aL;exact aL
      rw[<-P];refine pg (N:=J) (S (0<=c.d[r].of)&&((t%3:Nat):Int)==1) [I e.aq,eS aa cV e.ad,I e.af] (λx k=>?_) ?_
      ·simp only[gF,Q]
       refine aZ (λh=>?_) (λh=>xJ k (by rw[h]<;>rfl))
       try simp only[anQ,Q,c9]
       exact xJ k (by rw[h]<;>rfl)
      simp only[G,i];refine b (λh=>?_) (λh=>?_)
      ·simp only[bG,decide_eq_true_eq,beq_iff_eq]at h
       obtain⟨e0,ak⟩:=h;have ak:t%3=1:=by omega
       obtain⟨u,ci⟩:∃u:Nat,c.d[r].of=u:=⟨c.d[r].of.toNat,by omega⟩;have Y:u<Z c.m:=by have:=SM o.val _ (bs M);omega
       have fd:e8 c e.aq=T c.m[u]:=by rw[cq,if_neg (by omega),ci,ej,bC Y]
       have ey:=SN o.val _ (bs Y);have d4:0<Z c.m[u].au:=(vY (xB ey)).1.1;have b9:amz c e t=if((t/3%Z c.m[u].au:Nat):Int)≠e.af/\((t/3%Z c.m[u].au:Nat):Int)≠fy c.m[u] []/\ox c.m[u] ((t/3%Z c.m[u].au:Nat):Int) e.af=ab then T ((t/3%Z c.m[u].au:Nat):Int)else none:=by
        unfold amz;rw[fd];simp only[ak,true_and]
       simp only[aon (aoO:=t) (by omega),Q,a6,aH,oe,aJ,ci,aC Y (jh _ _),np,a8,am3 d4,hF];generalize f9:((t/3%Z c.m[u].au:Nat):Int)=ac at*;refine pg (N:=J) (ac !=e.af&&(ac !=fy c.m[u] []&&ox c.m[u] ac e.af)) [I e.aq,eS aa cV e.ad,I e.af] (λx k=>?_) ?_
       ·simp only[cd,Q]
        refine aZ (λh=>?_) (λh=>xJ k (by rw[h]<;>rfl));refine f (zc _ (R.aV _ (bs Y))) ?_;simp only[cd,Q];refine aZ (λa4=>?_) (λa4=>xJ k (by rw[h,a4]<;>rfl));refine f (OO _ _ _ (R.aV _ (bs Y))) ?_;exact xJ k (by rw[h,a4]<;>rfl)
       simp only[G,i];refine b (λh=>?_) (λh=>?_)
       ·simp only[bG,bne_iff_ne,ne_eq]at h
        refine aD (dD:=I ac) (by simp[lX]) ?_;exact fs ac (by rw[b9,if_pos ⟨h.1,h.2.1,h.2.2⟩])
       ·refine cg ?_
        rw[b9,if_neg];rintro⟨fL,fM,fN⟩;simp[fL,fM,fN]at h
      ·refine cg ?_
       unfold amz;rw[cq];by_cases ce:c.d[r].of<0
       ·rw[if_pos ce]
       ·rw[if_neg ce]
        split
        ·have:¬t%3=1:=λak=>by
          have ds:0<=c.d[r].of:=by omega
          simp[ds,ak]at h
         rw[if_neg λfI=>this fI.1]
        ·rfl
     simp only[G,i];have dm:∀z:Int,(AV.agg [I e.aq,eS aa cV e.ad,I z])=.agg (cF aa ⟨e.aq,e.ad,z⟩):=λ_=>rfl;rw[dm,acF,Q];refine bw _ _ ?_;rw[ba,Q];cases b4:amz c e t with
     |none=>
      rw[b4]at y;exact y
     |some x=>
      rw[b4]at y;exact y
  ·have:p=Z s:=by simp at j;omega
   subst this;clear bu;rw[dB];have W:=aor (apO:=c) (g:=l) (arT:=n) bp.fz;have F:=anm (c:=c) (g:=l) (b:=n) s ([],aa,0);have F:Z (ael c l n s).1<=Z s:=by
    unfold ael;simp at F;omega
   generalize ael c l n s=a0 at*;obtain⟨out,aQ,ah⟩:=a0;simp only at W F⊢;obtain⟨N,eR⟩:=anU b3 W;have eT:(aY [Obj.arr 0 3 []] 0 3 (cF aa) (Z out) out)[0]?=T (.arr (Z out) 3 (out.map (cF aa))):=oo (by simp);generalize aY [Obj.arr 0 3 []] 0 3 (cF aa) (Z out) out=w at*;have g3:aI w .cm (AV.q 0 (Z out) 0 (Z out)) (eS ab (cF aa) out):=l7 eT (by simp);refine eh (N:=w) ab (λx k=>?_) (.bool _ _)
   refine aZ (λ_=>?_) (λj=>by cases j);rw[bD,Q];refine dx (λX=>?_) (λ_=>kB k rfl);have X:aQ=true:=by simpa using X
   have d3:∀f0∈pa c E,qX f0=true:=by
    obtain⟨-,V⟩:=an0 o.val o.form;exact anW o.val V
   have d9:jk c out=true:=anX o.val d3 N
   try simp only[ae,Q]
   refine ea _ (ai1 a2 a3 bb (V:=B) (F:=true) (bp:=false) (b2:=false) out l H N.v (by omega) (by rw[d9,QM.2 o.val]<;>rfl) be fq o.uns o.str (by unfold Sm;omega)) (.cons _ _ _ _ _ (Im.snap (by simp)) (.cons _ _ _ _ _ (Im.snap (by simp)) (.cons _ _ _ _ _ g3 (.nil _)))) (an5 _) ?_;have cJ:=EC H.v N.v l
   refine ea _ (k36 (ap5:=true) c (nK c l out) out R (SM o.val) (by unfold Sm;omega) (by unfold Sm;omega) (dq.re H N.v.ok) N.v.fz λe b2=>by grind[(cJ.1.ok e b2).fJ]) (.cons _ _ _ _ _ (Im.snap (by simp)) (.cons _ _ _ _ _ (Im.snap (by simp)) (.cons _ _ _ _ _ g3 (.nil _)))) (.bool _) ?_;rw[bD,Q];have d2:amI c (nK c l out) out=false:=by
    rw[<-Kr];intro dH;have ez:=aoM (SM o.val) cJ.1 N.v.fz dH;have fn:=W.off;obtain⟨e,b2,⟨bS,d7⟩,-⟩:=W.less X;have ed:amZ c l E:=by
     rw[<-bm]at bS⊢;obtain⟨r,bL,h⟩:=du.1 bS;have h:e.aq=(r:Int):=h.symm;have ar:=(cK.later _ aB r bL).1;exact ee a9 aB r bL ar (by rw[<-ana ar h];exact d7)
    have:=aos H.v b3 W λe d5 d6=>by
     subst bm;exact ao5 H.v (aoR o.val) o.str cn N.v eR fn ez cK cA el aB ed e d5 d6
    rw[this]at X;cases X
   rw[d2];exact k
open Go.Proofs.YtmkbfepnleajhaaGreatDoor Go.Deep
variable{aqq:Bool}
theorem fn7(c:aj)(a:List aw)(e:UInt8)(d:List UInt8)(j:dW c)(i:Sm a)(h:∀f∈a,eO f.ad):∃b,jz a1 G0 7 [.agg (cP aa apN c),eS ap5 (cF aa) a,.int .u8 (e.toNat:Int),eS aqq cU d] [] (.bool ab) b:=by
 obtain⟨l,b,g,k⟩:=k7N aju ajx ajw c a e d j i h;cases k
 exact⟨b,g⟩
variable{arU:Program}{aqs:World}{aqB:Nat -> Bool}
theorem aoY{f:TypeId×Value->ap2}(j:arU.underlying aoO=T (.int .u8)):Rd ap2 f arU aqs aqB aoO 1 cU (λ_=>True):=by
 refine⟨(by simp[cU]),λc l m p a _=>?_⟩;cases c with
 |zero=>simp[DataW.trod]at a
 |succ c=>
  unfold DataW.trod at a;simp only[j]at a;split at a<;>rename_i d<;>first|(cases a;done)|(cases d;done)|skip
  cases d
  rename_i o b;split at a
  ·rename_i i
   obtain⟨rfl,k⟩:=i;have n:0<=b/\b<256:=by
    have g:IntKind.u8.min=0:=by decide
    have h:IntKind.u8.max=255:=by decide
    simp only[Lit.wf,bG,decide_eq_true_eq,g,h]at k;omega
   have e:((UInt8.ofNat b.toNat).toNat:Int)=b:=by
    rw[UInt8.toNat_ofNat_of_lt' (by show b.toNat<256;omega)];omega
   refine⟨UInt8.ofNat b.toNat,?_,trivial⟩;unfold cU;rw[e];exact .cons _ _ _ _ (.int _ _) .nil
  ·cases a
section
variable{H:Type}{enc:TypeId×Value->H}{w:World}{sp:Nat->Bool}
theorem rt5:jA H enc w sp 5 1 cU (λ_=>True):=aoY (by kernel_rfl)
theorem aoZ(d:∀c,sp c=ab)(b:Bool):jA H enc w sp 70 1 (λa:List UInt8=>[eS b cU a]) (λa=>Z a<=1048576/\∀e∈a,True):=r5 (by kernel_rfl) (by kernel_rfl) (by decide) d rt5 b
end
open Go.ChangeShapes Go.WideShapes Go.ChangeAt Go.RowKit
theorem ajV:∃a,a1.underlying 27=T (.struct a):=by
 simp
theorem Tk:a1.underlying 4=T .bool:=by kernel_rfl
variable{aqv:Value}
theorem ajW{W:World}{base:Nat}(b:Value.okWide a1 W .any base 27 aqv):∃a,aqv=.agg a:=by
 grind[ajV,Value.okWide]
theorem ajX{W:World}{base:Nat}(a:Value.okWide a1 W .any base 28 aqv):bU aqv.cells=[aqv]:=by
 unfold Value.okWide at a;rw[sE]at a;simp only[Cell.okWide,sE,Cell.ok]at a;cases aqv<;>first|rfl|grind
theorem aoT{W:World}{base:Nat}(a:Value.okWide a1 W .any base 70 aqv):bU aqv.cells=[aqv]:=by
 have b:a1.underlying 70=T (.slice 5):=by kernel_rfl
 unfold Value.okWide at a;rw[b]at a;simp only[Cell.okWide,b,Cell.ok]at a;cases aqv<;>first|rfl|grind
theorem aoU{W:World}{base:Nat}(a:Value.okWide a1 W .any base 5 aqv):bU aqv.cells=[aqv]:=by
 have b:a1.underlying 5=T (.int .u8):=by kernel_rfl
 unfold Value.okWide at a;rw[b]at a;simp only[Cell.okWide,b,Cell.ok]at a;cases aqv<;>first|rfl|grind
theorem ajY(b:Type)(c:TypeId×Value->b)(W:World)(base:Nat)(args:Array Value)(j gs:List (DataW b))(J:List MemPlace)
 (e:∀(H:Nat) i a,Tryz.f7.params[H]?=T i->args[H]?=T a->Value.okWide a1 W .any base i a)
 (n:DataW.Whole c a1 (bU Tryz.f7.params) Rows.snapshotLeastSpec.vars aa W (bU args) j gs J)(ax:Rows.uptoSmall b (j++gs)=ab)(V:laidMetH a1 Rows.snapshotLeastUptoRow.laid W):
 Calls a1 7 args W λk t=>∃a,k=.returned a/\Rows.snapshotLeastSpec.post c a1 Tryz.f7 aa ab aa aa W args a t:=by
 have A:=n;have aB:=n.lt;obtain⟨bf,cJ,m,ae,rfl,ci,co⟩:=n;have l:DataW.TrodAll c a1 W 0 (λ_=>ab) ab (bU Tryz.f7.params) (bU args) j bf:=m;rw[Tryz.params7]at l e;obtain⟨v0,c6,K,b3,bg,cK,b4,rfl,rfl,P,w⟩:=trodAll_cons l;obtain⟨v1,dl,L,b9,bi,c0,rfl,rfl,rfl,Q,x⟩:=trodAll_cons w;obtain⟨v2,dm,M,ce,bm,c1,rfl,rfl,rfl,S,y⟩:=trodAll_cons x;obtain⟨v3,ds,N,cg,bp,c2,rfl,rfl,rfl,U,z⟩:=trodAll_cons y
 obtain⟨rfl,rfl,rfl⟩:=trodAll_nil z;obtain rfl:args=#[v0,v1,v2,v3]:=by cases args;simp_all
 clear w x y z;rw[rP]at m l;obtain⟨rfl,rfl⟩:=trodVars_none ae;have af:Rows.uptoBulkAll [K,L,M,N]<=1048576:=by
  have:=of_decide_eq_true ax;simpa using this
 simp only[Rows.uptoBulkAll]at af;obtain⟨v,rfl⟩:=ajW (e 0 27 v0 rfl rfl);have ah:=ajX (e 1 28 v1 rfl rfl);have ak:=aoU (e 2 5 v2 rfl rfl);have aq:=aoT (e 3 70 v3 rfl rfl);obtain⟨a4,br⟩:=P;obtain⟨a9,bu⟩:=Q;obtain⟨bb,bv⟩:=S;obtain⟨be,bw⟩:=U;obtain⟨r,F,aU⟩:=(ab1 (H:=b) (enc:=c) (w:=W) (sp:=λ_=>ab) (λ_=>rfl) aa aa).2 a4 _ _ _ br (by omega)
 obtain⟨s,f,aL,a0⟩:=(ab3 (H:=b) (enc:=c) (w:=W) (sp:=λ_=>ab) (λ_=>rfl) aa aa).2 a9 _ _ _ bu (by omega);obtain⟨u,B,-⟩:=(rt5 (H:=b) (enc:=c) (w:=W) (sp:=λ_=>ab)).2 bb _ _ _ bv (by omega);obtain⟨I,G,cn,-⟩:=(aoZ (H:=b) (enc:=c) (w:=W) (sp:=λ_=>ab) (λ_=>rfl) aa).2 be _ _ _ bw (by omega);rw[ah]at f;rw[ak]at B;rw[aq]at G;have Y:R (E0 W) (.agg (cP aa aa r)) (.agg v):=by
  have au:∀a∈cP aa aa r,a.bP=true:=by simp[cP,AV.bP,eS]
  refine .agg _ _ F ?_;have one:∀{vs:List AV}{g:List Value},RL (E0 W) vs g->(∀a∈vs,a.bP=ab)->∀p∈g,p.oneCell'=true:=by
   intro vs g d;induction vs generalizing g with
   |nil=>intro _ p a2;cases d;simp at a2
   |cons a vs cq=>
    cases d with
    |cons _ p _ g a3 E=>
     intro o s f;rcases cf.1 f with rfl|f
     ·exact a3.Ab (o _ (by simp))
     grind
  exact one F au
 have Z:R (E0 W) (eS aa (cF aa) s) v1:=by
  cases f with
  |cons _ _ _ _ d _=>exact d
 have ac:R (E0 W) (.int .u8 (u.toNat:Int)) v2:=by
  cases B with
  |cons _ _ _ _ d _=>exact d
 have ad:R (E0 W) (eS aa cU I) v3:=by
  cases G with
  |cons _ _ _ _ d _=>exact d
 obtain⟨bH,-,ar⟩:=fn7 (apN:=false) (ap5:=false) (aqq:=false) r s u I aU (Sm.of aL) a0;have o:=ar (E0 W) [.agg v,v1,v2,v3] (abE W) (λ_=>rfl) rfl (.cons _ _ _ _ Y (.cons _ _ _ _ Z (.cons _ _ _ _ ac (.cons _ _ _ _ ad .nil)))) (ajU (show laidMetH a1 g2.laid W from V));refine o.mono λk t C=>?_;cases k with
 |returned a=>
  obtain⟨bz,rfl,O,-,-,X⟩:=C;obtain rfl:a=.bool true:=by cases X;rfl
  simp only[rP]at A aB;refine⟨_,rfl,ajC (i:=bg++(bi++(bm++bp))) (j:=[]) A (λ_ _ _=>trodAll_cons_mk (shut_bool Tk _) trodAll_mk0) (λh aQ=>?_) (λ_ _=>rfl) (by simp) (ajz O _) (by grind[ajB]) (ok_one (by kernel_rfl) rfl (okWide_bool_mk Tk _))⟩;exact Th ajE ajF (λi E=>by rw[Tryz.params7]at E;revert i;decide) m (by grind[ajA]) aQ
 |_=>exact C.elim
end AM
end Go
