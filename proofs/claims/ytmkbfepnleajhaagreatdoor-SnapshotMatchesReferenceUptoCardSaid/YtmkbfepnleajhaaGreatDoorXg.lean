/- SnapshotMatchesReference, 7 of 11 -/
import Derived.Test.YtmkbfepnleajhaaGreatDoorXf
import Derived.Test.YtmkbfepnleajhaaGreatDoorCards
import Derived.Test.YtmkbfepnleajhaaGreatDoorTie
import Derived.WalkKit
import Derived.Deep.DeepWitnessRowRef
set_option maxRecDepth 100000
open List renaming length->Z
open Option renaming some->T,none->D
open Bool renaming true->ab,false->aa
open Decidable renaming decide->S
open Array renaming toList->bU
open Go.Proofs.Tryz renaming prog->a1
open Go.Proofs.YtmkbfepnleajhaaGreatDoor.Rows renaming snapshotModelMatchesReferenceUptoRow->g2,snapshotModelMatchesReferenceSpec->nT
open List.Perm renaming eq_of_pairwise->anA
open Option.some renaming inj->wM
namespace Go
namespace AM
open Go.Law
def qI:List lT:=[([fh [97],fh [97],fh [98]],[]),([fh [97],fh [98],fh [97]],[]),([fh [98],fh [97],fh [98]],[]),([fh [98],fh [98],fh [97]],[])]
variable{U:Nat}{N:List Obj}{bS:List (List AV)}{Y:AV}
theorem ajs{bytes:Nat}{a:List (List AV)}(h:hQ N U Y=T a)(c:0<Z a)(d:bS.all (λb=>Z b==U)=ab)(e:0<Z bS)(f:(Z bS+Z a)*bytes<=2^47):
 cx U bytes (.qN bS) Y N=T (.q (Z N) 0 0 (Z bS+Z a),N++[.arr 0 U (bS++a)]):=by
 have g:(AV.qN bS).isNil=false:=rfl;grind[cx]
variable{V F:Bool}
variable{bH:k}
theorem Td(c:U<Z bH)(d:bH[U].toNat<128):oP bH U=(bH[U].toNat,1):=by
 have b:U<(⟨bH.toArray⟩:ByteArray).size:=by simpa[ByteArray.size]using c
 have a:(⟨bH.toArray⟩:ByteArray)[U]'b=bH[U]:=rfl;have:=decode_ascii ⟨bH.toArray⟩ U b (by rw[a];exact d);rw[a]at this;exact this
theorem Te(b:U<Z bH)(c:¬bH[U].toNat<128):128<=(oP bH U).1:=by
 have a:U<(⟨bH.toArray⟩:ByteArray).size:=by simpa[ByteArray.size]using b
 have d:(⟨bH.toArray⟩:ByteArray)[U]'a=bH[U]:=rfl;exact(decode_high ⟨bH.toArray⟩ U a (by grind)).1
variable{aU:Int}
theorem J6(a:128<=aU):ns aU=false:=by
 grind[decide,ns]
theorem ajt(c:k):PR C 327 [.str c,.fn 282 [] [],tt] (I (bN (λh=> !eE h) c)):=by
 refine Yx.pr ?_;refine bj (show tM (.str c) []=T (.pQ 0,[.hM c 0])from rfl) ?_;refine bB (z:=Nat) (λ_=>[I 0]) (λa=>[.hM c a]) (λa=>Z c -a) (λa=>a<=Z c/\∀e(i:e<Z c),e<a->eE c[e]=ab) 0 ⟨by simp,λe _ d=>by omega⟩ ?_;rintro a ⟨w,n⟩ s r;by_cases d:a<Z c
 ·refine bj (show rU (.pQ 0) [.hM c a]=T (.aE [.bool ab,.int .i64 a,.int .i32 (oP c a).1],[.hM c (a+(oP c a).2)])by simp[rU,d]) ?_
  refine aD (dD:=.bool ab) rfl ?_;refine a7 ?_;refine aD (dD:=I (a:Int)) rfl ?_;refine aD (dD:=.int .i32 (oP c a).1) rfl ?_;refine bj (dD:=282) (b:=[.int .i32 (oP c a).1]) rfl ?_;refine f (aaS _) ?_;rw[Mr,Q];have u:eE c[a]=ns ((oP c a).1:Int):=by
   by_cases g:c[a].toNat<128
   ·rw[Td d g]<;>rfl
   ·have p:=Te d g
    rw[J6 (by omega),eE,J6 (by omega)]
  refine b (λl=>?_) (λl=>?_)
  ·have v:ns ((oP c a).1:Int)=false:=by simpa using l
   have:bN (λh=> !eE h) c=a:=sU d (λe i m=>by rw[n e i m]<;>rfl) (by grind);simp_all
  ·have o:ns ((oP c a).1:Int)=true:=by simpa using l
   have g:c[a].toNat<128:=yl λg=>by
    have p:=Te d g;rw[J6 (by omega)]at o;cases o
   have q:(oP c a).2=1:=by rw[Td d g]
   rw[q];refine r (a+1) ⟨d,λe i m=>?_⟩ (by omega);grind
 ·refine bj (show rU (.pQ 0) [.hM c a]=T (.aE [.bool aa],[.hM c a])by simp[rU,d]) ?_
  refine aD (dD:=.bool aa) rfl ?_;refine bq ?_;have:bN (λh=> !eE h) c= -1:=vJ λe i=>by rw[n e i (by omega)]<;>rfl
  simp_all
open Go.Proofs
variable{ey:List Obj}
theorem vv{args:List AV}(a:jz a1 G0 U args N Y ey):C U args N Y ey:=a
theorem Tf:B8 C:=⟨λd b a c=>vv (Sw.q rfl d b a c)⟩
theorem aju:eP C:=⟨λa _=>ajt a,by grind[vv,aiB]⟩
variable{M:aj}
theorem ajv(f:ky M)(e:Z M.ah<=12):wy (kb dM (gw M) (Z M.d) (List.range (Z M.d)) TS.init).out/\Z (kb dM (gw M) (Z M.d) (List.range (Z M.d)) TS.init).out<=Z M.d:=by
 have c:JO M (pt 4) (pt 5) (pt 2) (pt 0) [one (.q 1 0 0 (Z M.d)),.arr 0 1 (List.replicate (Z M.d) [I 0]),one (.q 3 0 0 (Z M.d)),.arr 0 1 (List.replicate (Z M.d) [I 0]),one (eS aa cG ((List.range (Z M.d)).map (gw M))),one (.q 6 0 0 (Z M.d)),.arr 0 1 (List.replicate (Z M.d) [I 0])]:=by
  refine⟨4,5,2,0,6,3,1,rfl,rfl,rfl,rfl,by simp,λl b=>?_⟩;simp only[cf,iW,or_false]at b;rcases b with rfl|rfl|rfl|rfl|rfl|rfl|rfl<;>rfl
 have a:=Su Tf f e (Y:=.ai) (E:=.ai) (aL:=.ai) c;rw[NG]at a;obtain⟨j,h,-,-,k⟩:=G8 (An:=Ac) (X:=C) wz _ _ _ a;grind[xl]
theorem ajw:x5 C:=λe f g b a=>by
 obtain⟨c,d⟩:=ajv b a;refine⟨_,_,?_,aij rfl c,d⟩;refine⟨_,_,vv (ais Tf b a),?_⟩;simp[Im.snap]
theorem ajx:wA C:=⟨λ{v b s r j id} a c l d f t=>by
 have i:=d.get (U:=id) (iX:=.arr 0 3 [cF aa c]) (by simp);rcases l with⟨rfl,rfl,rfl⟩|⟨e,g,rfl,rfl⟩
 ·have:a=0:=by simpa using f
  subst this;refine⟨_,_,vv (aiG i),[(Z j,.arr 0 3 [cF aa c])],bA.of (o:=[c]),?_⟩;exact w.alloc d.tail _
 ·have o:=d.get (U:=e) (iX:=.arr g 3 (b.map (cF aa))) (by simp)
  have n:e≠id:=by
   have:=d.1;simp only[eJ,kf,cf,fm,c3,not_or]at this;exact(by omega)
  have k:(b.map (cF aa)).take a++cF aa c::(b.map (cF aa)).drop a=(b.take a++c::b.drop a).map (cF aa):=by
   simp[Ks,Ku]
  have h:=aiF (y:=a) o (by simp) i n f (by omega);rw[k]at h;refine⟨_,_,vv h,[(e,.arr (g+1) 3 ((b.take a++c::b.drop a).map (cF aa)))],?_,?_⟩
  ·have m:Z b+1=Z (b.take a++c::b.drop a):=by simp;omega
   rw[m];exact bA.of
  ·exact w.set d.tail _⟩
open Go.Proofs.YtmkbfepnleajhaaGreatDoor Go.Deep Go.ChangeShapes Go.WideShapes Go.ChangeAt Go.RowKit
variable{e:World}{fq:Array Value}{bg:List AV}{L:l}{pM:World}{b9:Nat -> Bool}{bp:Bool}{bL:Value}{m5:List MemPlace}
section
variable{H:Type}{enc:TypeId×Value->H}{P:Program}
theorem Tg{m:String}{g:Nat}(s:P.globalNamed m=T g)(k:e.var? P m=T fq)(i:RL (E0 e) bg (bU fq))(r:∀b∈bg,b.bP=ab):R (E0 e).base (.aK aa bg 0) (.pointer (T ⟨g,0,D⟩)):=by
 obtain⟨d,c,n⟩:∃d c,e.heap[g]?=T (.cells fq d c):=by
  grind[World.var?]
 have t:=i.length;have j:((bU fq).drop 0).take (Z bg)=bU fq:=by rw[jR,fW (by omega)]
 have one:∀{vs:List AV}{a:List Value},RL (E0 e) vs a->(∀b∈vs,b.bP=ab)->∀f∈a,f.oneCell'=true:=by
  intro vs a h;induction vs generalizing a with
  |nil=>intro _ f p;cases h;simp at p
  |cons b vs u=>
   cases h with
   |cons _ f _ a k j=>
    intro o v l;rcases cf.1 l with rfl|l
    ·exact k.Ab (o _ (by simp))
    grind
 exact R.aK (E:=(E0 e).base) aa bg 0 g 0 fq d c (by show g<e.heap.size;grind) n (by grind) (by rw[j];exact i) (by grind)
theorem ajz(a:Fr (E0 e) L)(f:MemPlace->Prop):e.keptBut L.w f:=by
 refine⟨a.os,a.output,λc d=>?_⟩;have g:L.w.heap[c]?=e.heap[c]?:=a.heap c d (λ_ _ b=>by cases b) (λ_ b=>by cases b);grind
theorem ajA(g:Fr (E0 e) L){c:MemPlace}(f:c.block<e.heap.size):e.sameAt L.w c:=by
 have d:∀a,a<e.heap.size->L.w.heap[a]?=e.heap[a]?:=λa h=>g.heap a h (λ_ _ b=>by cases b) (λ_ b=>by cases b);cases c with
 |cell a off=>simp only[World.sameAt,World.cell?,d a f]
 |map a=>exact d a f
theorem ajB(b:Fr (E0 e) L){off:Nat}(c:U<e.heap.size):L.w.frozen? ⟨U,off,D⟩=e.frozen? ⟨U,off,D⟩:=by
 have d:L.w.heap[U]?=e.heap[U]?:=b.heap U c (λ_ _ a=>by cases a) (λ_ a=>by cases a);grind[World.frozen?]
theorem Th{f:TypeId->Prop}(i:Kids P f)(l:∀{d b:TypeId},f d->P.underlying d=T (.slice b)->0<P.cellsOf b):∀{g:List TypeId}{vs:List Value}{h:List (DataW H)}{c:List MemPlace},(∀d∈g,f d)->DataW.TrodAll enc P e 0 (λ_=>ab) ab g vs h c->(∀a∈c,e.sameAt pM a)->(∀a∈c,b9 a.block=ab)->DataW.TrodAll enc P pM 0 b9 ab g vs h c
 |[],[],[],_,_,j,_,_=>j
 |_::_,_::_,_::_,_,p,⟨a,n,⟨m,o⟩,k,b⟩,q,r=>
  ⟨a,n,⟨m,by grind[DataW.trod_stays]⟩,
   Th i l (by grind) k (by grind) (by grind),b⟩
theorem ajC{c:Func}{f:ChangeSpec}{fresh:Bool}{W:World}{args:Array Value}{g gs:List (DataW H)}{i j:List MemPlace}
 (k:DataW.Whole enc P (bU c.params) f.vars V W (bU args) g gs m5)
 (o:∀(a:Nat)(d:Nat->Bool)(t:Bool),DataW.TrodAll enc P e a d t (bU c.resultTypes) (bL.resultList c.resultTypes.size) (f.fn H (g++gs)).results [])
 (l:∀d:Nat->Bool,(∀b∈m5,d b.block=ab)->DataW.TrodAll enc P e 0 d ab (bU c.params) (bU args) (f.fn H (g++gs)).args i)
 (p:∀d:Nat->Bool,(∀b∈m5,d b.block=ab)->DataW.TrodVars enc P e d f.vars (f.fn H (g++gs)).vars j)
 (y:m5=i++j)(v:W.keptBut e (· ∈m5))(u:∀a off,a<W.heap.size->e.frozen? ⟨a,off,D⟩=W.frozen? ⟨a,off,D⟩)
 (x:∀(q:Nat)(s:TypeId)(r:Value),c.resultTypes[q]?=T s->(bL.resultList c.resultTypes.size)[q]?=T r->Value.okWide P e .any 0 s r):
 f.post enc P c V fresh F bp W args bL e:=by
 have m:∀b∈m5,(λa=>S (a<W.heap.size)) b.block=true:=λb h=>by simpa using k.lt b h
 refine⟨g,gs,m5,[],i,j,k,o _ _ _,l _ m,p _ m,World.keptBut_mono (λb h=>⟨h,?_⟩) v,λ_=>?_⟩
 ·grind
 ·have w:=k.lt
  obtain⟨_,_,_,_,_,z,A⟩:=k;refine⟨x,_,_,([]++i)++j,⟨[]++i,j,trodAll_append (l _ (λ_ _=>rfl)) (o _ _ _),p _ (λ_ _=>rfl),rfl,?_,?_⟩,?_⟩
  ·intro a off h
   have n:MemPlace.cell a off∈m5:=by rw[y];simpa using h
   rw[u a off (w _ n)];exact z a off n
  ·grind
  grind
end
def tl:List Nat:=[27,28,22,23,24,25,75,142,67,35,72,9,53,73,3,29,4,30,32,33,62,112,64,46,176,5,70]
def wD(b:Program)(e:Nat):Bool:=match b.underlying e with
 |some (.pointer a)=>tl.contains a
 |some (.slice a)=>tl.contains a&&S (0<b.cellsOf a)
 |some (.array g a)=>tl.contains a&&S (b.cellsOf e=g*b.cellsOf a)
 |some (.struct d)=>((bU d).all λc=>tl.contains c.type)&&S (b.cellsOf e=((bU d).map λc=>b.cellsOf c.type).sum)&&(List.range (Z (bU d))).all λf=>((bU d)[f]?).all λc=>S (c.offset=(((bU d).take f).map λc=>b.cellsOf c.type).sum)
 |some (.map _ a)=>tl.contains a
 |_=>ab
theorem ajD:(tl.all λa=>wD a1 a)=true:=by kernel_rfl
theorem zO(a:U∈tl):wD a1 U=true:=by grind[ajD]
theorem ajE:Kids a1 (· ∈tl)where
 pointer:=λa b=>by have:=zO a;grind[wD]
 slice:=λa b=>by have:=zO a;grind[wD]
 array:=λa b=>by have:=zO a;grind[wD]
 struct:=λ{t c} a b=>by
  have:=zO a;grind[wD]
 map:=λa b=>by have:=zO a;grind[wD]
variable{t cK:TypeId}
theorem ajF(a:t∈tl)(b:a1.underlying t=T (.slice cK)):0<a1.cellsOf cK:=by
 have:=zO a;grind[wD]
theorem ajG:a1.globalNamed "porism/lattice.keys"=T 2:=by kernel_rfl
theorem ajH:a1.globalNamed "porism/porismref03.Keys"=T 0:=by kernel_rfl
theorem ajI:a1.globalNamed "porism/value.words"=T 1:=by kernel_rfl
theorem ajJ:(a1.globals[2]?).map (·.type)=T 53:=by kernel_rfl
theorem ajK:(a1.globals[0]?).map (·.type)=T 53:=by kernel_rfl
theorem ajL:(a1.globals[1]?).map (·.type)=T 311:=by kernel_rfl
theorem ajM:a1.underlying 53=T (.slice 9):=by kernel_rfl
theorem Ti:a1.underlying 9=T .string:=by kernel_rfl
theorem ajN:a1.underlying 311=T (.array 10 9):=by kernel_rfl
theorem ajO:a1.cellsOf 311=10:=by kernel_rfl
theorem ajP{W:World}(a:laidMetH a1 g2.laid W):laidMet a1 [("porism/lattice.keys",Rows.laid_porism_lattice_keys),("porism/porismref03.Keys",Rows.laid_porism_porismref03_Keys),("porism/value.words",Rows.laid_porism_value_words)] W:=a
variable{z:Type}
theorem ajQ:(Rows.laid_porism_lattice_keys:DataW z)=.slice (fR.map r6) []:=rfl
theorem ajR:(Rows.laid_porism_porismref03_Keys:DataW z)=.slice (fR.map r6) []:=rfl
theorem ajS:(Rows.laid_porism_value_words:DataW z)=.agg (fR.map r6):=rfl
theorem Tj{W:World}{g:Nat}{a:String}(b:a1.globalNamed a=T g)(c:W.var? a1 a=T fq)(d:DataW.trod (λ_=>()) a1 W 0 (λ_=>ab) aa U 53 (bU fq)=T (.slice (fR.map r6) [],m5)):R (E0 W).base (.aK aa [.sl aa (fR.map λh=>[.str h])] 0) (.pointer (T ⟨g,0,D⟩)):=by
 obtain⟨j,e,f⟩:=ab5 (x:=fR) (by decide) ajM Ti oi d;exact Tg b c (by rw[e];exact .cons _ _ _ _ f .nil) (by simp)
theorem ajT{W:World}{g:Nat}{a:String}(b:a1.globalNamed a=T g)(c:W.var? a1 a=T fq)(d:DataW.trod (λ_=>()) a1 W 0 (λ_=>ab) aa U 311 (bU fq)=T (.agg (fR.map r6),m5)):R (E0 W).base (.aK aa (fR.map .str) 0) (.pointer (T ⟨g,0,D⟩)):=by
 obtain⟨f,e⟩:=ab4 (x:=fR) ajN Ti oi ajO d;exact Tg b c (Hk f e) (by simp)
theorem ajU{W:World}(q:laidMetH a1 g2.laid W):dC G0 (E0 W):=by
 obtain⟨J,⟨n,r,u,y,G,K,a,h,k,d,⟨o,s,v,z,H,L,b,i,l,e,⟨p,t,w,A,I,M,c,j,m,f,-,-⟩,-⟩,-⟩,-,-⟩:=ajP q;obtain rfl:2=n:=wM (ajG.symm.trans a);obtain rfl:0=o:=wM (ajH.symm.trans b);obtain rfl:1=p:=wM (ajI.symm.trans c);obtain rfl:53=r:=wM (ajJ.symm.trans h);obtain rfl:53=s:=wM (ajK.symm.trans i);obtain rfl:311=t:=wM (ajL.symm.trans j);rw[ajQ]at d;rw[ajR]at e;rw[ajS]at f;have C:=Tj a k d;have E:=Tj b l e
 have F:=ajT c m f;intro g x B;grind[G0]
end AM
end Go
