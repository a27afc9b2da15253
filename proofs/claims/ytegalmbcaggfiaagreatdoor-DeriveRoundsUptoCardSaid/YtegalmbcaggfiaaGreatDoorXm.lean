/- The law DeriveRoundsUptoCardSaid: part 13 of 14 of the proof. No condition. -/
import Derived.Test.YtegalmbcaggfiaaGreatDoorXl
import Derived.Test.YtegalmbcaggfiaaGreatDoorCards
import Derived.Test.YtegalmbcaggfiaaGreatDoorTie
import Derived.WalkKit
import Derived.Deep.DeepWitnessRowRef
set_option maxRecDepth 100000
open List renaming length->Z,range->ay
open Option renaming some->aa
open Bool renaming true->ad,false->ab,and_self->abb
open Decidable renaming decide->y
open Array renaming toList->bJ
open Int renaming ofNat->b4
open Go.Proofs.Tryz renaming prog->aU
open Go.Proofs.YtegalmbcaggfiaaGreatDoor.Rows renaming deriveRoundsUptoRow->hY,deriveRoundsSpec->pH
open Nat renaming mod_lt->CJ
namespace Go
namespace AM
open Go.Law Go.Proofs
theorem aqE:PR C 5 [] (.bool ad):=AL (.cons aqB (.cons aqC (.cons aqD (.cons q7 .nil)))) (by kernel_rfl)
variable{U N:Nat}
theorem aqF(c:0<N):aT .s .rem (I (U:Int)) (I (N:Int))=aa (I ((U%N:Nat):Int)):=by
 have a:=(Int.ofNat_tmod U N).symm;have b:(N:Int)≠0:=by omega
 simp_all[aT,kp]
variable{T F:Bool}{M:List Obj}{E dG:AV}
theorem aqG(b:D)(c bs:List S)(k:eA b)(j:kA b)(h:Z c+Z bs<4294967296)(g:vy b c)(f:∀e∈bs,dF e.af/\dZ b e.ah=ad)(d:qa M E c)(l:vT U dG bs):
 HR C 12 [.agg (cP T F b),E,dG] M (yz M (df b c bs)):=by
 rcases l with rfl|⟨rfl,rfl⟩;exact He b c bs k j h g f d;refine KQ.hq ?_ (by simp[d.pl]);simp only[eE,O,fh,e4,gy,oa];refine eB (U:=0) (c:=λm=>[E,I m]) (λ_=>True) trivial rfl (by omega) (λ_ n=>?_);simp only[i,G,A,O,a,cn,decide_false];refine bw ?_;rw[d.pl];exact⟨gN.app _ _,d.ext (gN.app _ _)⟩
theorem k3(c1:e8 C)(c2:vQ C)(d3:xi C)(xw:∀bi s,C 30 [.sl bi []] s (.q (Z s+1) 0 0 0) (s++[.arr 0 3 [],.arr 0 3 []]))(f9:PR C 5 [] (.bool ad)){au K:Bool}(d:D)(u:List S)(co:UInt8)(ai:eA d)(el:Sm u)(t:∀j∈u,dF j.af):
 PR C 3 [.agg (cP ab au d),eS K (cF ab) u,.int .u8 (co.toNat:Int)] (.bool ad):=by
 refine r3.pr ?_;simp only[eE,O,gy];refine c f9 ?_;refine c (k6 d u ai el t) ?_;rw[bI,O];refine dw (λ_=>.bool _ _) (λh=>?_);let⟨o,i9⟩:=Z9 h;let⟨i0,ac,hx,g2,g3⟩:=k7 c1 c2 d3 xw (T:=au) (F:=K) o ai t;rcases i0 with _|m;refine c (g2 rfl) ?_;refine aI (dW:=eS ab (cF ab) ([]:List S)) rfl (aI (dW:=eS ab cN ([]:List Nat)) rfl (aI (dW:=I 2) rfl ?_));simp only[cv,c6,O]
 refine dA (M:=[]) ad (λf E=>dH (λh=>by simp at h) (λ_=>kB E rfl)) ?_;simp only[G];refine a8 ?_;refine dA (M:=[]) ad (λf E=>?_) (.bool _ _);refine aV (λ_=>?_) (λh=>by cases h);exact dH (λh=>by simp at h) (λ_=>kB E rfl);obtain⟨_,g1,w,f2,rfl⟩:=g3 m rfl;let⟨a4,bD⟩:=hx m rfl;have F:=AF o.kz o.val ai t o.AH;have he:=yU o.val o.form;have mk:=a4.small F.v bD;have d6:=Cp o.ml o.val;let⟨f0,_,cb⟩:=yT o.ml
 have lw:=F.v.Q;have io:=xe.2 o.val;have ha:=(ER o.val F.v o.form ac).1;have X:=EU o F.v ac bD;have g8:=N5 o.val (IJ o.val o.form).2;have am:∀{ak:List S},bE d (fU d u) ak->∀j∈ak,dF j.af:=λh=>bE.Ah F h.ok;have fy:=aaf o F.v ac;have h3:=λn(M:n<Z m)=>apO o F.v ac f2 M;have hl:=λf E L ci=>apQ o F.v ac bD (U:=f) E L ci;have h1:Z ((ay (Z m)).map w)=Z m:=by simp
 have hO:∀n(M:n<Z ((ay (Z m)).map w)),((ay (Z m)).map w)[n]=w n:=λn M=>by simp
 refine c g1 ?_;refine aI (dW:=eS ab (cF ab) m) rfl (aI (dW:=eS ab cN ((ay (Z m)).map w)) rfl (aI (dW:=I 0) rfl ?_));generalize(ay (Z m)).map w=rs at*;simp only[aX,cv,c6,O,h1];refine dA (M:=[]) ((Z m:Int)==0) (λf E=>?_) ?_;refine dH (λ_=>?_) (λh=>by simp at h);refine dH (λ_=>E) (λh=>by simp at h);simp only[G];refine b (λT=>?_) (λT=>?_);have T:Z m=0:=by simpa using T
 have J:Z u=0:=by
  rcases u with _|⟨j,ak⟩;rfl;have:=List.length_pos_of_mem (fy j (by simp));omega
 refine dA (M:=[]) ad (λf E=>?_) (.bool _ _);refine aV (λ_=>?_) (λh=>by cases h);refine dH (λ_=>?_) (λh=>by simp at h);refine aV (λ_=>?_) (λh=>by simp at h);refine aV (λ_=>?_) (λh=>by simp at h);grind;have T:0<Z m:=by
  have:¬(Z m)=0:=by simpa using T
  omega
 simp only[Br,Kq,O,aqF T];have M:=CJ co.toNat T;generalize co.toNat%Z m=n at*;have d8:n<Z rs:=by omega
 have ip:=hO n d8;have md:=h3 n M;have kw:0<=mY u m[n].ah m[n].af<->m[n]∈u:=aad λf7 cc P V=>yC a4.de _ (fy f7 cc) _ (bn M) P V;have lm:m[n]∈m:=bn M;have bb:∀s,bP 3 (eS ab (cF ab) m) (I (n:Int)) s=aa (.aH ab (cF ab m[n]) 0):=λs=>aE M (fB _ _);have aF:∀s,bP 1 (eS ab cN rs) (I (n:Int)) s=aa (.aH ab (cN (w n)) 0):=λs=>by rw[aE d8 (G5 _),ip]
 generalize g9:m[n]=j at*;refine dA (M:=[]) ab (λf E=>?_) ?_;refine c (k8 d m ai (by grind[Sm]) (am a4)) ?_;rw[io,ha];simp only[abb,bI,O,rf];refine dH (λ_=>?_) (λh=>by cases h);simp only[bb,aF,O,aJ,wT,bh,oc,s7,e,c6];refine c (k9 u j.ah j.af el t he.de) ?_;simp only[hz,Bq,A,O];refine dH (λ_=>?_) (λh=>?_);exact kB E (by simp);grind;simp only[G];refine bw ?_;simp only[aF,O,aJ,wT,c6]
 refine b (λ_=>.bool _ _) (λg5=>?_);have ke:0<w n:=by
  have:¬w n=0:=by simpa using g5
  omega
 have a6:=f2 n M;rw[g9]at a6;refine c (yG d d6) ?_;have ld:=Og (m:=m) o (eN (Z d.Q) (cQ d));have hm:=EW o F.v ac (eN (Z d.Q) (cQ d));have hh:=λf(E:f<Z (eN (Z d.Q) (cQ d))) L=>X.IT f E L;have lt:=X.num;have br:=X.len;generalize eN (Z d.Q) (cQ d)=l at*;have it:h6 [] 3 (eS K (cF ab) u)=aa (u.map (cF ab)):=uk (fB ab) _ _ _;refine aY (pe (a7:=cF ab) rfl it (by omega)) ?_
 refine bG (K:=Nat×AV×List Obj) (λp=>[p.2.1,I p.1]) (λp=>p.2.2) (λp=>Z l -p.1) (λp=>p.1<=Z l/\(∀R(a3:R<Z l),R<p.1->j.ah∉l[R].map b4)/\qa p.2.2 p.2.1 (nW d u m l p.1)) (0,.q 0 0 0 (Z u),[.arr 0 3 (u.map (cF ab))]) ⟨tN _,λR _ h=>by omega,0,0,rfl,rfl⟩ ?_;rintro⟨f,iG,N⟩ ⟨E,es,W⟩ i4 f3;simp only at E es W f3⊢;let⟨Y,ho⟩:=hm f;have lc:Z (nW d u m l f)<=Z m:=Oe Y.v.de ho
 have ds:∀{ak:List S},bE d (fU d u) ak->vy d ak:=λh=>⟨h.de,am h,λj t=>(h.ok j t).D9⟩;refine dA (M:=N) (if h:f<Z l then !(l[f].map b4).contains j.ah else ab) (λmt d9=>?_) ?_;simp only[i,G,aX,A,O,a];refine aV (λh=>?_) (λh=>?_);have h:f<Z l:=by simpa using h
 rw[dif_pos h]at d9;simp only[aE h (w7 _),aJ,tq,O,bb,bh,oc,e,xf];have:=br _ (bn h);refine c (NK (l[f].map b4) j.ah (by grind[Sm])) ?_;rw[bI,O];exact d9;grind;simp only[G];refine b (λh=>?_) (λh=>?_);have B:f<Z l:=by
  by_cases V:f<Z l;exact V;rw[dif_neg V]at h;cases h
 rw[dif_pos B]at h;have hg:=br _ (bn B);simp only[i,G,aE B (w7 _),aJ,tq,O,xf];refine c (apo (T:=false) (F:=false) m (l[f].map b4) (by omega) (by grind)) ?_;have l0:Z (e1 (l[f].map b4) m)<=Z m:=nX ..;have ex:=a4.part (l[f].map b4);refine c4 (He (bC:=false) d (nW d u m l f) (e1 (l[f].map b4) m) ai (Co o.val) (by omega) (ds Y.v) (λj t=>⟨am ex j t,(ex.ok j t).D9⟩) W) (by simp[W.pl]) λr cs cb=>?_
 rw[aZ,O];refine f3 (f+1,r,cs) ⟨B,λR a3 bv=>?_,?_⟩ (by simp;omega);grind;have J:l.getD f []=l[f]:=by rw[oK,bq B,nr]
 show qa cs r (df d (nW d u m l f) (e1 ((l.getD f []).map b4) m));rw[J];exact cb.2;simp only[i,G,aX,c6,O];refine b (λax=>?_) (λax=>?_);have ax:f=Z l:=by simp at ax;omega
 subst ax;have:=a6.none λR a3 bv=>es R a3 bv;omega;have B:f<Z l:=by
  have:¬f=Z l:=by simp at ax;omega
  omega
 rw[dif_pos B]at h;have d7:j.ah∈l[f].map b4:=by simpa using h
 have L:nU d l[f]=false:=by
  rw[<-vY];intro L;have:=a6.ek f B B d7 L;omega
 have a9:=a6.view f B B d7 L;have d4:=hh f B L;have az:=λci=>(hl f B L ci).1;have eq:=IS d4 (X.AI f B);have hg:=br _ (bn B);have kl:Z (l[f].map b4)<=24:=by rw[jX];omega
 have i7:∀s,(bd (bP 1 (eS ab cG l) (I (f:Int)) s) λf6=>bd (aQ 1 ab f6 s) λf6=>True):=λs=>by simp[aE B (w7 _),aJ,tq]
 have f5:∀s,bP 1 (eS ab cG l) (I (f:Int)) s=aa (.aH ab (cG l[f]) 0):=λs=>aE B (w7 _);generalize g7:l[f].map b4=z at*;generalize jp:nW d u m l f=x at*;generalize d5:dx m l f=i6 at*;have em:∀k,Z (da d z x k)<=Z m:=λk=>by
  rw[az];refine ix (Oe (pE (c:=z) F.v (d5▸(X.AI f B).v) k).v.de (eq k)) (nX ..)
 have d2:∀k,q9 d (fU d u) z (da d z x k):=λk=>pE F.v Y.v k;have le:∀k,ei d (da d z x k) m:=λk j t=>by
  rw[az]at t;let⟨g,gt,gU⟩:=eq k j t;exact⟨g,(gS.1 gt).1,gU⟩
 have hu:∀k,k<w n->da d z x k≠da d z x (k+1):=λk f0=>by
  rw[az,az];exact a9.IV f0
 refine aY (dW:=.q (Z N) 0 0 0) (oR:=N++[.arr 0 3 []]) rfl ?_;have g0:(N++[Obj.arr 0 3 []])[Z N]?=aa (.arr 0 3 []):=by simp
 have W:=W.ext (gN.app N [.arr 0 3 []]);generalize Z N=ce at*;generalize N++[Obj.arr 0 3 []]=f8 at*;refine bG (K:=Nat×AV×List Obj) (λp=>[ff,p.2.1,I ((p.1+1:Nat):Int)]) (λp=>p.2.2) (λp=>w n -p.1) (λp=>p.1<=w n/\vT ce p.2.1 (da d z x p.1)/\qa p.2.2 iG x/\p.2.2[ce]?=aa (.arr 0 3 [])) (0,.q ce 0 0 0,f8) ⟨tN _,.inr ⟨rfl,rfl⟩,W,g0⟩ ?_;rintro⟨k,m0,i3⟩ ⟨id,aA,a2,d0⟩ i5 f4;simp only at id aA a2 d0 f4⊢
 simp only[i,G,aF,f5,O,aJ,wT,tq,kL,xf];refine b (λhn=>?_) (λ_=>.bool _ _);have f1:k+1<=w n:=by simp at hn;omega
 have aR:=d2 k;have a0:=d2 (k+1);have bv:=em k;have li:=em (k+1);have ii:=ra F.v Y.v aR;have ms:=z1 (c:=d) (da d z x k) x;have hj:q8 d (fU d u) (df d x (da d z x k)):=Od F.v o.val (b:=z) Y k;have kx:=N4 o.val g8 hj;have h4:da d z x (k+1)=fD d z (df d x (da d z x k)):=rfl
 refine c4 (aqG d x (da d z x k) ai (Co o.val) (by omega) (ds Y.v) (λj t=>⟨am aR.v j t,(aR.v.ok j t).D9⟩) a2 aA) (by simp[a2.pl,aA.pl.1]) λr be a5=>?_;have d1:=a5.1 _ _ d0;have g6:=a2.ext a5.1;simp only[f5,O,aJ,tq,xf,g7];refine⟨rfl,rfl,rfl,?_⟩
 refine eV _ (Nx c1 c2 d3 (T:=au) (F:=true) (bC:=false) (c8:=false) (df d x (da d z x k)) z F ii (by omega) (by grind) d6 cb o.AH o.str (by grind[Sm])) (.cons _ _ _ _ _ (Im.snap (by simp)) (.cons _ _ _ _ _ (Im.snap (by simp)) (.cons _ _ _ _ _ (by rw[a5.2.pl];exact a5.2.mr) (.nil _)))) (NV _) ?_;rw[<-h4];have ls:=hu k f1;have mp:k<=540000:=Ob d4 (d5▸(X.AI f B).v) k λR a3=>a9.IV (by omega)
 have hH:j∈da d z x (k+1)<->k+1=w n:=by
  rw[az];constructor;intro t;by_cases J:k+1=w n;exact J;exact absurd t (a9.no (k+1) (by omega));intro J;rw[J];exact a9.at'
 refine dA (M:=be) ab (λk3 bm=>?_) ?_;simp only[eU,O];refine aV (λP=>?_) (λ_=>bm);let⟨ge,hs⟩:=aA.mr d1;refine eV _ (aia (T:=false) (F:=false) (bC:=ge) (c8:=false) (da d z x k) (da d z x (k+1)) (by grind[Sm]) (λj t=>(am aR.v j t).1)) (.cons _ _ _ _ _ (by rw[aA.pl.1];exact hs) (.cons _ _ _ _ _ (Im.snap (by simp)) (.nil _))) (.bool _) ?_;grind;simp only[G];refine bw ?_
 simp only[bb,O,aJ,bh,oc,s7,s8,e];generalize g4:da d z x (k+1)=H at*;refine c (k9 H j.ah j.af (by grind[Sm]) (am a0.v) a0.v.de) ?_;refine dA (M:=be) ab (λk3 bm=>?_) ?_;simp only[hz,O];have fn:=N8 (eL j.ah j.af) H;rw[show b2 (eL j.ah j.af) H=mY H j.ah j.af from rfl]at fn;refine aV (λP=>?_) (λP=>?_);rcases fn with⟨J,-⟩|⟨cl,fd,J,hk,-⟩;rw[J]at P;simp at P;rw[J];simp only[eL,ba,beq_iff_eq]at hk
 simp only[aE fd (fB _ _),bb,aF,O,aJ,bh,s8,wT,e,c6,Bq];refine kB bm ?_;have i8:(H[cl].aj==j.aj)=y (j∈H):=by
  rw[iA,decide_eq_true_iff,beq_iff_eq];constructor;intro go;have:H[cl]=j:=by
   generalize H[cl]=i1 at*;cases i1;cases j;simp_all
  grind;intro t;rw[yC a0.v.de _ (bn fd) j t (by grind) (by grind)]
 grind;have hw:j∉H:=λt=>by
  have:=(aad (fs:=H) (a:=j) λf7 cc P V=>yC a0.v.de _ cc _ t P V).2 t;grind
 have go:(((k+1:Nat):Int)==(w n:Int))=false:=by
  rw[<-vY,beq_iff_eq];intro J;exact hw (hH.2 (by omega))
 simp only[aF,O,aJ,wT,c6,Bq];grind;simp only[G];refine bw ?_;rw[aZ,O];exact f4 (k+1,eS ab (cF ab) H,be) ⟨f1,.inl (by rw[g4]),g6,d1⟩ (by simp;omega)
open Go.Proofs.YtegalmbcaggfiaaGreatDoor Go.Deep
variable{K:Type}{oU:Program}{cj:Nat -> Bool}
theorem aqH{e:TypeId×Value->K}{w:World}(j:oU.underlying U=aa (.int .u8)):Rd K e oU w cj U 1 cU (λ_=>True):=by
 refine⟨(by simp[cU]),λb l m p h _=>?_⟩;rcases b with _|b;simp[DataW.trod]at h;unfold DataW.trod at h;simp only[j]at h;split at h<;>rename_i c<;>first|(cases h;done)|(cases c;done)|skip
 cases c
 rename_i o a;split at h;rename_i i;obtain⟨rfl,k⟩:=i;have n:0<=a/\a<256:=by
  have f:IntKind.u8.min=0:=by decide
  have g:IntKind.u8.max=255:=by decide
  simp only[Lit.wf,ba,decide_eq_true_eq,f,g]at k;omega
 have d:((UInt8.ofNat a.toNat).toNat:Int)=a:=by
  rw[UInt8.toNat_ofNat_of_lt' (by show a.toNat<256;omega)];omega
 refine⟨UInt8.ofNat a.toNat,?_,trivial⟩;unfold cU;rw[d];exact .cons _ _ _ _ (.int _ _) .nil;cases h
section
variable{H:Type}{enc:TypeId×Value->H}{w:World}{sp:Nat->Bool}
theorem aaF:j3 H enc w sp 5 1 cU (λ_=>True):=aqH (by kernel_rfl)
end
theorem aqI(c:D)(a:List S)(w:UInt8)(g:eA c)(f:Sm a)(e:∀d∈a,dF d.af):∃b,jz aU G0 3 [.agg (cP ab T c),eS F (cF ab) a,.int .u8 (w.toNat:Int)] [] (.bool ad) b:=by
 let⟨j,b,h,i⟩:=k3 Ol On Om xw aqE (au:=T) (K:=F) c a w g f e;cases i
 exact⟨b,h⟩
open Go.ChangeShapes Go.WideShapes Go.ChangeAt Go.RowKit
theorem aqJ:∃a,aU.underlying 27=aa (.struct a):=by
 simp
theorem aaG:aU.underlying 4=aa .bool:=by kernel_rfl
variable{bA:Value}
theorem aqK{W:World}{base:Nat}(h:Value.okWide aU W .any base 27 bA):∃a,bA=.agg a:=by
 grind[aqJ,Value.okWide]
theorem aqL{W:World}{base:Nat}(h:Value.okWide aU W .any base 28 bA):bJ bA.cells=[bA]:=by
 unfold Value.okWide at h;rw[uK]at h;simp only[Cell.okWide,uK,Cell.ok]at h;cases bA<;>first|rfl|grind
theorem aqM{W:World}{base:Nat}(h:Value.okWide aU W .any base 5 bA):bJ bA.cells=[bA]:=by
 have a:aU.underlying 5=aa (.int .u8):=by kernel_rfl
 unfold Value.okWide at h;rw[a]at h;simp only[Cell.okWide,a,Cell.ok]at h;cases bA<;>first|rfl|grind
theorem aqN(b:Type)(c:TypeId×Value->b)(W:World)(base:Nat)(args:Array Value)(i gs:List (DataW b))(B:List MemPlace)
 (f:∀(A:Nat) g a,Tryz.f3.params[A]?=aa g->args[A]?=aa a->Value.okWide aU W .any base g a)
 (k:DataW.Whole c aU (bJ Tryz.f3.params) pH.vars ab W (bJ args) i gs B)(V:Rows.uptoSmall b (i++gs)=ad)(J:laidMetH aU hY.laid W):
 Calls aU 3 args W λj q=>∃a,j=.returned a/\pH.post c aU Tryz.f3 ab ad ab ab W args a q:=by
 have v:=k;have X:=k.lt;obtain⟨au,bm,u,O,rfl,a6,a9⟩:=k;have t:DataW.TrodAll c aU W 0 (λ_=>ad) ad (bJ Tryz.f3.params) (bJ args) i au:=u;rw[Tryz.params3]at t f;obtain⟨v0,v1,v2,C,D,E,ax,az,aA,rfl,rfl,rfl,G,H,I⟩:=trodAll_three t;obtain⟨rfl,rfl⟩:=trodVars_none O;have P:Rows.uptoBulkAll [C,D,E]<=1048576:=by
  have:=of_decide_eq_true V;simpa using this
 simp only[Rows.uptoBulkAll]at P;obtain⟨s,rfl⟩:=aqK (f 0 27 v0 rfl rfl);have Q:=aqL (f 1 28 v1 rfl rfl);have S:=aqM (f 2 5 v2 rfl rfl);let⟨aj,aF⟩:=G;let⟨ak,aR⟩:=H;let⟨am,a0⟩:=I;let⟨o,z,ac⟩:=(ahN (H:=b) (enc:=c) (w:=W) (sp:=λ_=>ad) (λ_=>rfl) ab ab).2 aj _ _ _ aF (by omega);let⟨p,d,Y,af⟩:=(ahP (H:=b) (enc:=c) (w:=W) (sp:=λ_=>ad) (λ_=>rfl) ab ab).2 ak _ _ _ aR (by omega)
 let⟨r,w,_⟩:=(aaF (H:=b) (enc:=c) (w:=W) (sp:=λ_=>ad)).2 am _ _ _ a0 (by omega);rw[Q]at d;rw[S]at w;have L:R (E0 W) (.agg (cP ab ab o)) (.agg s):=by
  have U:∀a∈cP ab ab o,a.bU=true:=by simp[cP,AV.bU,eS]
  refine .agg _ _ z ?_;have one:∀{vs:List AV}{e:List Value},RL (E0 W) vs e->(∀a∈vs,a.bU=ad)->∀n∈e,n.oneCell'=true:=by
   intro vs e h;induction vs generalizing e with
   |nil=>intro _ n ah;cases h;simp at ah
   |cons a vs bb=>
    cases h with
    |cons _ n _ e ai y=>
     intro l p d;rcases b6.1 d with rfl|d;exact ai.CU (l _ (by simp));grind
  exact one z U
 have M:R (E0 W) (eS ab (cF ab) p) v1:=by
  cases d with
  |cons _ _ _ _ h _=>exact h
 have N:R (E0 W) (.int .u8 (r.toNat:Int)) v2:=by
  cases w with
  |cons _ _ _ _ h _=>exact h
 let⟨a3,_,T⟩:=aqI (T:=false) (F:=false) o p r ac (Sm.of Y) af;have l:=T (E0 W) [.agg s,v1,v2] (ahq W) (λ_=>rfl) rfl (.cons _ _ _ _ L (.cons _ _ _ _ M (.cons _ _ _ _ N .nil))) (aqh (show laidMetH aU hY.laid W from J));refine l.mono λj q x=>?_;cases j with
 |returned a=>
  obtain⟨a2,rfl,F,-,-,K⟩:=x;obtain rfl:a=.bool true:=by cases K;rfl
  simp only[sQ]at v X;refine⟨_,rfl,apZ (h:=ax++az++aA) (i:=[]) v (λ_ _ _=>trodAll_cons_mk (shut_bool aaG _) trodAll_mk0) (λm Z=>?_) (λ_ _=>rfl) (by simp) (apW F _) (by grind[apY]) (ok_one (by kernel_rfl) rfl (okWide_bool_mk aaG _))⟩;exact aal ap1 ap2 (λg y=>by rw[Tryz.params3]at y;revert g;decide) u (by grind[apX]) Z
 |_=>exact x.elim
end AM
end Go
