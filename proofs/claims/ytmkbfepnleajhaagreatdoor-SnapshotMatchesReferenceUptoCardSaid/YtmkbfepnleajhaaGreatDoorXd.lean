/- SnapshotMatchesReference, 4 of 11 -/
import Derived.Test.YtmkbfepnleajhaaGreatDoorXc
set_option maxRecDepth 100000
open List renaming length->Z,contains_eq_mem->zZ,find?_cons->ak7,findIdx?_map->ald,length_zip->alb,map_id'->FG,set_append_left->ak8,set_eq_take_append_cons_drop->alc,set_set->ak9,take_nil->TL
open Option renaming some->T,none->D,bind_some->zT
open Bool renaming true->ab,false->aa,not_not->FC
open Decidable renaming decide->S,not_not->anw
open List.Pairwise renaming imp->anx
open Nat renaming le_succ->Kp
open Option.some renaming inj->wM
namespace Go
namespace AM
structure mK(p:aj)(fB:List aO):Prop where
 v:ti p fB
 uT:dW p
 BC:kz p
 zo:∀v∈fB,Sm v.s
 tq:∀r∈p.ah,j6 r
 aeG:∀r∈p.ah,∀l∈r.ae,∀t∈l.ad,Sm t.const.s
 bb:∀q∈p.d,Z q.bb<=1000
variable{M:aj}{bz:List aO}{X:List aw}
theorem dq.re(d:mK M bz)(b:∀a∈X,uQ M bz a):∀a∈X,eO a.ad:=by
 intro a c;obtain⟨h,f,i,j⟩:=(b a c).fJ;have:=d.bb _ (bs f);exact⟨by grind[Sm],λe g=>d.zo e ((b a c).fB e g)⟩
variable{aU:Int}{dF:bM}
theorem aeH(a:e8 M aU=T dF)(f:∃b:Nat,aU=b):v7 M aU:=by
 obtain⟨b,rfl⟩:=f;unfold e8 at a;rw[ej]at a;split at a
 ·rename_i i g
  split at a
  ·cases a
  ·rename_i h
   obtain⟨c,rfl⟩:=e6.1 g;obtain⟨e,-⟩:=e6.1 a;exact⟨b,c,rfl,M.d[b].of.toNat,by omega,e⟩
 ·cases a
variable{jb:List Lit}
theorem P3:∀(f:List Nat)(d:Nat)(c:List aX),(∀a∈c,Z a.bl=Z a.ax/\Z a.m<=d/\Z a.au=Z a.m)->
 ∀a∈f.foldl (kC M X jb) c,Z a.bl=Z a.ax/\Z a.m<=d+Z f/\Z a.au=Z a.m
 |[],d,c,h=>by grind
 |i::f,d,c,h=>by
  intro a k;rw[oJ]at k;have:=P3 f (d+1) (kC M X jb c i) (λA b=>by
   unfold kC at b;cases n:jb[i]? with
   |none=>grind
   |some e=>
    rw[n]at b;obtain⟨g,o,b⟩:=TJ.1 b;obtain⟨j,v,l⟩:=h g o;unfold e5 at b;split at b
    ·obtain⟨u,w,b⟩:=yj.1 b
     obtain⟨B,p,rfl⟩:=dg.1 b;obtain⟨w1,x,y,z,-⟩:=uN _ _ j p;unfold jq;split
     ·exact⟨w1.len,by grind,by grind⟩
     ·refine⟨w1.len,?_,?_⟩
      ·grind
      grind
    ·split at b
     ·simp only[lV]at b
      subst b;obtain⟨q,r⟩:=PK g e;rw[q,r];refine⟨?_,by omega,l⟩;have:=(Ps (P:=e) (bz:=g.bl++e.ad.map aM.const) (x:=g.ax) rfl j (by grind) (by grind));grind
     ·cases b) a k
  grind
variable{u:aG}
theorem mK.hG(a:mK M bz)(j:dq M bz X)(s:Z X<4294967296)(c:u∈M.ah):PY M X u:=by
 have n:=a.v.hG u c;have m:=j.meet a.v c;have d:=a.tq u c;refine⟨a.uT,d,λb f=>?_,λh=>?_,λh H i k=>?_,s,dq.re a j.ok,j.fz⟩
 ·have g:=n.lits b f
  have e:b.ak=3\/b.ak=4->v7 M b.aq:=λl=>by
   obtain⟨J,I,-⟩:=g.gN l;obtain⟨x,-,G,-⟩:=g.aq (by omega);grind[aeH]
  exact⟨d.2.2.2 b f,e,λl=>(g.cmp l).1,a.aeG u c b f,g.ak,(m b f).len⟩
 ·have:=PA (M:=M) m (by omega) (a.v.q3 u c) h
  omega
 ·obtain⟨w,q,r,e⟩:=Py (M:=M) m h
  have o:=P3 (M:=M) (X:=X) (jb:=u.ae) h 0 [e0] (by simp[e0]) i k;have A:=BA q r;have B:=Hs u;have C:Z (u.ae.map Lit.ad++[u.ad]).flatten=Z (u.ae.map Lit.ad).flatten+Z u.ad:=by simp
  have E:=d.2.1;have F:=d.2.2.1;have z:=d.1;have t:=e.ax i k;rw[t]at o;refine⟨⟨by grind,by grind,by omega,o.2.2,λp n=>a.zo p (e.fB i k p n)⟩,by grind⟩
variable{V F bp b2 ed:Bool}
theorem aeI(c:aj)(H:List aO)(g:List Int)(k:List aw)(l:mK c H)(J:dq c H k)(d7:Z k<4294967296)(gc:Sm g):PR C 53 [.agg (cP V F c),eS ed cI g,eS bp (cF b2) k] (eS aa (cF aa) (nK c g k)):=by
 refine Z5.pr ?_;have gi:=l.v.ah;simp only[dS,Q,dZ,eA,a6,aH,fQ,mz,aJ,a8,c3,de,fm,gz];refine bB (z:=Nat×AV×List Obj) (λe=>[e.2.1,I e.1]) (λe=>e.2.2) (λe=>Z c.ah -e.1) (λe=>e.1<=Z c.ah/\lN e.2.2 e.2.1 ((c.ah.take e.1).foldl (mb c g k) [])) (0,.q 1 0 0 0,[.arr 0 3 [],.arr 0 3 []]) ⟨by simp,1,0,rfl,rfl⟩ ?_;rintro⟨d,ce,M⟩ ⟨d5,K⟩ dl be;simp only at d5 K be⊢;simp only[i,G,A,Q,a]
 refine b (λx=>?_) (λx=>?_)
 ·have x:d<Z c.ah:=by simpa using x
  have t:c.ah[d]∈c.ah:=bs x;have d9:=EB l.v J g (c.ah.take d) (λb4 ac=>qL ac) (dq.nil c H);rw[gb,de]at d9;have f7:=k9 3000 (show min d (Z c.ah)<=20 by omega);have br:=λE w L=>be (d+1,E,w) ⟨x,L⟩ (by simp;omega);simp only[jB x]at br;generalize(c.ah.take d).foldl (mb c g k) []=u at*;rw[bo];simp only[aC x (kQ _ _),Q,kR,uc,o4,qg,o5,o6,o7,o8,qh,o9,om]
  have goal:∀E w,lN w E (mb c g k u c.ah[d])->bd (aS .s .add (I d) (I 1)) λfs=>dl [E,fs] w:=by
   intro E w L;rw[ba,Q];exact br E w L
  have X:∀N,[AV.str c.ah[d].ar,I c.ah[d].aq,eS N cT c.ah[d].ad,I c.ah[d].af.ak,.str c.ah[d].af.ar,.str c.ah[d].af.aB,I c.ah[d].af.aQ,eS N (a5 N) c.ah[d].ae,I c.ah[d].bf]=aP N c.ah[d]:=λ_=>rfl;refine bB (z:=Nat) (λn=>.bool (S (0<=c.ah[d].aq)&&(g.take n).contains c.ah[d].aq)::I n::aP V c.ah[d]) (λ_=>M) (λn=>Z g -n) (λn=>n<=Z g) 0 (by simp) ?_ (by simp[aP]) rfl;intro n Y f1 es
  simp only[i,G,o4,qg,o5,o6,o7,o8,qh,o9,om,A,Q,a,X];refine b (λy=>?_) (λy=>?_)
  ·have y:n<Z g:=by simpa using y
   have bv:=es (n+1) y (by omega);have em:(S (0<=c.ah[d].aq)&&(g.take (n+1)).contains c.ah[d].aq)=((S (0<=c.ah[d].aq)&&(g.take n).contains c.ah[d].aq)||(g[n]==c.ah[d].aq&&S (0<=c.ah[d].aq))):=by
    rw[hX y,hY];simp only[zZ,c5,lV,bG,kg,decide_eq_true_eq,beq_iff_eq];constructor
    ·grind
    ·rintro(⟨o,ci⟩|⟨ci,o⟩)
     ·grind
     omega
   rw[em]at bv;simp only[aC y (g4 _),Q,aH,j4,c9,gF];refine pg (N:=M) ((S (0<=c.ah[d].aq)&&(g.take n).contains c.ah[d].aq)||(g[n]==c.ah[d].aq&&S (0<=c.ah[d].aq))) (aP V c.ah[d]) (λgt ge=>?_) ?_
   rotate_left
   ·simp only[G,i,o4,qg,o5,o6,o7,o8,qh,o9,om,X]
    rw[ba (by grind[Sm]),Q];exact bv
   ·refine dx (λz=>aZ (λr=>?_) (λr=>?_)) (λz=>?_)
    ·grind
    ·grind
    grind
  ·have:n=Z g:=by simp at y;omega
   subst this;rw[dB];have d6:(S (0<=c.ah[d].aq)&&g.contains c.ah[d].aq)=th g c.ah[d]:=rfl;rw[d6];simp only[bD,Q];refine c8 (λz=>?_) (λz=>?_)
   ·exact goal ce M (by grind[mb])
   ·have bb:0<=c.ah[d].aq:=by simp only[th,bG,decide_eq_true_eq]at z;exact z.1
    have a3:=l.hG J d7 t;refine f (aeF c k c.ah[d] a3) ?_;have el:mb c g k u c.ah[d]=(fA c k c.ah[d]).foldl (λo h=>dp c o (iR c c.ah[d] h)) u:=by
     rw[mb,if_pos z,jm,tg,Ky]
    rw[el]at goal;have a4:=Ii (l.v.hG _ t) (l.v.safe _ t) (J.meet l.v t) (λa0 d4=>(J.ok a0 d4).af);have a9:∀h∈fA c k c.ah[d],uQ c H (iR c c.ah[d] h):=λh B=>PN (l.v.hG _ t) bb (l.v.uP _ t).1 (a4 h B);have gh:Z (fA c k c.ah[d])<=3000:=by
     have:=Ik l.v J t;simpa[tg]using this
    have d2:∀h∈fA c k c.ah[d],uS h:=by
     intro h B;rw[fA]at B;split at B
     ·cases B
     ·rename_i e2 d8
      exact(a3.env e2 (by rw[(BB d8).2];omega) h B).1
    generalize fA c k c.ah[d]=p at*;have ds:∀j,dq c H ((p.take j).foldl (λo h=>dp c o (iR c c.ah[d] h)) u)/\Z ((p.take j).foldl (λo h=>dp c o (iR c c.ah[d] h)) u)<=Z u+j:=by
     intro j;induction j with
     |zero=>grind
     |succ j ex=>
      by_cases P:j<Z p
      ·rw[jB P]
       have f8:=H7 (M:=c) (X:=(p.take j).foldl (λo h=>dp c o (iR c c.ah[d] h)) u) (c0:=iR c c.ah[d] p[j]);exact⟨Ij l.v.aV ex.1 (a9 _ (bs P)),by omega⟩
      grind[List.take_of_length_le]
    refine bB (z:=Nat×AV×List Obj) (λe=>e.2.1::I e.1::aP V c.ah[d]) (λe=>e.2.2) (λe=>Z p -e.1) (λe=>e.1<=Z p/\lN e.2.2 e.2.1 ((p.take e.1).foldl (λo h=>dp c o (iR c c.ah[d] h)) u)) (0,ce,M) ⟨by simp,by simpa using K⟩ ?_ (by simp[aP]) rfl;rintro⟨j,ha,fI⟩ ⟨P,U⟩ f2 bi;simp only at P U bi⊢;simp only[i,G,o4,qg,o5,o6,o7,o8,qh,o9,om,a8,A,Q,a,X];refine b (λr=>?_) (λr=>?_)
    ·have r:j<Z p:=by simpa using r
     have bw:=λfd w L=>bi (j+1,fd,w) ⟨r,L⟩ (by simp;omega);simp only[jB r]at bw;obtain⟨ax,f3⟩:=ds j;have W:=bs r;have O:=a4 _ W;simp only[aC r (Ma _ _),Q,Dc];have eq:=l.v.hG _ t;refine f (adY c c.ah[d] p[j] (d2 _ W).ok (by have:=(l.tq _ t).2.2.1;unfold Sm;omega) O.m (λY=>?_)) ?_
     ·obtain⟨o,f9,f4,gM,d0,f5,f6⟩:=eq.fn bb Y
      obtain⟨gN,R,d1⟩:=O.au _ (Ez O.zm (O.m (.inr Y)));rw[d0]at R;simp only[eK]at R;subst R;obtain⟨ci,gj,go⟩:=qo d1;grind
     ·have d3:=a9 _ W
      refine cY (Es c _ (iR c c.ah[d] p[j]) l.uT l.BC d3.zn (by omega) (dq.re l ax.ok) ax.fz U) (by simp[U.pl]) λb4 cs ac=>?_;rw[ba,Q];exact bw b4 cs ac.2
    ·have:j=Z p:=by simp at r;omega
     grind
 ·have:d=Z c.ah:=by simp at x;omega
  subst this;rw[dB]at K;rw[K.pl];exact K.res
end AM
namespace Law
variable{z:Type}{c6:Nat -> Int}{U O y:Nat}{b9 lq:Nat -> Bool}{eT:cO}
section
def dt(a:Nat->z)(c d:Nat):Nat->z:=λb=>if b=c then a d else if b=d then a c else a b
def eY(c:cO)(a b:Nat):Bool:=a==b||c a b&&c b a
theorem Iu:∀{b c:List Nat},b.Pairwise (· <·)->c.Pairwise (· <·)->(∀x,x∈b<->x∈c)->b=c
 |[],[],_,_,_=>rfl
 |[],d::c,_,_,a=>by have:=(a d).2 (by simp);cases this
 |x::b,[],_,_,a=>by have:=(a x).1 (by simp);cases this
 |x::b,d::c,e,f,a=>by
  rw[zU]at e f;have g:x=d:=by
   have h1:=(a x).1 (by simp);have i:=(a d).2 (by simp);rcases cf.1 h1 with h1|h1
   ·exact h1
   ·grind
  subst g
  congr 1
  refine Iu e.2 f.2 λj=>⟨λh=>?_,λh=>?_⟩
  ·grind
  grind
structure rf(n:Nat)(D:cO)(L:List (List Nat))(of:Nat->Nat):Prop where
 nM:∀a,a<n->of a<Z L
 mem:∀i(h:i<Z L) a,a∈L[i]<->a<n/\of a=i
 xK:∀a b,a<n->b<n->(of a=of b<->eY D a b=ab)
 fC:∀g∈L,g.Pairwise (· <·)
 ne:∀g∈L,g≠[]
variable{n:Nat}{D d:cO}{L:List (List Nat)}{of:Nat->Nat}
end
end Law
namespace AM
variable{N:List Obj}{Y:AV}{im:List (List Nat)}{bS:List (List AV)}{cA:Md}{U:Nat}{bu:List Nat}{fN:AV -> List Obj -> Prop}{b9:Nat -> Bool}{z:Type}{a2:z -> List AV}{o:List z}{O:Nat}{iX:Obj}{V F:Bool}
section
open Go.Law
variable{n:Nat}
def cG(g:List Nat):List AV:=[eS aa cN g]
@[simp] theorem aeO(g:List Nat):bO (cG g):=by simp[cG]
@[simp] theorem anj(a:Bool)(b:List (List Nat)):Im (eS a cG b):=kP aeO a b
@[simp] theorem EF(g:List Nat):Z (cG g)=1:=rfl
@[simp] theorem EG(g:List Nat):(cG g)[0]?=T (eS aa cN g):=rfl
end
inductive fZ
 |ty(t:aM)(k:Int)
 |eq(a b:aM)
def eZ(b:k->Int)(a:aM):Int:=if a.aB=[]then a.const.ty else b a.aB
def fZ.sat(a:k->Int):fZ->Prop
 |.ty e d=>eZ a e=d
 |.eq b c=>eZ a b=eZ a c
def kD(C:List fZ):Prop:=∃b,∀a∈C,a.sat b
variable{ly:List fZ}
theorem kD.mono{C:List fZ}(c:∀a∈C,a∈ly):kD ly->kD C:=λ⟨b,d⟩=>⟨b,by grind⟩
structure aA where
 ax:List k
 bb:List Int
 ok:Bool
def aA.look(a:aA)(c:k):Int:=match a.ax.findIdx? (λd=>d==c)with|some b=>a.bb.getD b 0|none=>0
def aA.of(b:aA)(a:aM):Int:=if a.aB=[]then a.const.ty else b.look a.aB
def aA.set(a:aA)(t:aM)(b:Int):aA:=
 if b=0 then a else if t.aB≠[]/\t.aB∉a.ax then⟨a.ax++[t.aB],a.bb++[b],a.ok⟩else{a with ok:=a.ok&&a.of t==b}
def aA.eql(a:aA)(b c:aM):aA:=(a.set b (a.of c)).set c ((a.set b (a.of c)).of b)
def aA.round(a:aA)(c:List (aM×aM)):aA:=c.foldl (λa b=>a.eql b.1 b.2) a
def aA.gX(a:aA)(c:List (aM×Int)):aA:=c.foldl (λa b=>a.set b.1 b.2) a
def aA.rounds(b:List (aM×aM)):Nat->aA->aA
 |0,a=>a
 |n+1,a=>aA.rounds b n (a.round b)
structure aA.Ok(s:aA):Prop where
 len:Z s.bb=Z s.ax
 nz:∀k∈s.bb,k≠0
variable{h:aA}{bH:k}
theorem Iw(a:bH∉h.ax):h.look bH=0:=by
 grind[aA.look]
theorem Ix(b:h.Ok)(g:bH∈h.ax):h.look bH≠0:=by
 unfold aA.look;cases c:h.ax.findIdx? (λf=>f==bH)with
 |none=>
  grind
 |some e=>
  have d:=(nW.1 c).1;have a:e<Z h.bb:=by rw[b.len];exact d
  simp only[oM,bC a,oK];exact b.nz _ (bs a)
theorem Iy(a:h.Ok):h.look bH≠0<->bH∈h.ax:=
 ⟨(by grind[Iw]),Ix a⟩
variable{x:List k}{lg:k}
theorem aeT:(x++[lg]).findIdx? (λa=>a==bH)=match x.findIdx? (λa=>a==bH)with|some b=>T b|none=>if lg==bH then T (Z x)else none:=by
 grind
variable{aU:Int}
theorem Iz(c:h.Ok)(g:lg∉h.ax):(aA.mk (h.ax++[lg]) (h.bb++[aU]) h.ok).look bH=if bH=lg then aU else h.look bH:=by
 unfold aA.look;simp only[aeT];cases e:h.ax.findIdx? (λj=>j==bH)with
 |some i=>
  obtain⟨a,b,-⟩:=nW.1 e;have f:bH≠lg:=by
   rintro rfl;simp only[beq_iff_eq]at b;exact g (b▸bs a)
  rw[if_neg f];have l:i<Z h.bb:=by rw[c.len];exact a
  grind
 |none=>
  by_cases d:bH=lg
  ·subst d
   simp only[beq_self_eq_true,if_true,oM];rw[<-c.len,FH (di _)];simp
  grind
structure aA.Le(s s':aA):Prop where
 ax:∀x∈s.ax,x∈s'.ax
 look:∀x∈s.ax,s'.look x=s.look x
 ok:s'.ok=ab->s.ok=ab
 len:Z s.ax<=Z s'.ax
theorem aA.Le.refl(b:aA):b.Le b:=⟨λ_ a=>a,λ_ _=>rfl,λa=>a,di _⟩
theorem aA.Le.trans{e f:aA}(b:h.Le e)(c:e.Le f):h.Le f:=
 ⟨λa d=>c.ax a (b.ax a d),λa d=>(c.look a (b.ax a d)).trans (b.look a d),λg=>b.ok (c.ok g),iU b.len c.len⟩
theorem aA.rh(a:h.Ok)(e:aM)(d:Int):(h.set e d).Ok/\h.Le (h.set e d):=by
 unfold aA.set;split
 ·exact⟨a,.refl h⟩
 ·rename_i g
  split
  ·rename_i b
   refine⟨⟨by simp[a.len],λf c=>?_⟩,by grind,λj i=>?_,λb=>b,by simp⟩
   ·rcases c5.1 c with c|c
    ·exact a.nz f c
    grind
   grind[Iz]
  ·exact⟨⟨a.len,a.nz⟩,λ_ b=>b,λ_ _=>rfl,by grind,di _⟩
variable{b3:aM}
theorem aA.of_le{a:aA}(b:h.Le a)(c:b3.aB=[]\/b3.aB∈h.ax):a.of b3=h.of b3:=by
 unfold aA.of;split
 ·rfl
 ·rename_i d
  exact b.look _ (c.resolve_left d)
theorem aA.aeU(d:h.Ok)(c:aU≠0)(a:(h.set b3 aU).ok=ab):(h.set b3 aU).of b3=aU/\(b3.aB=[]\/b3.aB∈(h.set b3 aU).ax):=by
 unfold aA.set at*;rw[if_neg c]at*;split
 ·rename_i b
  refine⟨?_,.inr (by simp)⟩;unfold aA.of;grind[Iz]
 ·rename_i b
  rw[if_neg b]at a;simp only[bG,beq_iff_eq]at a;refine⟨a.2,?_⟩;grind
theorem aA.IA(e:h.Ok)(a b:aM):(h.eql a b).Ok/\h.Le (h.eql a b):=by
 have c:=aA.rh e a (h.of b);have d:=aA.rh c.1 b ((h.set a (h.of b)).of a);exact⟨d.1,c.2.trans d.2⟩
theorem aA.wc:∀(b:List (aM×aM)){a:aA},a.Ok->(a.round b).Ok/\a.Le (a.round b)
 |[],a,c=>⟨c,.refl a⟩
 |x::b,a,c=>by
  have d:=aA.IA c x.1 x.2;have e:=aA.wc b d.1;exact⟨e.1,d.2.trans e.2⟩
theorem aA.xM:∀(b:List (aM×Int)){a:aA},a.Ok->(a.gX b).Ok/\a.Le (a.gX b)
 |[],a,c=>⟨c,.refl a⟩
 |x::b,a,c=>by
  have d:=aA.rh c x.1 x.2;have e:=aA.xM b d.1;exact⟨e.1,d.2.trans e.2⟩
theorem aA.EH{b:List (aM×aM)}:∀(n:Nat){a:aA},a.Ok->(aA.rounds b n a).Ok/\a.Le (aA.rounds b n a)
 |0,a,c=>⟨c,.refl a⟩
 |n+1,a,c=>by
  have d:=aA.wc b c;have e:=aA.EH (b:=b) n d.1;exact⟨e.1,d.2.trans e.2⟩
def aA.pn(a:aA)(c:k->Int):Prop:=∀b∈a.ax,a.look b=c b
variable{eR:k -> Int}
theorem aA.pn.of(c:h.Ok)(b:h.pn eR)(a:h.of b3≠0):h.of b3=eZ eR b3:=by
 unfold aA.of eZ at*;split
 ·rfl
 ·rename_i d
  rw[if_neg d]at a;exact b _ ((Iy c).1 a)
theorem aA.P7(i:h.Ok)(b:h.pn eR)(d:h.ok=ab)(c:eZ eR b3=aU):(h.set b3 aU).pn eR/\(h.set b3 aU).ok=true:=by
 unfold aA.set;split
 ·grind
 ·rename_i m
  split
  ·rename_i e
   refine⟨λj a=>?_,d⟩;rw[Iz i e.2];split
   ·grind[eZ]
   ·rename_i l
    rcases c5.1 a with a|a
    ·exact b j a
    grind
  ·rename_i e
   refine⟨b,?_⟩;simp only[d,cu,beq_iff_eq];by_cases f:b3.aB=[]
   ·grind[eZ,aA.of]
   ·have g:b3.aB∈h.ax:=by grind
    unfold eZ at c;unfold aA.of;rw[if_neg f]at*;rw[b _ g];exact c
theorem aA.P8(e:h.Ok)(b:h.pn eR)(d:h.ok=ab)(c:aU≠0->eZ eR b3=aU):(h.set b3 aU).pn eR/\(h.set b3 aU).ok=true:=by
 by_cases a:aU=0
 ·grind[aA.set]
 grind[aA.P7]
variable{pJ:aM}
theorem aA.aeV(c:h.Ok)(d:h.pn eR)(g:h.ok=ab)(e:eZ eR b3=eZ eR pJ):(h.eql b3 pJ).pn eR/\(h.eql b3 pJ).ok=true:=by
 have b:=aA.P8 c d g (b3:=b3) (aU:=h.of pJ) (λa=>by rw[e,d.of c a]);have f:=(aA.rh c b3 (h.of pJ)).1;exact aA.P8 f b.1 b.2 (λa=>by rw[<-e,b.1.of f a])
theorem aA.P9:∀(b:List (aM×aM)){a:aA},a.Ok->a.pn eR->a.ok=ab->(∀x∈b,eZ eR x.1=eZ eR x.2)->(a.round b).pn eR/\(a.round b).ok=ab
 |[],a,_,c,d,_=>⟨c,d⟩
 |x::b,a,g,c,d,f=>by
  have e:=aA.aeV g c d (f x (by simp));exact aA.P9 b (aA.IA g x.1 x.2).1 e.1 e.2 λi h=>f i (by simp[h])
theorem aA.Qa:∀(b:List (aM×Int)){a:aA},a.Ok->a.pn eR->a.ok=ab->(∀x∈b,eZ eR x.1=x.2)->(a.gX b).pn eR/\(a.gX b).ok=ab
 |[],a,_,c,d,_=>⟨c,d⟩
 |x::b,a,g,c,d,f=>by
  have e:=aA.P7 g c d (f x (by simp));exact aA.Qa b (aA.rh g x.1 x.2).1 e.1 e.2 λi h=>f i (by simp[h])
theorem aA.Qb{b:List (aM×aM)}(f:∀h∈b,eZ eR h.1=eZ eR h.2):∀(n:Nat){a:aA},a.Ok->a.pn eR->a.ok=ab->(aA.rounds b n a).pn eR/\(aA.rounds b n a).ok=ab
 |0,a,_,c,d=>⟨c,d⟩
 |n+1,a,g,c,d=>by
  have e:=aA.P9 b g c d f;exact aA.Qb f n (aA.wc b g).1 e.1 e.2
def aA.both(a:aA)(b:aM×aM):Bool:=a.of b.1 !=0&&a.of b.2 !=0
def aA.kn(b:aA)(a:List (aM×aM)):Nat:=Z (a.filter b.both)
theorem aA.zq{a:aA}(e:h.Ok)(c:h.Le a)(d:h.of b3≠0):a.of b3=h.of b3:=by
 refine aA.of_le c ?_;by_cases b:b3.aB=[]
 ·exact .inl b
 simp_all[aA.of,Iy]
theorem aA.IB{a:aA}(e:h.Ok)(d:h.Le a){b:aM×aM}(c:h.both b=ab):a.both b=true:=by
 simp only[aA.both,bG,bne_iff_ne,ne_eq]at c⊢;grind[aA.zq]
variable{dG:z -> Bool}
theorem Qc{b:z->Bool}(c:∀x,dG x=ab->b x=ab):∀a:List z,Z (a.filter dG)<=Z (a.filter b)
 |[]=>di _
 |x::a=>by
  have d:=Qc c a;grind
theorem Qd{d:z->Bool}(e:∀x,dG x=ab->d x=ab):∀{a:List z}{b:z},b∈a->d b=ab->dG b=aa->Z (a.filter dG)<Z (a.filter d)
 |x::a,b,c,g,f=>by
  simp only[Co];rcases cf.1 c with rfl|c
  ·have:=Qc e a
   grind
  ·have h:=Qd e c g f
   grind
theorem aA.Qe:Z (h.set b3 aU).ax=Z h.ax\/(aU≠0/\b3.aB≠[]/\b3.aB∉h.ax):=by
 grind[aA.set]
theorem aA.Qf(a:h.Ok)(c:aU≠0)(b:b3.aB≠[]):(h.set b3 aU).of b3≠0:=by
 unfold aA.of;rw[if_neg b];refine Ix (aA.rh a b3 aU).1 ?_;grind[aA.set]
theorem aA.aeW(j:h.Ok)(b a:aM):Z (h.eql b a).ax=Z h.ax\/(h.both (b,a)=aa/\(h.eql b a).both (b,a)=ab):=by
 have c:=aA.rh j b (h.of a);have i:=aA.rh c.1 a ((h.set b (h.of a)).of b);rcases aA.Qe (h:=h) (b3:=b) (aU:=h.of a)with m|⟨d,g,l⟩
 ·rcases aA.Qe (h:=h.set b (h.of a)) (b3:=a) (aU:=(h.set b (h.of a)).of b)with n|⟨d,g,l⟩
  ·exact .inl (n.trans m)
  ·refine .inr ⟨?_,?_⟩
   ·have:h.of a=0:=by
     unfold aA.of;rw[if_neg g];exact Iw λo=>l (c.2.ax _ o)
    simp[aA.both,this]
   ·have e:(h.eql b a).of b≠0:=by
     rw[aA.eql,aA.zq c.1 i.2 d];exact d
    have f:=aA.Qf c.1 (b3:=a) d g;simp only[aA.both,bG,bne_iff_ne,ne_eq];exact⟨e,f⟩
 ·refine .inr ⟨?_,?_⟩
  ·simp_all[aA.of,Iw,aA.both]
  ·have e:=aA.Qf j (b3:=b) d g
   have f:(h.set b (h.of a)).of a≠0:=by rw[aA.zq j c.2 d];exact d
   simp only[aA.both,bG,bne_iff_ne,ne_eq];exact⟨by rw[aA.eql,aA.zq c.1 i.2 e];exact e,by rw[aA.eql,aA.zq c.1 i.2 f];exact f⟩
theorem aA.Qg:∀(b:List (aM×aM)){a:aA},a.Ok->Z (a.round b).ax≠Z a.ax->∃x∈b,a.both x=aa/\(a.round b).both x=ab
 |[],a,_,d=>absurd rfl d
 |x::b,a,e,d=>by
  have c:=aA.IA e x.1 x.2;have k:=aA.wc b c.1;rcases aA.aeW e x.1 x.2 with h|⟨i,j⟩
  ·obtain⟨g,m,f,n⟩:=aA.Qg b c.1 (by rw[h];exact d)
   refine⟨g,by simp[m],?_,n⟩;cases l:a.both g with
   |false=>rfl
   |true=>rw[aA.IB e c.2 l]at f;cases f
  ·exact⟨x,by simp,i,aA.IB c.1 k.2 j⟩
theorem aA.aeX{a:List (aM×aM)}(e:h.Ok)(b:Z (h.round a).ax≠Z h.ax):h.kn a<(h.round a).kn a:=by
 obtain⟨g,f,c,d⟩:=aA.Qg a e b;exact Qd (by grind[aA.IB,aA.wc]) f d c
theorem aA.still{b:List (aM×aM)}:∀(n:Nat){a:aA},a.Ok->Z b<a.kn b+n->(aA.rounds b n a).ok=ab->∃c:aA,c.Ok/\a.Le c/\Z (c.round b).ax=Z c.ax/\(c.round b).ok=ab
 |0,a,_,h,_=>by
  have:a.kn b<=Z b:=vh _ _;omega
 |n+1,a,e,h,g=>by
  have d:=aA.wc b e;by_cases f:Z (a.round b).ax=Z a.ax
  ·exact⟨a,e,.refl a,f,(aA.EH n d.1).2.ok g⟩
  ·have:=aA.aeX e f
   obtain⟨c,i,j,k⟩:=aA.still n d.1 (by omega) g;exact⟨c,i,d.2.trans j,k⟩
theorem aA.aeY(c:h.Ok)(a:Z (h.set b3 aU).ax=Z h.ax)(b:(h.set b3 aU).ok=ab):aU≠0->h.of b3=aU:=by
 grind[aA.set]
theorem aA.IC(b:Z (h.set b3 aU).ax=Z h.ax):∀a:aM,(h.set b3 aU).of a=h.of a:=by
 intro a;unfold aA.set at b⊢;split
 ·rfl
 ·rename_i c
  rw[if_neg c]at b;split
  ·grind
  ·rfl
theorem aA.Qh:∀(b:List (aM×aM)){a:aA},a.Ok->Z (a.round b).ax=Z a.ax->(a.round b).ok=ab->∀f∈b,a.of f.1=a.of f.2
 |[],_,_,_,_=>by simp
 |y::b,a,m,l,d=>by
  have g:=aA.rh m y.1 (a.of y.2);have c:=aA.rh g.1 y.2 ((a.set y.1 (a.of y.2)).of y.1);have h:=aA.wc b c.1;have e0:a.round (y::b)=(((a.set y.1 (a.of y.2)).set y.2 ((a.set y.1 (a.of y.2)).of y.1))).round b:=rfl;rw[e0]at l d;have o:=g.2.len;have p:=c.2.len;have q:=h.2.len;have j:Z (a.set y.1 (a.of y.2)).ax=Z a.ax:=by omega
  have k:Z ((a.set y.1 (a.of y.2)).set y.2 ((a.set y.1 (a.of y.2)).of y.1)).ax=Z (a.set y.1 (a.of y.2)).ax:=by omega
  have n:=h.2.ok d;have r:=c.2.ok n;have hyp:=aA.Qh b c.1 (by omega) d;have s:∀e,((a.set y.1 (a.of y.2)).set y.2 ((a.set y.1 (a.of y.2)).of y.1)).of e=a.of e:=λe=>by rw[aA.IC k,aA.IC j]
  intro f i;rcases cf.1 i with rfl|i
  ·grind[aA.aeY,aA.IC]
  grind
theorem aA.Qi:∀(b:List (aM×Int)){c:aA},c.Ok->(c.gX b).ok=ab->(∀a∈b,a.2≠0)->∀a∈b,(c.gX b).of a.1=a.2/\(c.gX b).of a.1≠0
 |[],_,_,_,_=>by simp
 |y::b,c,j,i,k=>by
  have f:=aA.rh j y.1 y.2;have g:=aA.xM b f.1;intro a d;rcases cf.1 d with rfl|d
  ·have h:=k a (by simp)
   have:=aA.aeU j h (g.2.ok i);have e:(c.gX (a::b)).of a.1=a.2:=by
    show((c.set a.1 a.2).gX b).of a.1=_;rw[aA.of_le g.2 this.2];exact this.1
   exact⟨e,by rw[e];exact h⟩
  ·exact aA.Qi b f.1 i (λm l=>k m (by simp[l])) a d
def we(b:List (aM×Int))(c:List (aM×aM)):List fZ:=b.map (λa=>.ty a.1 a.2)++c.map λa=>.eq a.1 a.2
theorem aeZ{d:List (aM×Int)}{f:List (aM×aM)}(E:Z f<U)(y:∀a∈d,a.2≠0)(o:∀a∈f,(a.1.aB=[]->a.1.const.ty≠0)/\(a.2.aB=[]->a.2.const.ty≠0)):
 (aA.rounds f U (aA.gX ⟨[],[],ab⟩ d)).ok=ab<->kD (we d f):=by
 have j:(aA.mk [] [] ab).Ok:=⟨rfl,by simp⟩;have i:=aA.xM d j;constructor
 ·intro m
  obtain⟨b,w,t,u,v⟩:=aA.still U i.1 (by omega) m;have x:=aA.Qh f w u v;have s:=aA.Qi d j ((aA.EH U i.1).2.ok m) y;refine⟨λa=>if a∈b.ax then b.look a else 1,λz p=>?_⟩;have F:∀c:aM,b.of c≠0->eZ (λa=>if a∈b.ax then b.look a else 1) c=b.of c:=by
   intro c g;unfold eZ aA.of at*;split
   ·rfl
   ·simp_all[Iy]
  rcases c5.1 p with h|h
  ·obtain⟨a,e,rfl⟩:=du.1 h
   obtain⟨B,n⟩:=s a e;have C:=aA.zq i.1 t n;show eZ _ a.1=a.2;grind
  ·obtain⟨a,e,rfl⟩:=du.1 h
   have A:=x a e;show eZ _ a.1=eZ _ a.2;by_cases H:b.of a.1=0
   ·have G:∀c:aM,(c.aB=[]->c.const.ty≠0)->b.of c=0->eZ (λa=>if a∈b.ax then b.look a else 1) c=1:=by
     intro c o g;unfold aA.of at g;unfold eZ;split at g
     ·grind
     ·grind[Ix]
    grind
   grind
 ·rintro⟨k,g⟩
  have q:∀a∈d,eZ k a.1=a.2:=λa e=>g (.ty a.1 a.2) (c5.2 (by grind));have r:∀a∈f,eZ k a.1=eZ k a.2:=λa e=>g (.eq a.1 a.2) (c5.2 (by grind));have l:=aA.Qa d j (by intro a e;cases e) rfl q;exact(aA.Qb r U i.1 l.1 l.2).2
inductive Rt(az:Nat->Nat):Nat->Nat->Nat->Prop
 |stop (i:Nat) (h:az i=i):Rt az 0 i i
 |up (n i r:Nat) (h:az i≠i) (t:Rt az n (az i) r):Rt az (n+1) i r
variable{y:Nat}
theorem Rt.root{az:Nat->Nat}(a:Rt az U O y):az y=y:=by
 induction a with
 |stop _ a=>exact a
 |up _ _ _ _ _ b=>exact b
def bK(b:Nat->z)(c:Nat)(d:z):Nat->z:=λa=>if a=c then d else b a
structure hJ(V:List k)(C:List fZ)(az:Nat->Nat)(ty:Nat->Int):Prop where
 nd:V.Nodup
 nb:∀x∈V,x≠[]
 lt:∀i,i<Z V->az i<Z V
 rt:∀i,i<Z V->∃n r,Rt az n i r
 wg:∀i,i<Z V->0<=ty i
 uW:∀τ:k->Int,(∀c∈C,c.sat τ)<->(∀i(h:i<Z V),τ V[i]=τ (V[az i]'(lt i h)))/\∀i(h:i<Z V),az i=i->ty i≠0->τ V[i]=ty i
variable{c6:Nat -> Int}
theorem hJ.xN{C:List fZ}{az:Nat->Nat}(b:hJ x C az c6)(c:Rt az U O y)(a:O<Z x):y<Z x:=by
 induction c with
 |stop=>exact a
 |up U O y _ _ d=>exact d (b.lt O a)
theorem hJ.ri{C:List fZ}{az:Nat->Nat}(b:hJ x C az c6)(d:∀O(a:O<Z x),eR x[O]=eR (x[az O]'(b.lt O a)))(c:Rt az U O y)(a:O<Z x):eR x[O]=eR (x[y]'(b.xN c a)):=by
 induction c with
 |stop=>rfl
 |up U O y _ f e=>grind
theorem Rt.fn{az:Nat->Nat}(b:Rt az U O y):∀{d a:Nat},Rt az d O a->y=a:=by
 induction b with
 |stop O b=>intro d a c;cases c with
  |stop=>rfl
  |up _ _ _ e=>omega
 |up U O y b h f=>intro d a c;cases c with
  |stop _ e=>omega
  |up _ _ _ _ g=>exact f g
theorem hJ.sat{C:List fZ}{az:Nat->Nat}(b:hJ x C az c6):kD C:=by
 refine⟨λj=>if g:j∈x then
  (if c6 (b.rt (x.idxOf j) (by grind)).choose_spec.choose≠0 then c6 (b.rt (x.idxOf j) (by grind)).choose_spec.choose else 1)else 1,?_⟩
 rw[b.uW];have key:∀a(c:a<Z x){h d:Nat},Rt az h a d->(if g:x[a]∈x then
  (if c6 (b.rt (x.idxOf x[a]) (by grind)).choose_spec.choose≠0 then c6 (b.rt (x.idxOf x[a]) (by grind)).choose_spec.choose else 1)else 1)=if c6 d≠0 then c6 d else 1:=by
  intro a c h d e;have g:x[a]∈x:=bs c;rw[dif_pos g];have o:x.idxOf x[a]=a:=by
   have:=b.nd;exact(by grind)
  have p:=(b.rt (x.idxOf x[a]) (ala g)).choose_spec.choose_spec;have f:(b.rt (x.idxOf x[a]) (by omega)).choose_spec.choose=d:=by
   have m:Rt az h (x.idxOf x[a]) d:=by rw[o];exact e
   exact p.fn m
  rw[f]
 refine⟨λa c=>?_,λa c n t=>?_⟩
 ·obtain⟨h,d,e⟩:=b.rt a c
  obtain⟨q,l,i⟩:=b.rt (az a) (b.lt a c);have r:=key a c e;have s:=key (az a) (b.lt a c) i;have:d=l:=by
   by_cases f:az a=a
   ·exact e.fn (f▸i)
   ·exact e.fn (.up q a l f i)
  grind
 ·have:=key a c (.stop a n)
  omega
variable{pH:fZ}
theorem su{C:List fZ}:(∀a∈C++[pH],a.sat eR)<->(∀a∈C,a.sat eR)/\pH.sat eR:=by
 grind
theorem hJ.set{C:List fZ}{az:Nat->Nat}(a:hJ x C az c6){t:aM}(w:0<aU)(e:U<Z x)(u:t.aB=x[U])(b:Rt az O U y):
 (c6 y=0->hJ x (C++[.ty t aU]) az (bK c6 y aU))/\(c6 y=aU->hJ x (C++[.ty t aU]) az c6)/\(c6 y≠0->c6 y≠aU->¬kD (C++[.ty t aU])):=by
 have z:t.aB≠[]:=by rw[u];exact a.nb _ (bs e)
 have l:=a.xN b e;have m:∀d,fZ.sat d (.ty t aU)<->d x[U]=aU:=by
  intro d;show eZ d t=aU<->_;unfold eZ;grind
 refine⟨λv=>⟨a.nd,a.nb,a.lt,a.rt,λn j=>?_,λd=>?_⟩,λi=>⟨a.nd,a.nb,a.lt,a.rt,a.wg,λd=>?_⟩,λi r=>?_⟩
 ·unfold bK;split
  ·omega
  ·exact a.wg n j
 ·rw[su,a.uW,m]
  constructor
  ·rintro⟨⟨c,g⟩,h⟩
   refine⟨c,λn j s o=>?_⟩;unfold bK at o⊢;split
   ·rename_i q;subst q
    rw[<-a.ri c b e];exact h
   grind
  ·rintro⟨c,g⟩
   refine⟨⟨c,λn j s o=>?_⟩,?_⟩
   ·grind[bK]
   ·rw[a.ri c b e]
    have:=g y l b.root (by grind[bK]);grind[bK]
 ·rw[su,a.uW,m]
  refine⟨λf=>f.1,λf=>⟨f,?_⟩⟩;rw[a.ri f.1 b e,f.2 y l b.root (by omega),i]
 ·rintro⟨d,p⟩
  rw[su,a.uW,m]at p;obtain⟨⟨c,g⟩,h⟩:=p;rw[a.ri c b e,g y l b.root i]at h;exact r h
variable{c2 jW:Nat}
theorem Rt.link{az:Nat->Nat}(e:az U=U)(i:az O=O)(h:U≠O)(a:Rt az y c2 jW):∃b,Rt (bK az U O) b c2 (if jW=U then O else jW):=by
 induction a with
 |stop c2 a=>
  by_cases c:c2=U
  ·subst c
   rw[if_pos rfl];have d:bK az c2 O c2=O:=by simp[bK]
   refine⟨1,.up 0 c2 O (by omega) ?_⟩;rw[d];exact .stop O (by grind[bK])
  ·rw[if_neg c]
   exact⟨0,.stop c2 (by grind[bK])⟩
 |up y c2 jW a k g=>
  obtain⟨b,j⟩:=g;have f:c2≠U:=by rintro rfl;exact a e
  have d:bK az U O c2=az c2:=by unfold bK;rw[if_neg f]
  exact⟨b+1,.up b c2 _ (by omega) (by grind)⟩
theorem hJ.same{C:List fZ}{az:Nat->Nat}(a:hJ x C az c6){c:Nat}(j:U<Z x)(l:O<Z x)(K:b3.aB=x[U])(L:pJ.aB=x[O])(f:Rt az y U jW)(h:Rt az c2 O c):
 (c6 jW≠0->c6 c≠0->c6 jW≠c6 c->¬kD (C++[.eq b3 pJ]))/\((c6 jW=0\/c6 c=0\/c6 jW=c6 c)->hJ x (C++[.eq b3 pJ]) (bK az jW c) (bK c6 c (max (c6 jW) (c6 c)))):=by
 have Q:b3.aB≠[]:=by rw[K];exact a.nb _ (bs j)
 have R:pJ.aB≠[]:=by rw[L];exact a.nb _ (bs l)
 have q:=a.xN f j;have r:=a.xN h l;have u:∀e,fZ.sat e (.eq b3 pJ)<->e x[U]=e x[O]:=by
  intro e;show eZ e b3=eZ e pJ<->_;unfold eZ;grind
 refine⟨λH I J=>?_,λN=>?_⟩
 ·rintro⟨e,B⟩
  rw[su,a.uW,u]at B;obtain⟨⟨b,m⟩,s⟩:=B;rw[a.ri b f j,a.ri b h l,m jW q f.root H,m c r h.root I]at s;exact J s
 ·have W:=a.wg jW q
  have X:=a.wg c r;by_cases n:jW=c
  ·subst n
   have E:bK az jW jW=az:=by
    funext b;unfold bK;split
    ·rename_i g;subst g;exact f.root.symm
    ·rfl
   have F:bK c6 jW (max (c6 jW) (c6 jW))=c6:=by
    funext b;unfold bK;split
    ·rename_i g;subst g;omega
    ·rfl
   rw[E,F];refine⟨a.nd,a.nb,a.lt,a.rt,a.wg,λe=>?_⟩;rw[su,a.uW,u];refine⟨λb=>b.1,λb=>⟨b,?_⟩⟩;rw[a.ri b.1 f j,a.ri b.1 h l]
  ·have M:∀b,b<Z x->bK az jW c b<Z x:=by
    intro b g;unfold bK;split
    ·exact r
    ·exact a.lt b g
   have A:∀b,b≠jW->bK az jW c b=az b:=by grind[bK]
   have z:bK az jW c jW=c:=by simp[bK]
   refine⟨a.nd,a.nb,M,λb g=>?_,λb g=>?_,λe=>?_⟩
   ·obtain⟨S,d,i⟩:=a.rt b g
    obtain⟨V,P⟩:=i.link f.root h.root n;grind
   ·unfold bK;split
    ·omega
    ·exact a.wg b g
   ·rw[su,a.uW,u]
    constructor
    ·rintro⟨⟨b,m⟩,s⟩
     have w:e x[jW]=e x[c]:=by rw[<-a.ri b f j,<-a.ri b h l];exact s
     refine⟨λd i=>?_,λd i o p=>?_⟩
     ·by_cases eq:d=jW
      ·grind
      grind
     ·have eq:d≠jW:=by
       rintro rfl;rw[z]at o;exact n o.symm
      rw[A d eq]at o;unfold bK at p⊢;split
      ·rename_i t;subst t
       by_cases Y:c6 d=0
       ·rw[if_pos rfl]at p
        have:c6 jW≠0:=by omega
        rw[<-w,m jW q f.root this];omega
       grind
      grind
    ·rintro⟨b,m⟩
     have w:e x[jW]=e x[c]:=by
      have:=b jW q;simp only[z]at this;exact this
     have v:∀d(i:d<Z x),e x[d]=e (x[az d]'(a.lt d i)):=by
      intro d i;by_cases eq:d=jW
      ·subst eq
       simp only[f.root]
      ·grind
     have ac:max (c6 jW) (c6 c)≠0->e x[c]=max (c6 jW) (c6 c):=λp=>by
      have:=m c r (by rw[A c (λt=>n t.symm)];exact h.root) (by grind[bK]);grind[bK]
     refine⟨⟨v,λd i o p=>?_⟩,?_⟩
     ·by_cases eq:d=jW
      ·subst eq
       omega
      ·by_cases G:d=c
       ·subst G
        omega
       grind[bK]
     ·rw[a.ri v f j,a.ri v h l];exact w
theorem hJ.start(d:x.Nodup)(b:∀f∈x,f≠[]){az:Nat->Nat}(c:∀a,a<Z x->az a=a)(g:∀a,a<Z x->c6 a=0):hJ x [] az c6:=by
 refine⟨d,b,by grind,λa e=>⟨0,a,.stop a (c a e)⟩,by grind,λh=>?_⟩;grind
def dz(a:aj)(b:k):Int:=bN (λc:bM=>c.ar==b) a.m
def g8(a:aj)(b:k):Int:=bN (λc:Fn=>c.ar==b) a.aW
def ei(a:aj)(b:k):Int:=bN (λc:cD=>c.ar==b) a.d
def bT(a:List k)(b:k):Int:=bN (λc=>c==b) a
def fe(b:bM)(a:Fn):List Int:=b.au.map λc=>bT b.au (a.dst.getD (bT a.src c).toNat [])
def e9(c:bM)(a:Fn):Bool:=
 ((List.range (Z a.src)).all λb=>S (0<=bT c.au (a.src.getD b []))&&S (0<=bT c.au (a.dst.getD b [])))&&
 ((List.range (Z a.src)).all λb=>bT a.src (a.src.getD b [])==(b:Int))&&
 (c.au.all λd=>S (0<=bT a.src d))&&pb c (fe c a)
def oy(c:aj)(a:Nat):Bool:=match c.m[a]? with|some b=>eu b==0&&dz c b.ar==(a:Int)|none=>ab
def oz(a:aj)(c:Nat):Bool:=match a.aW[c]? with|some b=>(match a.m[(dz a b.aV).toNat]? with|some d=>S (0<=dz a b.aV)&&e9 d b|none=>aa)&&g8 a b.ar==(c:Int)|none=>ab
def ts(a:aj)(c:Nat):Bool:=match a.d[c]? with|some b=>(b.aV==[]||S (0<=dz a b.aV))&&ei a b.ar==(c:Int)|none=>ab
def po(a:aj):Bool:=(List.range (Z a.m)).all (oy a)&&(List.range (Z a.aW)).all (oz a)&&(List.range (Z a.d)).all (ts a)
def eQ(b:aj)(a:Fn):Fn:={a with of:=dz b a.aV,gM:=match b.m[(dz b a.aV).toNat]? with|some c=>if 0<=dz b a.aV/\e9 c a=ab then fe c a else[]|none=>[]}
def en(b:aj)(a:cD):cD:={a with of:=if a.aV=[]then -1 else dz b a.aV}
def dT(a:aj)(b:List aG):aj:=⟨a.m,a.aW.map (eQ a),a.d.map (en a),b⟩
def tu(e:cD)(d:List aM)(a:Nat):Bool:=match d[a]?,e.bb[a]? with|some b,T c=> !(b.aB==[])||b.const.ty==c|_,_=>ab
def mf(b:cD)(a:List aM):Bool:=(Z a:Int)==Z b.bb&&(List.range (Z a)).all (tu b a)
def e1(b:aj)(c:cD)(d:k):Int:=match b.m[c.of.toNat]? with|some a=>bT a.au d|none=> -1
def fU(b:aj)(a:aG):Bool:=
 a.ar==[]||(match b.d[(ei b a.ar).toNat]? with
  |none=>aa
  |some c=>S (0<=ei b a.ar)&& !c.fI&&mf c a.ad&&((a.af.ak==0)==S (c.of<0))&&
   (!(a.af.ak==1)||S (0<=e1 b c a.af.ar))&&
   (!(a.af.ak==3)||(S (0<=g8 b a.af.ar)&&(match b.aW[(g8 b a.af.ar).toNat]? with|some e=>e.of==c.of|none=>aa))))
def oA(b:aj)(a:aG):Int:=
 if a.ar=[]then -1 else if a.af.ak=1 then(match b.d[(ei b a.ar).toNat]? with|some c=>e1 b c a.af.ar|none=> -1)else if a.af.ak=3 then g8 b a.af.ar else -1
def kE(b:aj)(a:aG):Int:=if a.ar=[]then -1 else ei b a.ar
def gH(c:aj)(b:Lit):Bool:=
 if b.ak=5 then(match b.ad with|a::f::_=> !(a.aB==[]&&f.aB==[]&&a.const.ty !=f.const.ty)|_=>ab)
 else match c.d[(ei c b.ar).toNat]? with
  |none=>aa
  |some e=>S (0<=ei c b.ar)&&mf e b.ad&& !(S (e.of<0)&&(!(b.bind==[])||(b.ak==3||b.ak==4)))&&
   (!(b.ak==3||b.ak==4)||(S (0<=e1 c e b.af)&&(match c.m[e.of.toNat]? with|some g=>e1 c e b.af !=fy g []|none=>aa)))
def mg(b:aj)(a:Lit):Int:=if a.ak=5 then -1 else ei b a.ar
def xO(b:aj)(a:Lit):Int:=if a.ak=3\/a.ak=4 then(match b.d[(ei b a.ar).toNat]? with|some c=>e1 b c a.af|none=> -1)else -1
def g9(b:aj)(a:Lit):Lit:={a with aq:=mg b a,gN:=xO b a}
def eH(b:aj)(a:aG):aG:={a with aq:=kE b a,af:={a.af with aQ:=oA b a},ae:=a.ae.map (g9 b)}
def mL(b:aj)(c:Int)(a:List aM):List (aM×Int):=match b.d[c.toNat]? with|some e=>a.zip e.bb|none=>[]
def BE(b:aj)(a:aG):List (aM×Int):=if 0<=a.aq then mL b a.aq a.ad else[]
def iS(b:aj)(a:Lit):List (aM×Int):=if 0<=a.aq then mL b a.aq a.ad else[]
def rj(b:Lit):List (aM×aM):=if b.ak=5 then(match b.ad with|a::c::_=>[(a,c)]|_=>[])else[]
def wi(a:aj)(b:aG)(c:Nat):List (aM×Int):=BE a b++((b.ae.take c).map (iS a)).flatten
def wj(b:aG)(a:Nat):List (aM×aM):=((b.ae.take a).map rj).flatten
def wk(b:aj)(a:aG):Prop:=kD (we (wi b a (Z a.ae)) (wj a (Z a.ae)))
def hK(a:aj)(b:Int):Int:=match a.d[b.toNat]? with|some c=>c.of|none=> -1
def lO(c:aj)(a:aG):List Lit->Bool->Option Bool
 |[],b=>T b
 |l::d,b=>if l.bind=[]then lO c a d b else
  if(b|| !S (l.bind=a.af.aB)||S (l.bind∈e7 a)||hK c l.aq !=hK c a.aq)=ab then D else lO c a d ab
def rk(c:aj)(a:aG):Bool:=match lO c a a.ae aa with|none=>aa|some b=>a.af.aB==[]||b
def tv(b:aj)(a:aG):Prop:=Z (e7 a)<=12/\wk b a/\rk b a=ab
def ka(a:aj)(b:aG):Prop:=fU a b=ab/\b.ae.all (gH a)=ab/\tv a (eH a b)
def nN(a:aj):Prop:=p8 a=ab/\po a=ab/\(∀b∈a.ah,ka (dT a []) b)/\a=dT a (a.ah.map (eH (dT a [])))
open Classical in
noncomputable def iH(a:aj):Bool:=S (nN a)
open Go.Law
variable{pK:cD}{mW:List aM}
theorem Qj(a:U<Z mW)(b:U<Z pK.bb):tu pK mW U=(!(mW[U].aB==[])||mW[U].const.ty==pK.bb[U]):=by
 grind[tu]
theorem Qk(d:cD)(c:List aM)(q:Sm c):∃e:Int,PR C 289 [.agg (bF V d),eS F cT c] (I e)/\(e=0<->mf d c=ab):=by
 have key:∃o k,C 289 [.agg (bF V d),eS F cT c] [] o k/\∃e:Int,aI k .res o (I e)/\(e=0<->mf d c=ab):=by
  refine XI.hq ?_;simp only[Df,Q,a8,a6,aH,ue,aJ,cd];refine b (λg=>?_) (λg=>?_)
  ·refine⟨71,ig rfl,?_⟩
   have:((Z c:Int)==Z d.bb)=false:=by
    simp only[bne_iff_ne,ne_eq]at g;simpa using g
   simp[mf,this]
  ·have r:Z c=Z d.bb:=by
    simp only[bne_eq_false_iff_eq]at g;omega
   have s:mf d c=(List.range (Z c)).all (tu d c):=by
    have:((Z c:Int)==Z d.bb)=true:=by simp[r]
    rw[mf,this,cu]
   rw[s];refine et (U:=Z c) (c:=λf=>[I 0,I f]) (λf=>(List.range f).all (tu d c)=ab) (by simp) rfl (λf h n p v=>?_) (λn p=>?_)
   ·have l:f<Z d.bb:=by omega
    have u:=Qj (pK:=d) h l;simp only[i,G,A,Q,a,h,decide_true,aC h (h8 _),a6,aH,nn,AL,aJ,fo,fF,aC l (g4 _),j4,cd];refine a7 (eh (N:=[]) (!tu d c f) (λw m=>aZ (λj=>kB m ?_) (λj=>kB m ?_)) ?_)
    ·grind
    ·grind
    ·simp only[G]
     refine c8 (λj=>⟨72,ig rfl,?_⟩) (λj=>?_)
     ·grind
     ·rw[q.inc h,Q]
      grind
   ·simp only[i,G,A,Q,a,ca,decide_false]
    exact bq ⟨0,ig rfl,by simp[n]⟩
 grind[Dp]
def kZ(c:List Obj)(d:AV)(id:Nat)(a:List (Int×Int)):Prop:=∃b,d=.q id b 0 (Z a)/\c[id]?=T (.arr b 2 (a.map bX))
def k0(a:List (Int×Int))(b c:Int):List (Int×Int):=if b=0\/20<=Z a then a else a++[(b,c)]
def rn(id:Nat)(c d:List Obj):Prop:=∀(a:Nat)(b:Obj),a≠id->c[a]?=T b->d[a]?=T b
theorem rn.refl(id:Nat)(a:List Obj):rn id a a:=λ_ _ _ b=>b
variable{ey:List Obj}
theorem rn.trans{id:Nat}{a:List Obj}(f:rn id N ey)(g:rn id ey a):rn id N a:=λc d b e=>g c d b (f c d b e)
variable{gC:List (Int × Int)}
theorem kZ.pl{id:Nat}(a:kZ N Y id gC):Y.pl=Y:=by obtain⟨g,rfl,-⟩:=a;rfl
theorem kZ.lt{id:Nat}(a:kZ N Y id gC):id<Z N:=by
 obtain⟨g,-,a⟩:=a;grind
theorem kZ.ln{id:Nat}(b:kZ N Y id gC)(a:List Obj):fX .sl Y a=T (I (Z gC)):=by obtain⟨g,rfl,-⟩:=b;rfl
theorem kZ.res{id:Nat}(a:kZ N Y id gC):aI N .res Y (eS aa bX gC):=by
 obtain⟨g,rfl,a⟩:=a;simp_all[fx]
theorem xP{id:Nat}(a:List (Int×Int))(c d:Int)(k:kZ N Y id a):HR C 158 [Y,I c,I d] N (λu h=>kZ h u id (k0 a c d)/\rn id N h):=by
 have q:=k.lt;obtain⟨f,rfl,o⟩:=k;refine Ye.hq ?_;simp only[eA,dZ,nj,Q,c9,gF];have j:(N++[Obj.arr 0 2 []])[id]?=T (.arr f 2 (a.map bX)):=by rw[lU q];exact o
 have n:rn id N (N++[Obj.arr 0 2 []]):=λg l _ e=>hT.app _ _ g l e;refine eh (N:=N++[.arr 0 2 []]) (c==0||S (20<=(Z a:Int))) (λg p=>dx (by grind) (by grind)) ?_;simp only[G];refine b (λe=>?_) (λe=>?_)
 ·have:k0 a c d=a:=by
   rw[k0,if_pos];simp only[kg,beq_iff_eq,decide_eq_true_eq]at e;omega
  rw[this];exact⟨⟨f,rfl,j⟩,n⟩
 ·have r:¬(c=0\/20<=Z a):=by
   simp only[Kw,beq_eq_false_iff_ne,ne_eq,decide_eq_false_iff_not]at e;omega
  have:k0 a c d=a++[(c,d)]:=by rw[k0,if_neg r]
  rw[this];simp only[uE,Q,vW];have m:aY (N++[Obj.arr 0 2 []]) id 2 bX f a=N++[Obj.arr 0 2 []]:=by
   obtain⟨s,t⟩:=e6.1 j;simp only[aY];rw[<-t];exact zY s
  have i:=mE (N:=N++[Obj.arr 0 2 []]) (id:=id) (U:=2) (bytes:=16) (O:=f) (a2:=bX) (o:=a) (c,d) (by simp;omega) rfl (by omega);rw[m]at i;refine bj i ⟨⟨f+1,rfl,by grind[oo]⟩,λg l p e=>?_⟩;grind[aY]
def gY(a:aA):List Obj:=if Z a.ax=0 then[.arr 0 3 [[.ai,.ai,.bool a.ok]]]else[.arr 0 3 [[.q 1 (Z a.ax -1) 0 (Z a.ax),.q 2 (Z a.ax -1) 0 (Z a.ax),.bool a.ok]],.arr (Z a.ax -1) 1 (a.ax.map cS),.arr (Z a.ax -1) 1 (a.bb.map cI)]
def xQ(a:aA):List AV:=[eS ab cS a.ax,eS ab cI a.bb,.bool a.ok]
theorem ID(e:h.Ok):aI (gY h) .cm (.ptr 0 0 0 0) (.aK ab (xQ h) 0):=by
 have d:=e.len;unfold gY;split
 ·rename_i a
  have b:h.ax=[]:=by grind
  have c:h.bb=[]:=by grind
  rw[xQ,b,c];exact .pV 0 0 0 0 3 _ _ _ rfl rfl (.ck (.ai _ _) (.ck (.ai _ _) (.ck (.bool _ _) (.nil _))))
 ·rename_i a
  refine .pV 0 0 0 0 3 _ _ _ rfl rfl (.ck (l7 rfl (by simp)) (.ck ?_ (.ck (.bool _ _) (.nil _))));rw[<-d];exact l7 rfl (by simp)
theorem IE(a:aM)(m:Sm h.ax)(o:Z h.bb=Z h.ax):PR C 321 [.aK ab (xQ h) 0,.agg (cT a)] (I (h.of a)):=by
 refine W3.pr ?_;simp only[ud,Q,a6,aH,nn,AL,aJ,fo,fF];have n:∀i,hP (.aK ab (xQ h) 0) i=T (.aK ab (xQ h) 0):=λ_=>rfl;have j:(xQ h)[0]?=T (eS ab cS h.ax):=rfl;have k:(xQ h)[1]?=T (eS ab cI h.bb):=rfl;rw[aA.of];refine b (λl=>?_) (λl=>?_)
 ·simp_all
 ·rw[if_neg (by grind)]
  simp only[n,Q,a6,aH,aJ,j,k];refine f (nw h.ax a.aB m) ?_;simp only[A,Q];rw[aA.look];cases d:h.ax.findIdx? (λc=>c==a.aB)with
  |none=>
   have:bN (λc=>c==a.aB) h.ax= -1:=by rw[bN,d]
   rw[this];exact a7 (ig rfl)
  |some g=>
   have:bN (λc=>c==a.aB) h.ax=(g:Int):=by rw[bN,d]
   rw[this];have e:g<Z h.bb:=by
    have:=(nW.1 d).1;omega
   refine bq ?_ (by simp);simp only[aC e (g4 _),Q,aH,j4];refine ig ?_;rw[oM,bC e]<;>rfl
theorem EI(a:aM)(d:Int)(s:h.Ok)(W:Z h.ax<1000000000):C 320 [.ptr 0 0 0 0,.agg (cT a),I d] (gY h) (.aE []) (gY (h.set a d)):=by
 have j:=s.len;refine XM.hr ?_;simp only[ud,Q,a6,aH,nn,aJ,c9,ib];obtain⟨v0,v1,z⟩:∃v0 v1,(gY h)[0]?=T (.arr 0 3 [[v0,v1,.bool h.ok]])/\aI (gY h) .cm v0 (eS ab cS h.ax)/\v0.pl=v0:=by
  unfold gY;split
  ·rename_i i
   have e:h.ax=[]:=by grind
   rw[e];exact⟨.ai,.ai,rfl,.ai _ _,rfl⟩
  ·exact⟨_,_,rfl,l7 rfl (by simp),rfl⟩
 obtain⟨c,K,J⟩:=z;have m:hP (.ptr 0 0 0 0) (gY h)=T (.ptr 0 0 0 0):=by simp[hP,dw,c]
 have t:aR 1 aa (.ptr 0 0 0 0) (gY h)=T v0:=by rw[cr c rfl]<;>rfl
 have O:aR 1 aa (.ptr 0 0 0 2) (gY h)=T (.bool h.ok):=by rw[cr c rfl]<;>rfl
 rw[m,Q,oq c,Q,t,Q];refine ea _ (nw h.ax a.aB (by grind[Sm])) (.ck (by rw[J];exact K) (.ck (.str _ _) (.nil _))) (.int _ _) ?_;rw[aA.set];refine b (λi=>?_) (λi=>?_)
 ·grind
 ·have E:d≠0:=by simpa using i
  rw[if_neg E];have X:(S (bN (λU=>U==a.aB) h.ax<0))= !S (a.aB∈h.ax):=DW;refine eh (N:=gY h) (!(a.aB==[])&& !S (a.aB∈h.ax)) (λac F=>aZ (λe=>kB F (by grind)) (by grind)) ?_;simp only[G];refine b (λe=>?_) (λe=>?_)
  ·simp only[bG,jt,beq_eq_false_iff_ne,ne_eq,decide_eq_false_iff_not]at e
   rw[if_pos e];simp only[m,Q,oq c,t,xt,Bi,aJ];by_cases r:Z h.ax=0
   ·have M:h.ax=[]:=by grind
    have L:h.bb=[]:=by grind
    have f:gY h=[.arr 0 3 [[.ai,.ai,.bool h.ok]]]:=by unfold gY;rw[if_pos r]
    have l:v0=.ai:=by rw[f]at c;simp at c;exact c.1.symm
    subst l;have k:gY ⟨h.ax++[a.aB],h.bb++[d],h.ok⟩=[.arr 0 3 [[.q 1 0 0 1,.q 2 0 0 1,.bool h.ok]],.arr 0 1 [cS a.aB],.arr 0 1 [cI d]]:=by
     rw[M,L]<;>rfl
    rw[k,f];exact⟨trivial,rfl⟩
   ·have f:gY h=[.arr 0 3 [[.q 1 (Z h.ax -1) 0 (Z h.ax),.q 2 (Z h.ax -1) 0 (Z h.ax),.bool h.ok]],.arr (Z h.ax -1) 1 (h.ax.map cS),.arr (Z h.ax -1) 1 (h.bb.map cI)]:=by unfold gY;rw[if_neg r]
    have l:v0=.q 1 (Z h.ax -1) 0 (Z h.ax):=by rw[f]at c;simp at c;exact c.1.symm
    subst l;have k:gY ⟨h.ax++[a.aB],h.bb++[d],h.ok⟩=[.arr 0 3 [[.q 1 (Z h.ax) 0 (Z h.ax+1),.q 2 (Z h.ax) 0 (Z h.ax+1),.bool h.ok]],.arr (Z h.ax) 1 ((h.ax++[a.aB]).map cS),.arr (Z h.ax) 1 ((h.bb++[d]).map cI)]:=by
     unfold gY;simp
    rw[k,f];have A:(Z h.ax+1)*16<=2^47:=by omega
    have B:(Z h.bb+1)*8<=2^47:=by omega
    have o:=mE (N:=[.arr 0 3 [[.q 1 (Z h.ax -1) 0 (Z h.ax),.q 2 (Z h.ax -1) 0 (Z h.ax),.bool h.ok]],.arr (Z h.ax -1) 1 (h.ax.map cS),.arr (Z h.ax -1) 1 (h.bb.map cI)]) (id:=1) (U:=1) (bytes:=16) (O:=Z h.ax -1) (a2:=cS) (o:=h.ax) a.aB (by simp) rfl A
    have w:aY [.arr 0 3 [[.q 1 (Z h.ax -1) 0 (Z h.ax),.q 2 (Z h.ax -1) 0 (Z h.ax),.bool h.ok]],.arr (Z h.ax -1) 1 (h.ax.map cS),.arr (Z h.ax -1) 1 (h.bb.map cI)] 1 1 cS (Z h.ax -1) h.ax=[.arr 0 3 [[.q 1 (Z h.ax -1) 0 (Z h.ax),.q 2 (Z h.ax -1) 0 (Z h.ax),.bool h.ok]],.arr (Z h.ax -1) 1 (h.ax.map cS),.arr (Z h.ax -1) 1 (h.bb.map cI)]:=rfl;rw[w]at o;refine bj o ?_
    rw[show Z h.ax -1+1=Z h.ax by omega];refine aD rfl (aD rfl (aD (dD:=[.arr 0 3 [[.q 1 (Z h.ax) 0 (Z (h.ax++[a.aB])),.q 2 (Z h.ax -1) 0 (Z h.ax),.bool h.ok]],.arr (Z h.ax) 1 ((h.ax++[a.aB]).map cS),.arr (Z h.ax -1) 1 (h.bb.map cI)]) rfl (aD rfl (aD rfl (aD (dD:=.q 2 (Z h.ax -1) 0 (Z h.ax)) rfl ?_)))))
    have p:=mE (N:=[.arr 0 3 [[.q 1 (Z h.ax) 0 (Z (h.ax++[a.aB])),.q 2 (Z h.ax -1) 0 (Z h.ax),.bool h.ok]],.arr (Z h.ax) 1 ((h.ax++[a.aB]).map cS),.arr (Z h.ax -1) 1 (h.bb.map cI)]) (id:=2) (U:=1) (bytes:=8) (O:=Z h.ax -1) (a2:=cI) (o:=h.bb) d (by simp) rfl B;rw[j]at p;refine bj p ?_;rw[show Z h.ax -1+1=Z h.ax by omega];refine aD rfl (aD rfl (aD rfl ⟨trivial,?_⟩));simp[aY,eV,j]
  ·have H:¬(a.aB≠[]/\a.aB∉h.ax):=by
    rintro⟨g,v⟩;simp[g,v]at e
   rw[if_neg H];simp only[m,Q,oq c,O,aJ];have P:∀n:Bool,df 1 (.ptr 0 0 0 2) (.bool n) (gY h)=T (gY {h with ok:=n}):=by
    intro n;unfold gY;split<;>rfl
   cases Y:h.ok with
   |true=>
    simp only[fE,if_true,ji,Q,cu];refine ea _ (IE (h:=h) a (by grind[Sm]) j) (.ck (ID s) (.ck cy (.nil _))) (.int _ _) ?_;simp only[c9,Q,P];simp
   |false=>
    simp_all
def lP(c:aj)(a:Int)(b:List aM):List (aM×Int):=if 0<=a then mL c a b else[]
def kF(a:List Lit):List (aM×aM):=(a.map rj).flatten
def Ql(b:aj)(a:List Lit):List (aM×Int):=(a.map (iS b)).flatten
def qA:aA:=⟨[],[],ab⟩
def zr(b:aj)(c:Int)(d:List aM)(a:List Lit):Bool:=(aA.rounds (kF a) (Z a+1) (aA.gX qA (lP b c d++Ql b a))).ok
theorem aA.IF(a:aA)(c:aM)(b:Int):Z (a.set c b).ax<=Z a.ax+1:=by
 grind[aA.set]
theorem aA.BF:∀(b:List (aM×Int))(a:aA),Z (a.gX b).ax<=Z a.ax+Z b
 |[],a=>by simp[aA.gX]
 |x::b,a=>by
  have d:=aA.IF a x.1 x.2;have e:=aA.BF b (a.set x.1 x.2);grind[aA.gX]
theorem aA.ae0(a:aA)(b c:aM):Z (a.eql b c).ax<=Z a.ax+2:=by
 grind[aA.IF,of,aA.eql]
theorem aA.IG:∀(b:List (aM×aM))(a:aA),Z (a.round b).ax<=Z a.ax+2*Z b
 |[],a=>by simp[aA.round]
 |x::b,a=>by
  have c:=aA.ae0 a x.1 x.2;have d:=aA.IG b (a.eql x.1 x.2);grind[round]
theorem aA.Qm(b:List (aM×aM)):∀(n:Nat)(a:aA),Z (aA.rounds b n a).ax<=Z a.ax+n*(2*Z b)
 |0,a=>by simp[aA.rounds]
 |n+1,a=>by
  have c:=aA.IG b a;have d:=aA.Qm b n (a.round b);grind[aA.rounds]
theorem aA.rounds_succ(a:List (aM×aM)):∀(n:Nat)(b:aA),aA.rounds a (n+1) b=(aA.rounds a n b).round a
 |0,b=>rfl
 |n+1,b=>by
  have c:=aA.rounds_succ a n (b.round a);grind[aA.rounds]
theorem EJ:∀(a:List Lit),Z (kF a)<=Z a
 |[]=>by simp[kF]
 |l::a=>by
  have:=EJ a;grind[rj,kF]
variable{cn:Type}{pI:z -> List cn}
theorem IH(a:U<Z o):((o.take (U+1)).map pI).flatten=((o.take U).map pI).flatten++pI o[U]:=by
 grind[List.take_succ_eq_append_getElem,List.flatten_append,List.flatten_cons,List.flatten_nil]
def EK(b:aj)(c:Int)(e:List aM):Prop:=0<=c->∃a:Nat,∃f:a<Z b.d,c=a/\Z e<=Z b.d[a].bb
variable{M:aj}
theorem Qn(b:U<Z M.d)(f:Z mW<=Z M.d[U].bb):Z (mL M (U:Int) mW)=Z mW/\∀a(c:a<Z mW)(e:a<Z (mL M (U:Int) mW)),(mL M (U:Int) mW)[a]=(mW[a],M.d[U].bb[a]'(by omega)):=by
 grind[mL]
variable{bp b2 ed:Bool}
theorem ae1(f:aj)(j:Int)(h:List aM)(c:List Lit)(fI:Z h<=100)(rc:Z c<=100)(ci:∀k∈c,Z k.ad<=100)(es:EK f j h)(ex:∀k∈c,EK f k.aq k.ad)(d7:∀k∈c,k.ak=5->Z k.ad=2):
 PR C 290 [.agg (cP V F f),I j,eS bp cT h,eS b2 (a5 ed) c] (.bool (zr f j h c)):=by
 refine WZ.pr ?_;simp only[dS,Q];refine aD (dD:=[.ai,.ai,tt]) rfl (bj (dD:=.ptr 0 0 0 0) (b:=gY qA) rfl ?_);have b4:qA.Ok:=⟨rfl,by simp[qA]⟩;refine bB (z:=Nat) (λn=>[I n]) (λn=>gY (qA.gX ((lP f j h).take n))) (λn=>Z h -n) (λn=>n<=Z h) 0 (by simp) ?_ rfl (by simp[aA.gX]);intro n ro pm f8;have f2:=(aA.xM ((lP f j h).take n) b4).1;have f0:=aA.BF ((lP f j h).take n) qA;rw[gb]at f0
 have s0:Z qA.ax=0:=rfl;simp only[bo,a8,Q,G,A,gF,a];have ar:qA.gX ((lP f j h).take n)=qA.gX (lP f j h)->iC (λN ce II=>
 bd (aS .s .lss (g N 0) (I (Z c))) λgj=>
 dY gj (
 iC (λac z Hv=>
 jn (λkq=>
 bd (bY 9 (eS b2 (a5 ed) c) (g N 0) z) λgo=>
 bd (dw 3 go z) λgt=>
 bd (aR 1 aa gt z) λgM=>
 bd (fX .sl gM z) λgN=>
 bd (aS .s .lss (g ac 0) gN) λha=>
 gd ha ab (
 bd (bY 9 (eS b2 (a5 ed) c) (g N 0) z) λhe=>
 bd (dw 2 he z) λhg=>
 bd (aR 1 aa hg z) λhh=>
 bd (aS .s .geq hh (I 0)) λhj=>
 kq [hj] z) (
 kq [ff] z)) λd5 l=>
 dY (g d5 0) (
 bd (bY 9 (eS b2 (a5 ed) c) (g N 0) l) λhl=>
 bd (dw 3 hl l) λhm=>
 bd (aR 1 aa hm l) λhn=>
 bd (bY 4 hn (g ac 0) l) λho=>
 bd (aR 4 ab ho l) λhs=>
 bd (dw 2 (.aK aa (cP V F f) 0) l) λhu=>
 bd (aR 1 aa hu l) λhw=>
 bd (bY 9 (eS b2 (a5 ed) c) (g N 0) l) λh3=>
 bd (dw 2 h3 l) λh4=>
 bd (aR 1 aa h4 l) λid=>
 bd (bY 7 hw id l) λii=>
 bd (dw 1 ii l) λio=>
 bd (aR 1 aa io l) λip=>
 bd (bY 1 ip (g ac 0) l) λit=>
 bd (aR 1 aa it l) λi0=>
 ch C 320 [.ptr 0 0 0 0,hs,i0] l λs2 d8=>
 bd (aS .s .add (g ac 0) (I 1)) λi1=>
 Hv [i1] d8) (
 bd (aS .s .add (g N 0) (I 1)) λbi=>
 II [bi] l)) [(I 0)] ce) (
 iC (λbv X IJ=>
 bd (aS .s .leq (g bv 0) (I (Z c))) λi2=>
 dY i2 (
 iC (λE m d0=>
 bd (aS .s .lss (g E 0) (I (Z c))) λi3=>
 dY i3 (
 bd (bY 9 (eS b2 (a5 ed) c) (g E 0) m) λi4=>
 bd (dw 0 i4 m) λi5=>
 bd (aR 1 aa i5 m) λi6=>
 bd (aS .s .eql i6 (I 5)) λi7=>
 dY i7 (
 bd (bY 9 (eS b2 (a5 ed) c) (g E 0) m) λi8=>
 bd (dw 3 i8 m) λi9=>
 bd (aR 1 aa i9 m) λjp=>
 bd (bY 4 jp (I 0) m) λke=>
 bd (aR 4 ab ke m) λkl=>
 bd (bY 9 (eS b2 (a5 ed) c) (g E 0) m) λkw=>
 bd (dw 3 kw m) λkx=>
 bd (aR 1 aa kx m) λlc=>
 bd (bY 4 lc (I 1) m) λle=>
 bd (aR 4 ab le m) λli=>
 cp C 321 [.ptr 0 0 0 0,li] m λlm=>
 ch C 320 [.ptr 0 0 0 0,kl,lm] m λty t=>
 bd (bY 9 (eS b2 (a5 ed) c) (g E 0) t) λls=>
 bd (dw 3 ls t) λlt=>
 bd (aR 1 aa lt t) λlw=>
 bd (bY 4 lw (I 1) t) λl0=>
 bd (aR 4 ab l0 t) λmd=>
 bd (bY 9 (eS b2 (a5 ed) c) (g E 0) t) λmk=>
 bd (dw 3 mk t) λmp=>
 bd (aR 1 aa mp t) λms=>
 bd (bY 4 ms (I 0) t) λmt=>
 bd (aR 4 ab mt t) λne=>
 cp C 321 [.ptr 0 0 0 0,ne] t λnl=>
 ch C 320 [.ptr 0 0 0 0,md,nl] t λt0 d9=>
 bd (aS .s .add (g E 0) (I 1)) λbr=>
 d0 [br] d9) (
 bd (aS .s .add (g E 0) (I 1)) λbr=>
 d0 [br] m)) (
 bd (aS .s .add (g bv 0) (I 1)) λol=>
 IJ [ol] m)) [(I 0)] X) (
 bd (hP (.ptr 0 0 0 0) X) λop=>
 bd (dw 2 op X) λos=>
 bd (aR 1 aa os X) λpi=>
 aI X .res (AV.pl pi) (.bool (zr f j h c)))) [(I 0)] ce)) [(I 0)] (gY (qA.gX ((lP f j h).take n))):=by
  intro em;rw[em];have rd:Z (lP f j h)<=Z h:=by
   unfold lP;split
   ·unfold mL;split
    ·rw[alb];omega
    ·simp
   ·simp
  have fd:∀e,e<=Z c->Z ((c.take e).map (iS f)).flatten<=e*100:=by
   intro e;induction e with
   |zero=>simp
   |succ e ge=>
    intro ae;have co:e<Z c:=ae;have:=ge (by omega);rw[IH co,fb,qK];have ps:=ci _ (bs co);have W:Z (iS f c[e])<=100:=by
     unfold iS;split
     ·unfold mL;split
      ·rw[alb];omega
      ·simp
     ·simp
    omega
  generalize aB:qA.gX (lP f j h)=w;have el:w.Ok:=aB▸(aA.xM (lP f j h) b4).1;have pu:Z w.ax<=100:=by
   have:=aA.BF (lP f j h) qA;rw[aB]at this;omega
  refine bB (z:=Nat) (λe=>[I e]) (λe=>gY (w.gX ((c.take e).map (iS f)).flatten)) (λe=>Z c -e) (λe=>e<=Z c) 0 (by simp) ?_ rfl (by simp[aA.gX]);intro e ae d1 f9;simp only[Q,G,A,a];have fs:=fd e ae;have rt:e*100<=100*100:=k9 _ (by omega);have f1:=aA.BF ((c.take e).map (iS f)).flatten w;have a9:=(aA.xM ((c.take e).map (iS f)).flatten el).1;refine b (λy=>?_) (λy=>?_)
  ·have y:e<Z c:=by simpa using y
   have P:=f9 (e+1) y (by omega);rw[IH y,aA.gX,vj]at P;have e0:((c.take e).map (iS f)).flatten.foldl (λB k=>B.set k.1 k.2) w=w.gX ((c.take e).map (iS f)).flatten:=rfl;rw[e0]at P;generalize w.gX ((c.take e).map (iS f)).flatten=x at*;have d6:(iS f c[e]).foldl (λB k=>B.set k.1 k.2) x=x.gX (iS f c[e]):=rfl;rw[d6]at P;have qr:=ci _ (bs y);have e2:=ex _ (bs y)
   refine bB (z:=Nat) (λp=>[I p]) (λp=>gY (x.gX ((iS f c[e]).take p))) (λp=>Z c[e].ad -p) (λp=>p<=Z c[e].ad) 0 (by simp) ?_ rfl (by simp[aA.gX]);intro p rs d2 ah;simp only[bo,aC y (h9 _ _),Q,a6,aH,uf,oc,aJ,a8,G,A,gF,a];have cs:=aA.BF ((iS f c[e]).take p) x;rw[gb]at cs;have dl:=(aA.xM ((iS f c[e]).take p) a9).1;by_cases v:0<=c[e].aq
   ·obtain⟨K,Y,O,a3⟩:=e2 v
    have J:iS f c[e]=mL f (K:Int) c[e].ad:=by
     unfold iS;rw[if_pos v,O]
    obtain⟨d3,d4⟩:=Qn Y a3;rw[J]at P ah cs dl⊢;have L:S (0<=c[e].aq)=true:=by simpa using v
    rw[L];refine aZ (λi=>?_) (λi=>?_)
    ·have i:p<Z c[e].ad:=by simpa using i
     have a0:p<Z f.d[K].bb:=by omega
     refine a7 ?_;simp only[aC i (h8 _),Q,ji,iy,O,aC Y (hD _ _),a6,aH,ue,aJ,aC a0 (g4 _),j4];refine oZ _ (EI c[e].ad[p] _ dl (by omega)) ?_;rw[ba,Q];have bf:=ah (p+1) i (by omega);simp_all[mL,hX,aA.gX,vj]
    ·have i:p=Z c[e].ad:=by simp at i;omega
     refine bq ?_;rw[ba,Q];grind
   ·have J:iS f c[e]=[]:=by unfold iS;rw[if_neg v]
    rw[J]at P;simp only[J,TL];have L:S (0<=c[e].aq)=false:=by simpa using v
    rw[L];have bw:bd (aS .s .add (I e) (I 1)) λbi=>d1 [bi] (gY (x.gX [])):=by
     rw[ba,Q];exact P
    refine aZ (λi=>?_) (λi=>?_)
    ·exact bq bw
    ·exact bq bw
  ·have:e=Z c:=by simp at y;omega
   subst this;rw[dB]at a9 f1 fs⊢;have f4:zr f j h c=(aA.rounds (kF c) (Z c+1) (w.gX (c.map (iS f)).flatten)).ok:=by
    rw[zr,aA.gX,vj];have:(lP f j h).foldl (λB k=>B.set k.1 k.2) qA=w:=aB;rw[this]<;>rfl
   rw[f4];generalize w.gX (c.map (iS f)).flatten=x at*;have rg:=EJ c;refine bB (z:=Nat) (λo=>[I o]) (λo=>gY (aA.rounds (kF c) o x)) (λo=>Z c+1 -o) (λo=>o<=Z c+1) 0 (by simp) ?_;intro o st d2 ah;have sp:=aA.Qm (kF c) o x;have sz:o*(2*Z (kF c))<=101*200:=Nat.mul_le_mul (by omega) (by omega);have f3:=(aA.EH (b:=kF c) o a9).1;simp only[Q,G,jN];refine b (λW=>?_) (λW=>?_)
   ·have W:o<=Z c:=by simp at W;omega
    have bf:=ah (o+1) (by omega) (by omega);rw[aA.rounds_succ]at bf;generalize aA.rounds (kF c) o x=u at*;refine bB (z:=Nat) (λe=>[I e]) (λe=>gY (u.round (kF (c.take e)))) (λe=>Z c -e) (λe=>e<=Z c) 0 (by simp) ?_ rfl (by simp[aA.round,kF]);intro e ae pp gc;have rx:=aA.IG (kF (c.take e)) u;have eq:=EJ (c.take e);rw[gb]at eq;have af:=(aA.wc (kF (c.take e)) f3).1;simp only[Q,G,A,a]
    refine b (λi=>?_) (λi=>?_)
    ·have i:e<Z c:=by simpa using i
     have R:=gc (e+1) i (by omega);have f5:kF (c.take (e+1))=kF (c.take e)++rj c[e]:=IH i;rw[f5,aA.round,vj]at R;have e0:(kF (c.take e)).foldl (λB k=>B.eql k.1 k.2) u=u.round (kF (c.take e)):=rfl;rw[e0]at R;generalize u.round (kF (c.take e))=M at*;simp only[aC i (h9 _ _),Q,a6,aH,oY,oc,aJ,c9];refine b (λH=>?_) (λH=>?_)
     ·have H:c[e].ak=5:=by simpa using H
      obtain⟨q,r,ds⟩:∃q r,c[e].ad=[q,r]:=by
       have:=d7 _ (bs i) H
       match fI:c[e].ad,this with
       |[q,r],_=>grind
      have a4:rj c[e]=[(q,r)]:=by unfold rj;rw[if_pos H,ds]
      rw[a4]at R;have f6:∀U:List Obj,bY 4 (eS ed cT [q,r]) (I 0) U=T (.aK ed (cT q) 0):=λU=>aC (o:=[q,r]) (U:=0) (by simp) rfl;have f7:∀U:List Obj,bY 4 (eS ed cT [q,r]) (I 1) U=T (.aK ed (cT r) 0):=λU=>aC (o:=[q,r]) (U:=1) (by simp) rfl;rw[ds];simp only[f6,f7,Q,ji];refine ea _ (IE (h:=M) r (by unfold Sm;omega) af.len) (.ck (ID af) (.ck cy (.nil _))) (.int _ _) ?_
      refine oZ _ (EI q _ af (by omega)) ?_;have be:=(aA.rh af q (M.of r)).1;have r0:=aA.IF M q (M.of r);refine ea _ (IE (h:=M.set q (M.of r)) q (by unfold Sm;omega) be.len) (.ck (ID be) (.ck cy (.nil _))) (.int _ _) ?_;refine oZ _ (EI r _ be (by omega)) ?_;rw[ba,Q];exact R
     ·have H:¬c[e].ak=5:=by simpa using H
      have a4:rj c[e]=[]:=by unfold rj;rw[if_neg H]
      rw[a4]at R;rw[ba,Q];exact R
    ·have:e=Z c:=by simp at i;omega
     subst this;rw[ba,Q,dB];exact bf
   ·have:o=Z c+1:=by simp at W;omega
    subst this;generalize aA.rounds (kF c) (Z c+1) x=u at*;have fn:∃v0 v1,(gY u)[0]?=T (.arr 0 3 [[v0,v1,.bool u.ok]]):=by
     unfold gY;split
     ·simp
     ·simp
    obtain⟨v0,v1,aQ⟩:=fn;have gi:hP (.ptr 0 0 0 0) (gY u)=T (.ptr 0 0 0 0):=by simp[hP,dw,aQ]
    have gh:aR 1 aa (.ptr 0 0 0 2) (gY u)=T (.bool u.ok):=by rw[cr aQ rfl]<;>rfl
    rw[gi,Q,oq aQ,Q,gh,Q];simp
 simp only[bo]at ar;by_cases v:0<=j
 ·obtain⟨K,Y,O,a3⟩:=es v
  have J:lP f j h=mL f (K:Int) h:=by unfold lP;rw[if_pos v,O]
  obtain⟨d3,d4⟩:=Qn Y a3;have L:S (0<=j)=true:=by simpa using v
  rw[L];refine aZ (λi=>?_) (λi=>?_)
  ·have i:n<Z h:=by simpa using i
   have a0:n<Z f.d[K].bb:=by omega
   refine a7 ?_;simp only[aC i (h8 _),Q,ji,a6,aH,iy,aJ,O,aC Y (hD _ _),ue,aC a0 (g4 _),j4];rw[<-O];refine oZ _ (EI h[n] _ f2 (by omega)) ?_;rw[ba,Q];have s1:=f8 (n+1) i (by omega);simp_all[mL,hX,aA.gX,vj]
  ·have i:n=Z h:=by simp at i;omega
   refine bq ?_;exact ar (by grind)
 ·have J:lP f j h=[]:=by unfold lP;rw[if_neg v]
  have L:S (0<=j)=false:=by simpa using v
  rw[L];refine aZ (λi=>?_) (λi=>?_)
  ·exact bq (ar (by rw[J,TL]))
  ·exact bq (ar (by rw[J,TL]))
variable{hv:AV -> Prop}
theorem Qo{args:List AV}(d:∃c b,C U args [] c b/\∃a,aI b .res c a/\hv a):∃a,PR C U args a/\hv a:=by
 grind[Dp]
variable{pE:List Obj -> (AV -> List Obj -> Prop) -> Prop}
variable{bg:List AV}{fp:Prop}
theorem aF.ex{args:List AV}{b:List In}(d:aF U args O b bg)(g:fp)(f:args.map AV.pl=args:=by rfl)(e:cz (λh c=>∃a,aI c .res h a/\hv a) 999 (dc 999 O b).1 bg [] []=fp:=by conv=>(lhs;(conv=>arg 3;cbv);simp only[cz,hZ,Int.reduceOfNat])):∃a,PR C U args a/\hv a:=Qo (d.hq g f e)
def gZ(a:aG)(b c:Int):aG:=⟨a.ar,b,a.ad,⟨a.af.ak,a.af.ar,a.af.aB,c⟩,a.ae,a.bf⟩
def rp(b:aj)(a:aG):aG:=gZ a (kE b a) (oA b a)
theorem ae2(a:aG)(b c:Int):dh 9 (.agg [.str a.ar,I b,eS V cT a.ad,I a.af.ak,.str a.af.ar,.str a.af.aB,I c,eS V (a5 V) a.ae,I a.bf])=T (aP V (gZ a b c)):=gS rfl rfl
theorem ry(a:Int):lX (I a)=T (I a):=rfl
def Qp(f:Bool)(b:aj)(a:aG)(h:AV):Prop:=∃c d,h=.aE [.agg (aP f c),I d]/\(d=0<->fU b a=ab)/\(fU b a=ab->c=rp b a)/\∃e g,c=gZ a e g
theorem ae3(c:aj)(a:aG)(L:dW c)(a9:Sm a.ad)(a0:kz c):∃y,PR C 236 [.agg (cP V F c),.agg (aP bp a)] y/\Qp bp c a y:=by
 refine WM.ex ?_;simp only[dS,uc,Q,ry,o4,o5,o6,o7,o8,o9,om,fF,fQ]
 have E:∀(l x r:Int),(r=0<->fU c a=ab)->(fU c a=ab->gZ a l x=rp c a)->∀N:List Obj,bd (dh 9 (.agg [.str a.ar,I l,eS bp cT a.ad,I a.af.ak,.str a.af.ar,.str a.af.aB,I x,eS bp (a5 bp) a.ae,I a.bf])) λp=>∃y,aI N .res (.aE [(AV.pl (.agg [(g p 0),(g p 1),(g p 2),(g p 3),(g p 4),(g p 5),(g p 6),(g p 7),(g p 8)])),(AV.pl (I r))]) y/\Qp bp c a y:=by
  intro l x r q v N;rw[ae2,Q];exact⟨.aE [.agg (aP bp (gZ a l x)),I r],cy,_,_,rfl,q,v,l,x,rfl⟩
 refine b (λh=>?_) (λh=>?_)
 ·have h:a.ar=[]:=by simpa using h
  exact E _ _ _ (by simp[fU,h]) (λ_=>by simp[rp,kE,oA,h]) _
 ·have O:a.ar≠[]:=by simpa using h
  have j:fU c a=(match c.d[(ei c a.ar).toNat]? with
   |none=>aa
   |some e=>S (0<=ei c a.ar)&& !e.fI&&mf e a.ad&&((a.af.ak==0)==S (e.of<0))&&
    (!(a.af.ak==1)||S (0<=e1 c e a.af.ar))&&
    (!(a.af.ak==3)||(S (0<=g8 c a.af.ar)&&(match c.aW[(g8 c a.af.ar).toNat]? with|some U=>U.of==e.of|none=>aa)))):=by
   rw[fU,h,kh]<;>rfl
  refine f (Hu c a.ar L) ?_;have a3:bN (λo:cD=>o.ar==a.ar) c.d=ei c a.ar:=rfl;rw[a3];simp only[ry,Q,A];refine b (λq=>?_) (λq=>?_)
  ·have q:ei c a.ar<0:=by simpa using q
   have s:fU c a=false:=by
    rw[j];split
    ·rfl
    ·have:S (0<=ei c a.ar)=false:=by simp;omega
     simp[this]
   exact E _ _ _ (by simp[s]) (λh=>by rw[s]at h;cases h) _
  ·have q:0<=ei c a.ar:=by simpa using q
   obtain⟨l,B,H⟩:∃l:Nat,ei c a.ar=l/\l<Z c.d:=by
    grind[nH]
   rw[B]at j q;simp only[ej,bC H]at j;rw[B];simp only[a6,Q,aH,oe,sT,iy,aJ,aC H (hD _ _),ub,vD,qa,qb,qc,q2,qd,qe,qf];generalize a4:c.d[l]=e at*;have ce:e.of<Z c.m:=a0 e (by grind);have W:S ((0:Int)<=(l:Int))=true:=by simp
   rw[W,cu]at j;refine b (λv=>?_) (λv=>?_)
   ·have s:fU c a=false:=by rw[j,v]<;>rfl
    simp_all
   ·rw[v,mR,cu]at j
    obtain⟨r,ac,ah⟩:=Qk (V:=V) (F:=bp) e a.ad a9;have Y:(AV.agg [.str e.ar,eS V cI e.bb,.str e.aV,I e.of,.bool e.fI,I e.e2,I e.bf])=.agg (bF V e):=rfl;rw[Y];refine f ac ?_;simp only[cd,Q];refine b (λt=>?_) (λt=>?_)
    ·have t:r≠0:=by simpa using t
     simp_all
    ·have t:r=0:=by simpa using t
     rw[ah.1 t,cu]at j;simp only[c9,A,Q,GN];refine c8 (λz=>?_) (λz=>?_)
     ·have s:fU c a=false:=by rw[j,z]<;>rfl
      simp_all
     ·rw[z,cu]at j
      have aQ:(a.af.ak=0)<->e.of<0:=by
       have:=z;rw[beq_iff_eq]at this;constructor
       ·intro J;rw[J]at this;simpa using this.symm
       ·intro J
        have n:S (e.of<0)=true:=by simpa using J
        rw[n]at this;simpa using this
      have ci:kE c a=l:=by rw[kE,if_neg O,B]
      have bw:oA c a=if a.af.ak=1 then e1 c e a.af.ar else if a.af.ak=3 then g8 c a.af.ar else -1:=by
       rw[oA,if_neg O,B];simp only[ej,bC H,a4]
      rw[bo];refine b (λn=>?_) (λn=>?_)
      ·have n:a.af.ak=1:=by simpa using n
       have b4:0<=e.of:=by
        rcases Cr e.of 0 with h|h
        ·have:=aQ.2 h;omega
        ·exact h
       obtain⟨u,P⟩:∃u:Nat,e.of=u:=⟨e.of.toNat,by omega⟩;have K:u<Z c.m:=by omega
       have aq:e1 c e a.af.ar=bT c.m[u].au a.af.ar:=by
        rw[e1,P,ej,bC K]
       have br:(a.af.ak==3)=false:=by rw[n]<;>rfl
       have M:(a.af.ak==1)=true:=by rw[n]<;>rfl
       rw[M,br]at j;simp only[kI,kh,mR,yi,ve]at j;simp only[P,a6,Q,aH,aJ,aC K (jh _ _),np];refine f (nw c.m[u].au a.af.ar (L.aV _ (bs K)).1) ?_;have be:bN (λo=>o==a.af.ar) c.m[u].au=e1 c e a.af.ar:=aq.symm;rw[be];simp only[ry,Q,A];refine b (λk=>?_) (λk=>?_)
       ·have k:e1 c e a.af.ar<0:=by simpa using k
        have s:fU c a=false:=by rw[j];simp;omega
        exact E _ _ _ (by simp[s]) (by grind) _
       ·have k:0<=e1 c e a.af.ar:=by simpa using k
        have co:fU c a=true:=by rw[j];simpa using k
        simp_all[bo,G,i,c9,Q,bZ,cZ,rp]
      ·have n:a.af.ak≠1:=by simpa using n
       have M:(a.af.ak==1)=false:=by simpa using n
       rw[M]at j;simp only[mR,yi,cu]at j;simp only[bo,G,i,c9,Q];refine b (λk=>?_) (λk=>?_)
       ·rw[k]at j
        simp only[kI,kh]at j;have k:a.af.ak=3:=by simpa using k
        refine f (Oa c a.af.ar L) ?_;have ax:bN (λo:Fn=>o.ar==a.af.ar) c.aW=g8 c a.af.ar:=rfl;rw[ax];simp only[ry,Q,A];refine b (λw=>?_) (λw=>?_)
        ·have w:g8 c a.af.ar<0:=by simpa using w
         have s:fU c a=false:=by
          have:S (0<=g8 c a.af.ar)=false:=by simp;omega
          rw[j,this]<;>rfl
         simp_all
        ·have w:0<=g8 c a.af.ar:=by simpa using w
         obtain⟨o,bi,R⟩:∃o:Nat,g8 c a.af.ar=o/\o<Z c.aW:=by
          grind[nH]
         rw[bi]at j⊢;simp only[ej,bC R]at j;have X:S ((0:Int)<=(o:Int))=true:=by simp
         rw[X,cu]at j;simp only[a6,Q,aH,aJ,aC R (p3 _ _),Mh,cd];simp_all[fU,rp]
       ·rw[k]at j
        simp only[mR,yi]at j;have k:a.af.ak≠3:=by simpa using k
        simp_all[rp]
def iT(a:Lit)(b c:Int):Lit:=⟨a.ak,a.ar,b,a.ad,a.bind,a.af,c,a.op,a.bf⟩
theorem ae4(a:Lit)(b c:Int):dh 9 (.agg [I a.ak,.str a.ar,I b,eS V cT a.ad,.str a.bind,.str a.af,I c,I a.op,I a.bf])=T (a5 V (iT a b c)):=gS rfl rfl
theorem EL(b:aj)(a:Lit):g9 b a=iT a (mg b a) (xO b a):=rfl
def wm(f:Bool)(c:aj)(a:Lit)(h:AV):Prop:=∃b d,h=.aE [.agg (a5 f b),I d]/\(d=0<->gH c a=ab)/\(gH c a=ab->b=g9 c a)/\∃e g,b=iT a e g
theorem ae5(c:aj)(a:Lit)(aq:dW c)(ci:Sm a.ad)(b4:kz c)(L:a.ak=5->Z a.ad=2):∃l,PR C 237 [.agg (cP V F c),.agg (a5 bp a)] l/\wm bp c a l:=by
 refine Y9.ex ?_;simp only[dS,vE,Q,ry,uq,ur,uu,uv,uw,ux,uy,c9,fQ];have Y:∀(k o r:Int),(r=0<->gH c a=ab)->(gH c a=ab->iT a k o=g9 c a)->∀p:List Obj,bd (dh 9 (.agg [I a.ak,.str a.ar,I k,eS bp cT a.ad,.str a.bind,.str a.af,I o,I a.op,I a.bf])) λj=>∃l,aI p .res (.aE [(AV.pl (.agg [(g j 0),(g j 1),(g j 2),(g j 3),(g j 4),(g j 5),(g j 6),(g j 7),(g j 8)])),(AV.pl (I r))]) l/\wm bp c a l:=by
  intro k o r q K p;rw[ae4,Q];exact⟨.aE [.agg (a5 bp (iT a k o)),I r],cy,_,_,rfl,q,K,k,o,rfl⟩
 have bad:∀(k o r:Int),r≠0->gH c a=aa->∀p:List Obj,bd (dh 9 (.agg [I a.ak,.str a.ar,I k,eS bp cT a.ad,.str a.bind,.str a.af,I o,I a.op,I a.bf])) λj=>∃l,aI p .res (.aE [(AV.pl (.agg [(g j 0),(g j 1),(g j 2),(g j 3),(g j 4),(g j 5),(g j 6),(g j 7),(g j 8)])),(AV.pl (I r))]) l/\wm bp c a l:=by
  intro k o r M N p;exact Y k o r (by simp[N,M]) (λh=>by rw[N]at h;cases h) p
 have J:∀(k o:Int),gH c a=ab->iT a k o=g9 c a->∀p:List Obj,bd (dh 9 (.agg [I a.ak,.str a.ar,I k,eS bp cT a.ad,.str a.bind,.str a.af,I o,I a.op,I a.bf])) λj=>∃l,aI p .res (.aE [(AV.pl (.agg [(g j 0),(g j 1),(g j 2),(g j 3),(g j 4),(g j 5),(g j 6),(g j 7),(g j 8)])),(AV.pl (I 0))]) l/\wm bp c a l:=by
  intro k o N M p;exact Y k o 0 (by simp[N]) (λ_=>M) p
 refine b (λh=>?_) (λh=>?_)
 ·have E:a.ak=5:=by simpa using h
  obtain⟨u,v,a4⟩:∃u v,a.ad=[u,v]:=by
   have:=L E
   match em:a.ad,this with
   |[u,v],_=>grind
  have ah:gH c a= !(u.aB==[]&&v.aB==[]&&u.const.ty !=v.const.ty):=by
   rw[gH,if_pos E,a4]
  have W:iT a (-1) (-1)=g9 c a:=by
   rw[EL,mg,if_pos E,xO,if_neg (by omega)]
  have cs:∀p:List Obj,bY 4 (eS bp cT [u,v]) (I 0) p=T (.aK bp (cT u) 0):=λp=>aC (o:=[u,v]) (U:=0) (by simp) rfl;have dl:∀p:List Obj,bY 4 (eS bp cT [u,v]) (I 1) p=T (.aK bp (cT v) 0):=λp=>aC (o:=[u,v]) (U:=1) (by simp) rfl;rw[a4]at Y bad J⊢;simp only[cs,dl,Q,a6,aH,nn,AL,aJ,fo,fF,cd,bo,G,i];refine aZ (λq=>aZ (λK=>?_) (λK=>?_)) (λq=>?_)
  ·rw[q,K]at ah
   refine b (λy=>?_) (λy=>?_)
   ·exact bad _ _ _ (by omega) (by grind) _
   ·exact J _ _ (by grind) W _
  ·rw[q,K]at ah
   simp only[bZ,cZ,if_false];exact J _ _ (by grind) W _
  ·rw[q]at ah
   simp only[bZ,cZ,if_false];exact J _ _ (by grind) W _
 ·have E:a.ak≠5:=by simpa using h
  have t:gH c a=(match c.d[(ei c a.ar).toNat]? with
   |none=>aa
   |some e=>S (0<=ei c a.ar)&&mf e a.ad&& !(S (e.of<0)&&(!(a.bind==[])||(a.ak==3||a.ak==4)))&&
    (!(a.ak==3||a.ak==4)||(S (0<=e1 c e a.af)&&(match c.m[e.of.toNat]? with|some P=>e1 c e a.af !=fy P []|none=>aa)))):=by
   rw[gH,if_neg E]<;>rfl
  refine f (Hu c a.ar aq) ?_;have ce:bN (λP:cD=>P.ar==a.ar) c.d=ei c a.ar:=rfl;rw[ce];simp only[ry,Q,A];refine b (λq=>?_) (λq=>?_)
  ·have q:ei c a.ar<0:=by simpa using q
   refine bad _ _ _ (by omega) ?_ _;grind
  ·have q:0<=ei c a.ar:=by simpa using q
   obtain⟨k,U,ae⟩:∃k:Nat,ei c a.ar=k/\k<Z c.d:=by
    grind[nH]
   have W:∀o,o=(if a.ak=3\/a.ak=4 then e1 c c.d[k] a.af else -1)->iT a (k:Int) o=g9 c a:=by
    rintro o rfl;rw[EL,mg,if_neg E,U,xO,U];simp only[ej,bC ae]
   rw[U]at t q;simp only[ej,bC ae]at t;rw[U];simp only[a6,Q,aH,oe,iy,aJ,aC ae (hD _ _),ub,vD,qa,qb,qc,q2,qd,qe,qf];generalize fd:c.d[k]=e at*;have es:e.of<Z c.m:=b4 e (by grind);have a9:S ((0:Int)<=(k:Int))=true:=by simp
   rw[a9,cu]at t;obtain⟨r,M,br⟩:=Qk (V:=V) (F:=bp) e a.ad ci;have bi:(AV.agg [.str e.ar,eS V cI e.bb,.str e.aV,I e.of,.bool e.fI,I e.e2,I e.bf])=.agg (bF V e):=rfl;rw[bi];refine f M ?_;simp only[cd,Q];refine b (λy=>?_) (λy=>?_)
   ·have y:r≠0:=by simpa using y
    refine bad _ _ _ y ?_ _;grind
   ·have y:r=0:=by simpa using y
    rw[br.1 y,cu]at t;refine pg (N:=[]) (a.ak==3||a.ak==4) [I a.ak,.str a.ar,I k,eS bp cT a.ad,.str a.bind,.str a.af,I (-1),I a.op,I a.bf,I 0,.str [],I 0,.ai,.str [],.str [],I 0,I 0,I 0,.str e.ar,eS V cI e.bb,.str e.aV,I e.of,.bool e.fI,I e.e2,I e.bf] (λfn el=>?_) ?_
    ·refine dx (λz=>?_) (λz=>?_)
     ·grind
     grind
    ·simp only[G,i,A,Q,ib]
     generalize ax:(a.ak==3||a.ak==4)=X at*;have go:(S (e.of<0)&&(!(a.bind==[])||X))=aa->dY (.bool X) (bd (bY 4 (eS V (bn V) c.m) (I e.of) []) λd0=>bd (dw 1 d0 []) λd1=>bd (aR 1 aa d1 []) λd2=>cp C 63 [d2,.str a.af] [] λd3=>bd (lX d3) λR=>bd (aS .s .lss R (I 0)) λd4=>dY d4 (
 bd (dh 9 (.agg [I a.ak,.str a.ar,I k,eS bp cT a.ad,.str a.bind,.str a.af,R,I a.op,I a.bf])) λw=>
 ∃l,aI [] .res (.aE [(AV.pl (.agg [(g w 0),(g w 1),(g w 2),(g w 3),(g w 4),(g w 5),(g w 6),(g w 7),(g w 8)])),(AV.pl (I 70))]) l/\wm bp c a l) (
 bd (bY 4 (eS V (bn V) c.m) (I e.of) []) λd5=>
 bd (aR 4 ab d5 []) λd6=>
 cp C 34 [d6] [] λd7=>
 bd (aS .s .eql R d7) λd8=>
 dY d8 (
 bd (dh 9 (.agg [I a.ak,.str a.ar,I k,eS bp cT a.ad,.str a.bind,.str a.af,R,I a.op,I a.bf])) λx=>
 ∃l,aI [] .res (.aE [(AV.pl (.agg [(g x 0),(g x 1),(g x 2),(g x 3),(g x 4),(g x 5),(g x 6),(g x 7),(g x 8)])),(AV.pl (I 72))]) l/\wm bp c a l) (
 bd (dh 9 (.agg [I a.ak,.str a.ar,I k,eS bp cT a.ad,.str a.bind,.str a.af,R,I a.op,I a.bf])) λn=>
 ∃l,aI [] .res (.aE [(AV.pl (.agg [(g n 0),(g n 1),(g n 2),(g n 3),(g n 4),(g n 5),(g n 6),(g n 7),(g n 8)])),(AV.pl (I 0))]) l/\wm bp c a l)))
      (bd (dh 9 (.agg [I a.ak,.str a.ar,I k,eS bp cT a.ad,.str a.bind,.str a.af,I (-1),I a.op,I a.bf])) λn=>
 ∃l,aI [] .res (.aE [(AV.pl (.agg [(g n 0),(g n 1),(g n 2),(g n 3),(g n 4),(g n 5),(g n 6),(g n 7),(g n 8)])),(AV.pl (I 0))]) l/\wm bp c a l):=by
      intro a0;rw[a0,mR,cu]at t;refine b (λac=>?_) (λac=>?_)
      ·subst ac
       have eq:0<=e.of:=by simp at a0;omega
       obtain⟨H,a3⟩:∃H:Nat,e.of=H:=by grind
       have O:H<Z c.m:=by omega
       have bv:e1 c e a.af=bT c.m[H].au a.af:=by
        rw[e1,a3,ej,bC O]
       have bw:a.ak=3\/a.ak=4:=by simpa using ax
       rw[a3]at t⊢;simp only[ej,bC O,kI,kh]at t;simp only[aC O (jh _ _),Q,a6,aH,np,aJ,hF];refine f (nw c.m[H].au a.af (aq.aV _ (bs O)).1) ?_;have co:bN (λP=>P==a.af) c.m[H].au=e1 c e a.af:=bv.symm;rw[co];simp only[ry,Q,A];refine b (λB=>?_) (λB=>?_)
       ·have B:e1 c e a.af<0:=by simpa using B
        have N:S (0<=e1 c e a.af)=false:=by simp;omega
        exact bad _ _ _ (by omega) (by grind) _
       ·have B:S (0<=e1 c e a.af)=true:=by simpa using B
        rw[B,cu]at t;refine f (zc _ (aq.aV _ (bs O))) ?_;simp only[c9,Q];refine b (λbe=>?_) (λbe=>?_)
        ·exact bad _ _ _ (by omega) (by grind) _
        ·exact J _ _ (by grind) (by grind) _
      ·subst ac
       have bw:¬(a.ak=3\/a.ak=4):=by
        intro h;rcases h with h|h<;>simp[h]at ax
       simp_all
     rw[bo];refine aZ (λz=>gV (λL=>?_) (λL=>?_)) (λz=>?_)
     ·rw[z,L]at go t
      simp only[kI,kh,cu]at go t;cases aQ:X with
      |true=>
       simp only[bZ,if_true];exact bad _ _ _ (by omega) (by grind) _
      |false=>
       have:=go aQ;rw[aQ]at this;simp only[bZ,cZ,if_false]at this⊢;exact this
     ·rw[z,L]at t
      simp only[bZ];exact bad _ _ _ (by omega) (by grind) _
     ·have:=go (by rw[z]<;>rfl)
      simp only[bZ,cZ,if_false,bo,G,i]at this⊢;exact this
theorem ae7(d:bM)(c:Fn)(t:j5 d)(v:xo c)(bw:Z c.src=Z c.dst):
 ∃p,PR C 233 [.agg (bn V d),.agg (b8 F c)] p/\∃h,p=.aE [eS aa cI (if e9 d c=ab then fe d c else[]),I h]/\(h=0<->e9 d c=ab):=by
 refine XA.ex ?_;simp only[kT,De,Q,dZ,eA,a6,aH,np,AN,AO,aJ,a8,hF,c3,de];have bad:∀(h:Int)(u:List Obj),h≠0->e9 d c=aa->Z u<1000000->∃p,aI (u++[.arr 0 1 []]) .res (.aE [(AV.q (Z u) 0 0 0).pl,(I h).pl]) p/\∃h,p=.aE [eS aa cI (if e9 d c=ab then fe d c else[]),I h]/\(h=0<->e9 d c=ab):=by
  intro h u bi ac _;refine⟨.aE [eS aa cI [],I h],.aE _ _ _ (.ck ?_ (.ck (.int _ _ _) (.nil _))),h,by rw[ac]<;>rfl,by grind⟩;exact fx (o:=([]:List Int)) (U:=1) (by simp) (by simp)
 refine et (U:=Z c.src) (c:=λe=>[.q 0 0 0 0,I 0,I e]) (λe=>((List.range e).all λe=>S (0<=bT d.au (c.src.getD e []))&&S (0<=bT d.au (c.dst.getD e [])))=ab) (by simp) rfl (λe n K w af=>?_) (λK w=>?_)
 ·have H:e<Z c.dst:=by omega
  have Y:(S (0<=bT d.au (c.src.getD e []))&&S (0<=bT d.au (c.dst.getD e [])))=(S (0<=bT d.au c.src[e])&&S (0<=bT d.au c.dst[e])):=by
   simp only[oM,bC n,bC H,oK]
  simp only[i,G,A,Q,a,n,decide_true,aC n (g5 _),aH,kp,bo];refine a7 (f (nw d.au c.src[e] t.1) ?_);have r:bN (λg=>g==c.src[e]) d.au=bT d.au c.src[e]:=rfl;have x:bN (λg=>g==c.dst[e]) d.au=bT d.au c.dst[e]:=rfl;rw[r];simp only[A,Q]
  have bf:e9 d c=aa->dY tt (∃p,aI [Obj.arr 0 1 [],Obj.arr 0 1 []] .res (.aE [(AV.q 1 0 0 0).pl,(I 70).pl]) p/\∃h,p=.aE [eS aa cI (if e9 d c=ab then fe d c else[]),I h]/\(h=0<->e9 d c=ab)) (bd (aS .s .add (I e) (I 1)) λa4=>w [.q 0 0 0 0,I 0,a4] [Obj.arr 0 1 []]):=by
   intro j;simp only[bZ,if_true];exact bad 70 [.arr 0 1 []] (by omega) j (by simp)
  have N:∀g:Int,S (g<0)= !S (0<=g):=by grind
  rw[N];have ce:((S (0<=bT d.au (c.src.getD e []))&&S (0<=bT d.au (c.dst.getD e [])))=aa)->e9 d c=false:=by
   intro j;unfold e9;rw[xF n j];simp
  refine gV (λW=>?_) (λW=>?_)
  ·simp only[aC H (g5 _),Q,aH,kp]
   refine f (nw d.au c.dst[e] t.1) ?_;rw[x];simp only[A,Q,N];refine c8 (λk=>?_) (λk=>?_)
   ·simp_all
   ·rw[v.1.inc n,Q]
    grind[Bq]
  ·simp only[bZ,if_true]
   simp_all
 ·simp only[i,G,A,Q,a,ca,decide_false]
  refine bq ?_;have a0:e9 d c=(((List.range (Z c.src)).all λe=>bT c.src (c.src.getD e [])==(e:Int))&&(d.au.all λg=>S (0<=bT c.src g))&&pb d (fe d c)):=by
   unfold e9;rw[K,cu]
  refine et (U:=Z c.src) (c:=λe=>[.q 0 0 0 0,I 0,I e]) (λe=>((List.range e).all λe=>bT c.src (c.src.getD e [])==(e:Int))=ab) (by simp) rfl (λe n L P af=>?_) (λL P=>?_)
  ·have Y:(bT c.src (c.src.getD e [])==(e:Int))=(bT c.src c.src[e]==(e:Int)):=by
    simp only[oM,bC n,oK]
   simp only[i,G,A,Q,a,n,decide_true,aC n (g5 _),aH,kp];refine a7 (f (nw c.src c.src[e] v.1) ?_);have r:bN (λg=>g==c.src[e]) c.src=bT c.src c.src[e]:=rfl;rw[r];simp only[cd,Q,bne];refine c8 (λk=>?_) (λk=>?_)
   ·simp only[gz,fm,c3]
    refine bad 5 [.arr 0 1 []] (by omega) ?_ (by simp);grind
   ·rw[v.1.inc n,Q]
    grind
  ·simp only[i,G,A,Q,a,ca,decide_false]
   refine bq ?_;have O:e9 d c=((d.au.all λg=>S (0<=bT c.src g))&&pb d (fe d c)):=by
    rw[a0,L,cu]
   simp only[gz,fm,c3];refine bB (λl=>[.q 0 0 0 0,I 0,.q 1 l.2 0 l.1,I l.1]) (λl=>aY [.arr 0 1 [],.arr 0 1 []] 1 1 cI l.2 ((d.au.take l.1).map λg=>bT d.au (c.dst.getD (bT c.src g).toNat []))) (λl=>Z d.au -l.1) (λl=>l.1<=Z d.au/\(d.au.take l.1).all (λg=>S (0<=bT c.src g))=ab) (0,0) ⟨by simp,by simp⟩ ?_ rfl (by simp[aY]);rintro⟨e,m⟩ ⟨n,B⟩ R aB;have ar:=t.1;unfold Sm at ar;simp only[i,G,A,Q,a]
   have ak:1<Z ([.arr 0 1 [],.arr 0 1 []]:List Obj):=by simp
   refine b (λj=>?_) (λj=>?_)
   ·have j:e<Z d.au:=by simpa using j
    simp only[aC j (g5 _),Q,aH,kp];refine f (nw c.src d.au[e] v.1) ?_;have r:bN (λg=>g==d.au[e]) c.src=bT c.src d.au[e]:=rfl;rw[r];simp only[A,Q];refine b (λk=>?_) (λk=>?_)
    ·have k:bT c.src d.au[e]<0:=by simpa using k
     have ae:e9 d c=false:=by
      have ad:S (0<=bT c.src d.au[e])=false:=by simp;omega
      rw[O,uz j ad]<;>rfl
     have y:aY [.arr 0 1 [],.arr 0 1 []] 1 1 cI m ((d.au.take e).map λg=>bT d.au (c.dst.getD (bT c.src g).toNat []))=[.arr 0 1 [],.arr m 1 (((d.au.take e).map λg=>bT d.au (c.dst.getD (bT c.src g).toNat [])).map cI)]:=rfl;simp only[y,iJ,de,fm,c3];exact bad 71 [.arr 0 1 [],.arr m 1 (((d.au.take e).map λg=>bT d.au (c.dst.getD (bT c.src g).toNat [])).map cI)] (by omega) ae (by simp)
    ·have k:0<=bT c.src d.au[e]:=by simpa using k
     obtain⟨o,z,br⟩:∃o:Nat,bT c.src d.au[e]=o/\o<Z c.src:=by
      rcases nH (λg=>g==d.au[e]) c.src with⟨o,z,x,-⟩|⟨x,-⟩
      ·grind
      omega
     have J:o<Z c.dst:=by omega
     rw[z];simp only[aC J (g5 _),Q,aH,kp];refine f (nw d.au c.dst[o] t.1) ?_;have U:bN (λg=>g==c.dst[o]) d.au=bT d.au c.dst[o]:=rfl;rw[U,Bi,Q];have bv:Z ((d.au.take e).map λg=>bT d.au (c.dst.getD (bT c.src g).toNat []))=e:=by simp;omega
     have ap:=NV (U:=m) (a:=(d.au.take e).map λg=>bT d.au (c.dst.getD (bT c.src g).toNat [])) (aU:=bT d.au c.dst[o]) (fN:=λa9 X=>bd (aS .s .add (I e) (I 1)) λbb=>R [.q 0 0 0 0,I 0,a9,bb] X) ak (by omega) ?_
     ·grind
     ·rw[ba,Q]
      have aq:((d.au.take e).map λg=>bT d.au (c.dst.getD (bT c.src g).toNat []))++[bT d.au c.dst[o]]=(d.au.take (e+1)).map λg=>bT d.au (c.dst.getD (bT c.src g).toNat []):=by
       rw[hX j,ht];simp only[eJ,oL,z,ej,oM,bC J,oK]
      rw[aq];have ah:Z ((d.au.take (e+1)).map λg=>bT d.au (c.dst.getD (bT c.src g).toNat []))=e+1:=by simp;omega
      rw[ah];refine aB (e+1,m+1) ⟨j,?_⟩ (by simp;omega);grind[mD]
   ·have:e=Z d.au:=by simp at j;omega
    subst this;rw[dB]at B⊢;have a3:e9 d c=pb d (fe d c):=by rw[O,B,cu]
    have ax:(d.au.map λg=>bT d.au (c.dst.getD (bT c.src g).toNat []))=fe d c:=rfl;have M:Z (fe d c)=Z d.au:=by simp[fe]
    rw[ax];have E:(aY [.arr 0 1 [],.arr 0 1 []] 1 1 cI m (fe d c))[1]?=T (.arr m 1 ((fe d c).map cI)):=rfl;refine ea _ (adk (F:=true) d (fe d c) t (by grind[Sm])) (.ck cy (.ck ?_ (.nil _))) (.bool _) ?_
    ·rw[<-M];exact l7 E (by simp)
    ·simp only[bD,Q]
     refine c8 (λk=>?_) (λk=>?_)
     ·have y:aY [.arr 0 1 [],.arr 0 1 []] 1 1 cI m (fe d c)=[.arr 0 1 [],.arr m 1 ((fe d c).map cI)]:=rfl
      simp only[y,iJ,de,fm,c3];exact bad 31 [.arr 0 1 [],.arr m 1 ((fe d c).map cI)] (by omega) (by rw[a3,k]) (by simp)
     ·refine⟨.aE [eS aa cI (fe d c),I 0],.aE _ _ _ (.ck ?_ (.ck (.int _ _ _) (.nil _))),0,by grind,by grind⟩
      rw[<-M];exact fx E (by simp)
structure BG(p:aj)(r:aG):Prop where
 ad:Z r.ad<=100
 ae:Z r.ae<=100
 lits:∀x∈r.ae,Z x.ad<=100
 fit:EK p r.aq r.ad
 fits:∀x∈r.ae,EK p x.aq x.ad
 cmp:∀x∈r.ae,x.ak=5->Z x.ad=2
 Qq:∀q∈p.d,∀k∈q.bb,k≠0
 uP:∀x∈r.ae,∀t∈x.ad,t.aB=[]->t.const.ty≠0
 bind:∀x∈r.ae,x.bind≠[]->∃a:Nat,x.aq=a/\a<Z p.d
 aB:r.af.aB≠[]->∃a:Nat,r.aq=a/\a<Z p.d
theorem Qr(h:∀e∈M.d,∀c∈e.bb,c≠0):∀b∈mL M aU mW,b.2≠0:=by
 intro b a;unfold mL at a;split at a
 ·rename_i e f
  have g:=sG f;obtain⟨i,c⟩:=b;have:=(List.of_mem_zip a).2;grind
 ·cases a
variable{u:aG}
theorem Qs(c:BG M u)(b:Nat):zr M u.aq u.ad (u.ae.take b)=ab<->kD (we (wi M u b) (wj u b)):=by
 have:=aeZ (d:=lP M u.aq u.ad++Ql M (u.ae.take b)) (f:=kF (u.ae.take b)) (U:=Z (u.ae.take b)+1) (by grind[EJ]) (λf a=>?_) (λf a=>?_)
 ·exact this
 ·rcases c5.1 a with a|a
  ·unfold lP at a
   split at a
   ·exact Qr c.Qq f a
   ·cases a
  ·obtain⟨k,d,a⟩:=zR.1 a
   obtain⟨e,g,rfl⟩:=du.1 d;unfold iS at a;split at a
   ·exact Qr c.Qq f a
   ·cases a
 ·obtain⟨k,d,a⟩:=zR.1 a
  obtain⟨e,g,rfl⟩:=du.1 d;have h:=qL g;unfold rj at a;split at a
  ·split at a
   ·rename_i i j l o
    simp only[lV]at a;subst a;exact⟨c.uP e h i (by grind),c.uP e h j (by grind)⟩
   ·cases a
  ·cases a
theorem Qt(c:wk M u):kD (we (wi M u U) (wj u U)):=by
 refine kD.mono (λe a=>?_) c;rcases c5.1 a with a|a
 ·obtain⟨b,d,rfl⟩:=du.1 a
  refine c5.2 (.inl (du.2 ⟨b,?_,rfl⟩));grind[wi]
 ·obtain⟨b,d,rfl⟩:=du.1 a
  refine c5.2 (.inr (du.2 ⟨b,?_,rfl⟩));grind[wj]
theorem Qu(a:U<Z u.ae):lO M u (u.ae.drop U) V=if u.ae[U].bind=[]then lO M u (u.ae.drop (U+1)) V else
 if(V|| !S (u.ae[U].bind=u.af.aB)||S (u.ae[U].bind∈e7 u)||hK M u.ae[U].aq !=hK M u.aq)=ab then D else lO M u (u.ae.drop (U+1)) true:=by
 rw[mQ a,lO]
def Qv(c:aj)(d:aG)(e:AV):Prop:=∃a b,e=.aE [I a,I b]/\(a=0<->tv c d)
theorem ae8(g:aj)(c:aG)(a4:oh c)(h:BG g c):∃w,PR C 238 [.agg (cP V F g),.agg (aP bp c)] w/\Qv g c w:=by
 have ds:Z (c.ae.map Lit.ad++[c.ad]).flatten<=20000:=by
  have B:=Bm Lit.ad 100 c.ae h.lits;have j:=k9 100 h.ae;have k:=h.ad;simp only[zQ,fb,wE,List.flatten_nil,rP];omega
 have d3:=Hs c;have cs:=h.ae;refine aay.ex ?_;simp only[dS,l3,Q,fQ,kR,a6,aH,xh,sS,od,yQ,iy,aJ,a8];refine f (N1 c a4 (by unfold Sm;omega)) ?_;simp only[a8,er,Q];have bad:∀(r q:Int),r≠0->¬tv g c->∃w,aI [] .res (.aE [(I r).pl,(I q).pl]) w/\Qv g c w:=λr q m d1=>⟨.aE [I r,I q],cy,r,q,rfl,by grind⟩;refine b (λB=>?_) (λB=>?_)
 ·refine bad 2 _ (by omega) ?_
  rintro⟨j,-⟩;grind
 ·have ah:Z (e7 c)<=12:=by simp only[decide_eq_false_iff_not]at B;omega
  refine et (U:=Z c.ae+1) (c:=λe=>[I 0,I 0,I e]) (λe=>∀K,K<e->zr g c.aq c.ad (c.ae.take K)=ab) (by simp) rfl (λe R U X d0=>?_) (λU X=>?_)
  ·have J:S ((e:Int)<=(Z c.ae:Int))=true:=by simp;omega
   simp only[i,G,jN,Q,J];refine a7 ?_;have aQ:e<=Z c.ae:=by omega
   rw[Eg (h9 _) aQ,Q];have bb:(Z (c.ae.take e):Nat)<=100:=by rw[gb];omega
   refine f (ae1 g c.aq c.ad (c.ae.take e) h.ad bb (λo u=>h.lits o (qL u)) h.fit (λo u=>h.fits o (qL u)) (λo u=>h.cmp o (qL u))) ?_;simp only[bD,Q];refine c8 (λj=>?_) (λj=>?_)
   ·have d2:¬tv g c:=by
     rintro⟨-,k,-⟩;have:=(Qs h e).2 (Qt k);rw[this]at j;cases j
    simp only[c9,Q];refine b (λk=>?_) (λk=>?_)
    ·simp_all
    ·have k:e≠0:=by simpa using k
     obtain⟨v,rfl⟩:∃v,e=v+1:=⟨e -1,by omega⟩;have a0:v<Z c.ae:=by omega
     have a9:aS .s .sub (I ((v+1:Nat):Int)) (I 1)=T (I (v:Int)):=by
      rw[og (by omega) (by omega)];simp
     rw[a9,Q];simp only[aC a0 (h9 _ _),Q,a6,aH,Dm,aJ];simp_all
   ·rw[ba,Q]
    grind
  ·have be:wk g c:=(Qs h (Z c.ae)).1 (U (Z c.ae) (by omega))
   have J:S (((Z c.ae+1:Nat):Int)<=(Z c.ae:Int))=false:=by simp;omega
   simp only[i,G,jN,Q,J];refine bq ?_;have d4:tv g c<->rk g c=true:=⟨λh=>h.2.2,λh=>⟨ah,be,h⟩⟩;refine bB (z:=Nat×Bool×AV×AV) (λl=>[l.2.2.1,l.2.2.2,.bool l.2.1,I l.1]) (λ_=>[]) (λl=>Z c.ae -l.1) (λl=>l.1<=Z c.ae/\lO g c c.ae aa=lO g c (c.ae.drop l.1) l.2.1) (0,aa,I 0,I 0) ⟨by simp,by simp⟩ ?_;rintro⟨e,z,br,bv⟩ ⟨R,m⟩ co W;simp only at R m W⊢;simp only[i,G,A,Q,a];refine b (λj=>?_) (λj=>?_)
   ·have j:e<Z c.ae:=by simpa using j
    rw[Qu j]at m;have bw:=λac ax=>W (e+1,ac,br,bv) ⟨j,ax⟩ (by simp;omega);have bi:c.ae[e]∈c.ae:=bs j;rw[bo];simp only[aC j (h9 _ _),Q,l1,vE,uq,ur,vR,uu,uv,uw,vS,ux,uy,fF];refine b (λk=>?_) (λk=>?_)
    ·rw[if_pos (by grind)]at m
     rw[ba,Q];exact bw z m
    ·have N:c.ae[e].bind≠[]:=by simpa using k
     rw[if_neg N]at m;refine pg (N:=[]) (z|| !S (c.ae[e].bind=c.af.aB)||S (c.ae[e].bind∈e7 c)||hK g c.ae[e].aq !=hK g c.aq) [I c.ae[e].ak,.str c.ae[e].ar,I c.ae[e].aq,eS bp cT c.ae[e].ad,.str c.ae[e].bind,.str c.ae[e].af,I c.ae[e].gN,I c.ae[e].op,I c.ae[e].bf] (λd5 n=>?_) ?_
     ·refine dx (λp=>?_) (λp=>xJ n (by rw[p]<;>rfl))
      rw[p,kh]at n;have y:(aP bp c)[3+2]?=T (.str c.af.aB):=rfl;simp only[y,Q,ib];have au:(!(c.ae[e].bind==c.af.aB))= !S (c.ae[e].bind=c.af.aB):=by rw[hY];simp
      rw[au];refine dx (λt=>?_) (λt=>xJ n (by rw[t]<;>rfl));rw[t,kh]at n;have t:c.ae[e].bind=c.af.aB:=by simpa using t
      refine f (nw (e7 c) c.ae[e].bind (by unfold Sm;omega)) ?_;have H:S (0<=bN (λo=>o==c.ae[e].bind) (e7 c))=S (c.ae[e].bind∈e7 c):=by
       have:=DW (x:=e7 c) (bH:=c.ae[e].bind);rw[hY]at this⊢;simp only[decide_eq_true_eq,jt,decide_eq_false_iff_not]at this⊢;constructor
       ·intro P;exact yl λx=>by have:=this.2 x;omega
       ·intro P
        rcases Cr (bN (λo=>o==c.ae[e].bind) (e7 c)) 0 with a3|H
        ·exact absurd P (this.1 a3)
        ·exact H
      simp only[gF,Q,H];refine dx (λE=>?_) (λE=>xJ n (by rw[E]<;>rfl));rw[E,kh]at n;obtain⟨q,L,M⟩:=h.bind _ bi N;obtain⟨Y,x,O⟩:=h.aB (by grind);have b4:hK g c.ae[e].aq=g.d[q].of:=by rw[hK,L,ej,bC M]
      have ce:hK g c.aq=g.d[Y].of:=by rw[hK,x,ej,bC O]
      rw[b4,ce]at n;rw[L]at n⊢;simp only[aC M (hD _ _),Q,a6,aH,yO,aJ,x,aC O (hD _ _),cd];exact n
     ·simp only[G,i]
      refine b (λp=>?_) (λp=>?_)
      ·simp_all[rk]
      ·rw[if_neg (by grind)]at m
       rw[ba,Q];grind
   ·have:e=Z c.ae:=by simp at j;omega
    subst this;rw[nU,lO]at m;have y:(aP bp c)[3+2]?=T (.str c.af.aB):=rfl;have dl:rk g c=(c.af.aB==[]||z):=by rw[rk,m]
    simp only[y,Q,ib,bD,bo,G];refine y4 (λk=>?_) (λk=>?_)
    ·refine c8 (λp=>?_) (λp=>?_)
     ·simp_all
     ·exact⟨.aE [I 0,I 0],cy,0,0,rfl,by grind⟩
    ·simp only[bZ,cZ,if_false]
     exact⟨.aE [I 0,I 0],cy,0,0,rfl,by grind⟩
def Gr(c:List Obj)(b:AV)(d:z->List AV)(e:Nat)(a:List z):Prop:=(a=[]/\b=.ai)\/∃id g,b=.q id g 0 (Z a)/\c[id]?=T (.arr g e (a.map d))
def gI(c:AV)(a:Nat):Prop:=∃g b,c=.q a g 0 b
theorem sw(b:Nat):¬gI .ai b:=by rintro⟨g,c,a⟩;cases a
theorem qB{id g:Nat}:gI (.q id g 0 U) O<->O=id:=⟨λ⟨b,c,a⟩=>by grind,λa=>⟨g,U,by rw[a]⟩⟩
theorem Gr.mono{H':List Obj}(a:Gr N Y a2 U o)(f:∀(b:Nat)(c:Obj),gI Y b->N[b]?=T c->H'[b]?=T c):Gr H' Y a2 U o:=by
 rcases a with a|⟨id,g,d,e⟩
 ·exact .inl a
 ·exact .inr (by grind[qB])
theorem Gr.cell(a:Gr N Y a2 U o):Y.bP=true:=by
 rcases a with⟨-,a⟩|⟨id,g,a,-⟩<;>rw[a]<;>rfl
theorem Gr.lt(a:Gr N Y a2 U o)(c:gI Y O):O<Z N:=by
 rcases a with⟨-,a⟩|⟨id,g,a,b⟩
 ·grind[absurd,sw]
 grind[qB,List.getElem?_eq_some_iff]
theorem Gr.grow{bytes:Nat}(c:Gr N Y a2 U o)(a:z)(h:Z (a2 a)=U)(k:(Z o+1)*bytes<=2^47):
 ∃id g d,cx U bytes Y (.sl aa [a2 a]) N=T (.q id g 0 (Z (o++[a])),d)/\Gr d (.q id g 0 (Z (o++[a]))) a2 U (o++[a])/\(∀(b:Nat)(e:Obj),¬gI Y b->N[b]?=T e->d[b]?=T e)/\(gI Y id\/((∀b,¬gI Y b)/\id=Z N))/\Z N<=Z d:=by
 rcases c with⟨j,c⟩|⟨id,g,c,f⟩
 ·subst j;subst c
  refine⟨Z N,0,N++[.arr 0 U [a2 a]],?_,.inr (by grind),by grind,.inr ⟨sw,rfl⟩,by simp⟩;exact nu (a2:=a2) (o:=[a]) rfl (by simp[hQ,h]) (by omega)
 ·have l:=(e6.1 f).1
  have i:aY N id U a2 g o=N:=by
   obtain⟨m,n⟩:=e6.1 f;simp only[aY];rw[<-n];exact zY m
  have ap:=mE (N:=N) (id:=id) (U:=U) (bytes:=bytes) (O:=g) (a2:=a2) (o:=o) a l h k;rw[i]at ap;rw[c];refine⟨id,g+1,_,ap,.inr (by grind[oo]),λb e s t=>?_,.inl (qB.2 rfl),by simp[aY]⟩;grind[aY,List.getElem?_set_ne,qB]
theorem Gr.res(a:Gr N Y a2 U o)(e:∀c∈o,bO (a2 c)):aI N .res Y (eS aa a2 o):=by
 rcases a with⟨b,a⟩|⟨id,g,a,d⟩
 ·rw[b,a];exact .ai _ _
 grind[fx]
theorem BH{b:z->List AV}:∀{a:List z},(∀x∈a,bR N cA (a2 x) (b x))->eX N cA (a.map a2) (a.map b)
 |[],_=>.nil _
 |x::a,c=>.ck (c x (by simp)) (BH (by grind))
theorem Gr.cm{b:z->List AV}(a:Gr N Y a2 U o)(f:∀c∈o,bR N .cm (a2 c) (b c)):aI N .cm Y (eS ab b o):=by
 rcases a with⟨d,a⟩|⟨id,g,a,e⟩
 ·rw[d,a];exact .ai _ _
 ·rw[a]
  refine .vq id g 0 _ U _ _ e (by simp) ?_;grind[List.take_of_length_le,BH]
theorem tw{a:z->List AV}(c:∀b∈o,bR N .cm (a2 b) (a b)):aI N .cm (eS V a2 o) (eS ab a o):=.Aa V _ _ (BH c)
theorem rz{a:z->List AV}(c:∀b∈o,bR N .c4 (a2 b) (a b)):aI N .c4 (eS V a2 o) (eS ab a o):=.z7 V _ _ (BH c)
theorem Qw(b:Bool)(a:Lit):bR N .cm (a5 b a) (a5 ab a):=
 .ck (.int _ _ _) (.ck (.str _ _) (.ck (.int _ _ _) (.ck (by simp[tw,bO.snap]) (.ck (.str _ _) (.ck (.str _ _) (.ck (.int _ _ _) (.ck (.int _ _ _) (.ck (.int _ _ _) (.nil _)))))))))
theorem ae9(b:Bool)(a:Lit):bR N .c4 (a5 b a) (a5 ab a):=
 .ck (.int _ _ _) (.ck (.str _ _) (.ck (.int _ _ _) (.ck (by simp[rz,bO.snap]) (.ck (.str _ _) (.ck (.str _ _) (.ck (.int _ _ _) (.ck (.int _ _ _) (.ck (.int _ _ _) (.nil _)))))))))
def nO(b:Bool)(a:aG):List AV:=[.str a.ar,I a.aq,eS b cT a.ad,I a.af.ak,.str a.af.ar,.str a.af.aB,I a.af.aQ,eS aa (a5 b) a.ae,I a.bf]
@[simp] theorem afa(a:Bool)(b:aG):bO (nO a b):=by simp[nO]
@[simp] theorem afb(a:Bool)(b:aG):Z (nO a b)=9:=rfl
theorem afc(a:Bool)(b:aG):dh 9 (.agg (nO a b))=T (nO a b):=gS rfl rfl
theorem afd(a:Bool)(b:aG):bR N .c4 (nO a b) (aP ab b):=
 .ck (.str _ _) (.ck (.int _ _ _) (.ck (by simp[rz,bO.snap]) (.ck (.int _ _ _) (.ck (.str _ _) (.ck (.str _ _) (.ck (.int _ _ _) (.ck (rz λc _=>ae9 a c) (.ck (.int _ _ _) (.nil _)))))))))
theorem afe(a:Bool)(b:Lit):fw 9 [(I 0),(.str []),(I 0),.ai,(.str []),(.str []),(I 0),(I 0),(I 0)] 1 [(0,.agg (a5 a b))]=T (.sl aa [a5 a b]):=rfl
variable{c1:Int}
theorem xR:k0 gC aU c1=[]<->gC=[]/\aU=0:=by
 unfold k0;split
 ·grind
 simp_all
theorem xS(a:Z gC<=20):Z (k0 gC aU c1)<=20:=by
 grind[k0]
theorem IK(b:∀a∈gC,a.1≠0):∀a∈k0 gC aU c1,a.1≠0:=by
 grind[k0]
theorem IL(a:U<Z o):(o.take (U+1)).all dG=ab<->(o.take U).all dG=ab/\dG o[U]=true:=by
 grind[mD]
def Qx(e:Bool)(b:aj)(c:aG)(f:AV):Prop:=∃d a,f=.aE [.agg (nO e d),eS aa bX a]/\Z a<=20/\(a=[]<->ka b c)/\(ka b c->d=eH b c)/\oh d/\∀g∈a,g.1≠0
theorem aff(h:aj)(d:aG)(d4:dW h)(w:kz h)(K:oh d)(go:Z d.ae<=100)(eq:∀n∈d.ae,n.ak=5->Z n.ad=2)
 (gc:fU h d=ab->d.ae.all (gH h)=ab->BG h (eH h d)):∃o,PR C 157 [.agg (cP V F h),.agg (aP bp d)] o/\Qx bp h d o:=by
 refine Xs.ex ?_;simp only[dS,l3,Q,dZ,eA,fQ,kR,a6,aH,od,yQ,aJ,a8,c3,de,fm,gz];obtain⟨o,L,e,ce,rfl,fI,d3,x,he,f6⟩:=ae3 (V:=V) (F:=F) (bp:=bp) h d d4 K.1 w;refine f L ?_;simp only[ef,cv,dk,Q,uc,o4,qg,o5,o6,o7,o8,qh,om];refine cY (xP (N:=[.arr 0 2 [],.arr 0 2 []]) (id:=1) [] ce d.bf ⟨0,rfl,rfl⟩) rfl λX S es=>?_;refine aD (dD:=.ai) rfl ?_;have h4:Z S=Z S:=rfl
 refine bB (z:=Nat×AV×List (Int×Int)×AV×List Lit×List Obj×List AV) (λc=>[c.2.1,I c.1]++c.2.2.2.2.2.2++[.str e.ar,I e.aq,eS bp cT e.ad,I e.af.ak,.str e.af.ar,.str e.af.aB,I e.af.aQ,c.2.2.2.1,I e.bf]) (λc=>c.2.2.2.2.2.1) (λc=>Z d.ae -c.1) (λc=>c.1<=Z d.ae/\kZ c.2.2.2.2.2.1 c.2.1 1 c.2.2.1/\Z c.2.2.1<=20/\Gr c.2.2.2.2.2.1 c.2.2.2.1 (a5 bp) 9 c.2.2.2.2.1/\¬gI c.2.2.2.1 1/\Z c.2.2.2.2.1=c.1/\Z c.2.2.2.2.2.2=9/\
  (c.2.2.1=[]<->fU h d=ab/\(d.ae.take c.1).all (gH h)=ab)/\((d.ae.take c.1).all (gH h)=ab->c.2.2.2.2.1=(d.ae.take c.1).map (g9 h))/\(∀n∈c.2.2.2.2.1,p9 n)/\∀bb∈c.2.2.1,bb.1≠0) (0,X,k0 [] ce d.bf,.ai,[],S,[.str [],I 0,.ai,I 0,.str [],.str [],I 0,.ai,I 0]) ⟨by simp,es.1,xS (by simp),.inl ⟨rfl,rfl⟩,sw 1,rfl,rfl,by simp[xR,fI],by simp,by simp,IK (by simp)⟩ ?_
 rintro⟨M,X,m,b4,p,be,d7⟩ ⟨f3,r,O,H,a3,ds,d2,J,R,d5,P⟩ gj d6;simp only at f3 r O H a3 ds d2 J R d5 P d6⊢;obtain⟨hh,hj,hl,hm,hn,ho,hs,hu,hw,rfl⟩:∃bi x y s N W br bv bw,d7=[bi,x,y,s,N,W,br,bv,bw]:=by
  match d7,d2 with
  |[bi,x,y,s,N,W,br,bv,bw],_=>grind
 simp only[fm,c3,G,i,A,Q,a];refine b (λk=>?_) (λk=>?_)
 ·have k:M<Z d.ae:=by simpa using k
  have a0:d.ae[M]∈d.ae:=bs k;simp only[aC k (h9 _ _),Q,l1];obtain⟨o,L,j,ci,rfl,f0,ha,y,hg,f5⟩:=ae5 (V:=V) (F:=F) (bp:=bp) h d.ae[M] d4 (K.2.2 _ a0) w (eq _ a0);refine f L ?_;simp only[cv,dk,Q,vE,uq,ur,vR,uu,uv,uw,vS,ux,uy];refine cY (xP m ci j.bf r) (by simp[r.pl]) λac U u=>?_;have fd:(AV.agg [I j.ak,.str j.ar,I j.aq,eS bp cT j.ad,.str j.bind,.str j.af,I j.gN,I j.op,I j.bf])=.agg (a5 bp j):=rfl
  rw[fd,afe,Q];have f2:=H.mono (H':=U) λa4 a9 f4 w=>u.2 a4 a9 (by grind) w;obtain⟨id,cs,d8,x,y,s,N,W⟩:=f2.grow (bytes:=112) j (h9 bp j) (by omega);refine bj x (aD (dD:=.q id cs 0 (Z (p++[j]))) rfl ?_);rw[ba,Q];have gt:=u.1.lt;have gM:id≠1:=by
   rcases N with dl|⟨-,dl⟩
   ·exactλz=>a3 (z▸dl)
   ·omega
  refine d6 (M+1,ac,k0 m ci j.bf,.q id cs 0 (Z (p++[j])),p++[j],d8,[_,_,_,_,_,_,_,_,_]) ⟨k,?_,xS O,y,by grind[qB],by simp[ds],rfl,?_,?_,?_,IK P⟩ (by simp;omega)
  ·obtain⟨em,gh,gi⟩:=u.1
   exact⟨em,gh,s 1 _ a3 gi⟩
  ·rw[xR,J,f0,IL k,and_assoc]
  ·grind[IL,List.take_succ_eq_append_getElem]
  ·intro n v
   rcases c5.1 v with v|v
   ·grind
   ·simp only[lV]at v
    rw[v,f5];have:=K.2.2 _ a0;exact this
 ·have:M=Z d.ae:=by simp at k;omega
  subst this;rw[dB]at J R;simp only[r.ln,Q,c9];have co:∀(Y:AV)(t:List (Int×Int))(H':List Obj),kZ H' Y 1 t->Z t<=20->Gr H' b4 (a5 bp) 9 p->(∀bb∈t,bb.1≠0)->(t=[]<->ka h d)->
   bd (dh 9 (.agg [.str e.ar,I e.aq,eS bp cT e.ad,I e.af.ak,.str e.af.ar,.str e.af.aB,I e.af.aQ,b4,I e.bf])) λl=>∃o,aI H' .res (.aE [(AV.pl (.agg [(g l 0),(g l 1),(g l 2),(g l 3),(g l 4),(g l 5),(g l 6),(g l 7),(g l 8)])),(AV.pl Y)]) o/\Qx bp h d o:=by
   intro Y t H' d0 fn d1 ge fs;rw[gS (U:=9) rfl (by simp[d1.cell]),Q,d0.pl];refine⟨.aE [.agg (nO bp ⟨e.ar,e.aq,e.ad,e.af,p,e.bf⟩),eS aa bX t],.aE _ _ _ (.ck (.agg _ _ _ ?_) (.ck d0.res (.nil _))),_,_,rfl,fn,fs,λB=>?_,?_,ge⟩
   ·exact .ck (.str _ _) (.ck (.int _ _ _) (.ck cy (.ck (.int _ _ _) (.ck (.str _ _) (.ck (.str _ _) (.ck (.int _ _ _) (.ck (d1.res (by simp)) (.ck (.int _ _ _) (.nil _)))))))))
   ·rw[d3 B.1,R B.2.1]<;>rfl
   ·refine⟨by rw[f6];exact K.1,?_,d5⟩
    show Z p<1099511627776;omega
  refine b (λah=>?_) (λah=>?_)
  ·have E:m=[]:=by
    have:Z m=0:=by simpa using ah
    exact Kz.1 this
   obtain⟨ax,au⟩:=J.1 E;have f8:=d3 ax;have e2:=R au;have f7:(⟨e.ar,e.aq,e.ad,e.af,p,e.bf⟩:aG)=eH h d:=by rw[f8,e2]<;>rfl
   have f9:oh (eH h d):=by
    refine⟨K.1,?_,λn v=>?_⟩
    ·grind[Sm,eH]
    ·grind
   obtain⟨o,L,el,s,rfl,f1⟩:=ae8 (V:=V) (F:=F) (bp:=true) h (eH h d) f9 (gc ax au);refine ea _ L ?_ (.aE _ (.cons _ _ (.int _ _) (.cons _ _ (.int _ _) .nil))) ?_
   ·refine .ck cy (.ck (.agg _ _ _ ?_) (.nil _))
    rw[<-f7];exact .ck (.str _ _) (.ck (.int _ _ _) (.ck (by simp[tw,bO.snap]) (.ck (.int _ _ _) (.ck (.str _ _) (.ck (.str _ _) (.ck (.int _ _ _) (.ck (H.cm λn _=>Qw bp n) (.ck (.int _ _ _) (.nil _)))))))))
   ·simp only[cv,dk,Q]
    refine cY (xP m el s r) (by simp[r.pl]) λac U u=>?_;simp only[G,i];refine co ac _ U u.1 (xS O) (H.mono λa4 a9 f4 w=>u.2 a4 a9 (by grind) w) (IK P) ?_;rw[xR,f1];exact⟨λk=>⟨ax,au,k.2⟩,λk=>⟨E,k.2.2⟩⟩
  ·have E:m≠[]:=by
    have:¬(Z m)=0:=by simpa using ah
    exactλz=>this (by rw[z]<;>rfl)
   simp only[G,i];refine co X m be r O H P ⟨λz=>absurd z E,λB=>absurd (J.2 ⟨B.1,B.2.1⟩) E⟩
theorem tx{row:List AV}(b:Z row=U)(a:row.all AV.bP=ab):fw U bg 1 [(0,.agg row)]=T (.sl aa [row]):=by
 simp_all[fw,kj]
def uX(b:Bool)(a:Fn):List AV:=[.str a.ar,.str a.aV,I a.of,eS b cS a.src,eS b cS a.dst,eS aa cI a.gM,I a.bf]
@[simp] theorem afg(a:Bool)(b:Fn):bO (uX a b):=by simp[uX]
def afh(c k:Bool)(a:aj)(n:AV)(b:List Obj):Prop:=∃g f h i e id j,n=.aE [.agg [g,f,h,eS k (aP c) a.ah],i]/\kZ b i id e/\Z e<=20/\Gr b g (bn c) 4 a.m/\Gr b f (λo:List AV=>o) 7 j/\Gr b h (bF c) 7 (a.d.map (en a))/\
 (e=[]<->po a=ab)/\(po a=ab->j=a.aW.map λl=>uX c (eQ a l))/\¬gI g id/\¬gI f id/\¬gI h id
theorem xT:(List.range (U+1)).all b9=ab<->(List.range U).all b9=ab/\b9 U=true:=by grind
theorem afi(c:aj)(aQ:dW c)(nl:Z c.m<=100)(ms:Z c.aW<=100)(op:Z c.d<=100)(i6:∀g∈c.aW,Z g.src=Z g.dst):HR C 156 [.agg (cP V F c)] N (afh V F c):=by
 refine aaj.hq ?_;simp only[dS,Q,dZ,eA,a6,aH,fQ,oe,sT,iy,mz,aJ,a8];refine aD (dD:=[.ai,.ai,.ai,eS F (aP V) c.ah]) rfl (aD (dD:=[.ai,.ai,.ai,eS F (aP V) c.ah]) rfl ?_);simp only[G,i];have gt:Z (N++[Obj.arr 0 2 []])=Z N+1:=by simp
 rw[gt];generalize hg:Z N+1=id;generalize gh:N++[Obj.arr 0 2 []]++[Obj.arr 0 2 []]=f8;have io:kZ f8 (.q id 0 0 0) id []:=⟨0,rfl,by rw[<-gh,<-hg];simp⟩;clear gt gh hg
 refine bB (z:=Nat×AV×List (Int×Int)×AV×List Obj×List AV) (λe=>[e.2.1,I e.1]++e.2.2.2.2.2++[e.2.2.2.1,.ai,.ai,eS F (aP V) c.ah]) (λe=>e.2.2.2.2.1) (λe=>Z c.m -e.1) (λe=>e.1<=Z c.m/\kZ e.2.2.2.2.1 e.2.1 id e.2.2.1/\Z e.2.2.1<=20/\Gr e.2.2.2.2.1 e.2.2.2.1 (bn V) 4 (c.m.take e.1)/\¬gI e.2.2.2.1 id/\Z e.2.2.2.2.2=4/\(e.2.2.1=[]<->(List.range e.1).all (oy c)=ab)) (0,.q id 0 0 0,[],.ai,f8,[.ai,.ai,.ai,.ai]) ⟨by simp,io,by simp,.inl ⟨rfl,rfl⟩,sw id,rfl,by simp⟩ ?_
 rintro⟨j,J,K,u,H,a0⟩ ⟨cs,v,M,E,ex,aB,ac⟩ Y X;simp only at cs v M E ex aB ac X⊢;obtain⟨P,R,U,W,rfl⟩:∃af r t y,a0=[af,r,t,y]:=by
  match a0,aB with
  |[af,r,t,y],_=>grind
 simp only[fm,c3,G,i,A,Q,a];refine b (λl=>?_) (λl=>?_)
 ·have l:j<Z c.m:=by simpa using l
  have i2:c.m[j]∈c.m:=bs l;have gi:(AV.agg [.str c.m[j].ar,eS V cS c.m[j].au,eS V bX c.m[j].eg,I c.m[j].bf])=.agg (bn V c.m[j]):=rfl;simp only[aC l (jh _ _),Q,hF,xe,Be,Bf,Bg,Bh,gi];refine f (Ee _ (aQ.aV _ i2)) (f (Ht c c.m[j].ar aQ) ?_);have dl:bN (λx:bM=>x.ar==c.m[j].ar) c.m=dz c c.m[j].ar:=rfl;rw[dl];simp only[cd,Q];have eq:oy c j=(eu c.m[j]==0&&dz c c.m[j].ar==(j:Int)):=by rw[oy,bC l]
  have go:∀k:Int,(k=0<->oy c j=ab)->ch C 158 [J,I k,I c.m[j].bf] H λkw h3=>bd (fw 4 [(.str []),.ai,.ai,(I 0)] 1 [(0,.agg [.str c.m[j].ar,eS V cS c.m[j].au,eS V bX c.m[j].eg,I c.m[j].bf])]) λkx=>
   cc (cx 4 72 u kx h3) λlc h4=>bd (lX lc) λle=>bd (aS .s .add (I j) (I 1)) λli=>Y [kw,li,P,R,U,W,le,.ai,.ai,eS F (aP V) c.ah] h4:=by
   intro k a4;refine cY (xP K k _ v) (by simp[v.pl]) λbe ae B=>?_;rw[gi,tx (U:=4) (row:=bn V c.m[j]) rfl rfl,Q];have ci:=E.mono (H':=ae) λn o O w=>B.2 n o (by grind) w;obtain⟨ke,ge,a9,r,t,y,ak,gc⟩:=ci.grow (bytes:=72) c.m[j] (jh V _) (by grind);rw[<-hX l]at r t;refine bj r (aD rfl ?_);rw[ba,Q];have gj:=B.1.lt;have hh:ke≠id:=by
    rcases ak with z|⟨-,z⟩
    ·exactλk=>ex (k▸z)
    ·omega
   refine X (j+1,be,k0 K k c.m[j].bf,_,a9,[_,_,_,_]) ⟨l,?_,xS M,t,by grind[qB],rfl,?_⟩ (by simp;omega)
   ·obtain⟨bi,d0,d1⟩:=B.1
    exact⟨bi,d0,y id _ ex d1⟩
   ·grind[xR,xT]
  refine b (λp=>?_) (λp=>?_)
  ·simp only[G,i]
   exact go 5 (by
    grind)
  ·simp only[G,i]
   exact go (eu c.m[j]) (by
    grind)
 ·have:j=Z c.m:=by simp at l;omega
  subst this;rw[dB]at E;clear X;have ne:=ac
  refine bB (z:=Nat×AV×List (Int×Int)×AV×List (List AV)×List Obj×List AV) (λe=>[e.2.1,I e.1]++e.2.2.2.2.2.2++[u,e.2.2.2.1,.ai,eS F (aP V) c.ah]) (λe=>e.2.2.2.2.2.1) (λe=>Z c.aW -e.1) (λe=>e.1<=Z c.aW/\kZ e.2.2.2.2.2.1 e.2.1 id e.2.2.1/\Z e.2.2.1<=20/\Gr e.2.2.2.2.2.1 u (bn V) 4 c.m/\Gr e.2.2.2.2.2.1 e.2.2.2.1 (λx:List AV=>x) 7 e.2.2.2.2.1/\¬gI e.2.2.2.1 id/\(∀n,gI u n->¬gI e.2.2.2.1 n)/\Z e.2.2.2.2.1=e.1/\Z e.2.2.2.2.2.2=4/\
   (e.2.2.1=[]<->(List.range (Z c.m)).all (oy c)=ab/\(List.range e.1).all (oz c)=ab)/\((List.range e.1).all (oz c)=ab->e.2.2.2.2.1=(c.aW.take e.1).map λg=>uX V (eQ c g))) (0,J,K,.ai,[],H,[P,R,U,W]) ⟨by simp,v,M,E,.inl ⟨rfl,rfl⟩,sw id,λ_ _=>sw _,rfl,rfl,by simp[ac],by simp⟩ ?_
  rintro⟨j,J,K,L,hn,H,a0⟩ ⟨cs,v,M,ax,E,fd,i1,hj,aB,ac,f4⟩ Y X;simp only at cs v M ax E fd i1 hj aB ac f4 X⊢;obtain⟨P,R,U,W,rfl⟩:∃af r t y,a0=[af,r,t,y]:=by
   match a0,aB with
   |[af,r,t,y],_=>grind
  simp only[fm,c3,G,i,A,Q,a];refine b (λl=>?_) (λl=>?_)
  ·have l:j<Z c.aW:=by simpa using l
   have ha:c.aW[j]∈c.aW:=bs l;generalize f3:c.aW[j]=g at*;have eq:oz c j=((match c.m[(dz c g.aV).toNat]? with|some ds=>S (0<=dz c g.aV)&&e9 ds g|none=>aa)&&g8 c g.ar==(j:Int)):=by rw[oz,bC l,f3]<;>rfl
   simp only[aC l (p3 _ _),Q,f3,AH,Dd,DP,DQ,DR,DS,DT];refine f (Ht c g.aV aQ) ?_;have dl:bN (λx:bM=>x.ar==g.aV) c.m=dz c g.aV:=rfl;rw[dl];simp only[ry,Q];refine aD (dD:=.ai) rfl ?_;have go:∀(k:Int)(ad:AV),(k=0<->(match c.m[(dz c g.aV).toNat]? with|some ds=>S (0<=dz c g.aV)&&e9 ds g|none=>aa)=ab)->ad.bP=ab->(k=0->ad=eS aa cI (eQ c g).gM)->
    cp C 234 [.agg (cP V F c),.str g.ar] H λlm=>bd (aS .s .neq lm (I j)) λls=>dY ls
     (ch C 158 [J,I 5,I g.bf] H λd2 bv=>bd (fw 7 [(.str []),(.str []),(I 0),.ai,.ai,.ai,(I 0)] 1 [(0,.agg [.str g.ar,.str g.aV,I (dz c g.aV),eS V cS g.src,eS V cS g.dst,ad,I g.bf])]) λd3=>
      cc (cx 7 120 L d3 bv) λd4 bw=>bd (lX d4) λd5=>bd (aS .s .add (I j) (I 1)) λd6=>Y [d2,d6,P,R,U,W,u,d5,.ai,eS F (aP V) c.ah] bw)
     (ch C 158 [J,I k,I g.bf] H λd2 bv=>bd (fw 7 [(.str []),(.str []),(I 0),.ai,.ai,.ai,(I 0)] 1 [(0,.agg [.str g.ar,.str g.aV,I (dz c g.aV),eS V cS g.src,eS V cS g.dst,ad,I g.bf])]) λd3=>
      cc (cx 7 120 L d3 bv) λd4 bw=>bd (lX d4) λd5=>bd (aS .s .add (I j) (I 1)) λd6=>Y [d2,d6,P,R,U,W,u,d5,.ai,eS F (aP V) c.ah] bw):=by
    intro k ad a4 jp i8;refine f (Oa c g.ar aQ) ?_;have it:bN (λx:Fn=>x.ar==g.ar) c.aW=g8 c g.ar:=rfl;rw[it];simp only[cd,Q];have aq:∀a3:Int,(a3=0<->oz c j=ab)->(a3=0->ad=eS aa cI (eQ c g).gM)->ch C 158 [J,I a3,I g.bf] H λd2 bv=>bd (fw 7 [(.str []),(.str []),(I 0),.ai,.ai,.ai,(I 0)] 1 [(0,.agg [.str g.ar,.str g.aV,I (dz c g.aV),eS V cS g.src,eS V cS g.dst,ad,I g.bf])]) λd3=>
     cc (cx 7 120 L d3 bv) λd4 bw=>bd (lX d4) λd5=>bd (aS .s .add (I j) (I 1)) λd6=>Y [d2,d6,P,R,U,W,u,d5,.ai,eS F (aP V) c.ah] bw:=by
     intro a3 ip i9;refine cY (xP K a3 _ v) (by simp[v.pl]) λbe ae B=>?_;rw[tx (U:=7) (row:=[.str g.ar,.str g.aV,I (dz c g.aV),eS V cS g.src,eS V cS g.dst,ad,I g.bf]) rfl (by simp[jp]),Q];have ci:=E.mono (H':=ae) λn o O w=>B.2 n o (by grind) w;have co:=ax.mono (H':=ae) λn o O w=>B.2 n o (by grind) w
     obtain⟨hm,ge,a9,r,t,y,ak,gc⟩:=ci.grow (bytes:=120) [.str g.ar,.str g.aV,I (dz c g.aV),eS V cS g.src,eS V cS g.dst,ad,I g.bf] rfl (by omega);refine bj r (aD rfl ?_);rw[ba,Q];have gj:=B.1.lt;have hh:hm≠id:=by
      rcases ak with z|⟨-,z⟩
      ·exactλk=>fd (k▸z)
      ·omega
     have ok:∀n,gI u n->n≠hm:=by
      intro n O k;rcases ak with z|⟨-,z⟩
      ·grind
      ·have:=co.lt O;omega
     refine X (j+1,be,k0 K a3 g.bf,_,_,a9,[_,_,_,_]) ⟨l,?_,xS M,co.mono (by grind),t,by grind[qB],by grind[qB],by simp[hj],rfl,?_,?_⟩ (by simp;omega)
     ·obtain⟨bi,d0,d1⟩:=B.1
      exact⟨bi,d0,y id _ fd d1⟩
     ·grind[xR]
     ·intro f2
      rw[xT]at f2;rw[f4 f2.1,i9 (ip.2 f2.2),hX l,ht,f3]<;>rfl
    refine b (λp=>?_) (λp=>?_)
    ·refine aq 5 ?_ (λl=>by cases l)
     grind
    ·refine aq k ?_ i8
     grind
   simp only[bo,gF,Q,G,i];refine b (λp=>?_) (λp=>?_)
   ·have p:0<=dz c g.aV:=by simpa using p
    obtain⟨o,w,f0⟩:∃o:Nat,dz c g.aV=o/\o<Z c.m:=by
     rcases nH (λx:bM=>x.ar==g.aV) c.m with⟨o,w,hw,-⟩|⟨hw,-⟩
     ·grind
     omega
    rw[w]at eq go⊢;simp only[ej,bC f0]at eq go;have mk:S ((0:Int)<=(o:Int))=true:=by simp
    simp only[aC f0 (jh _ _),Q,hF];have gN:=aQ.fn g ha;obtain⟨pm,hl,k,rfl,a4⟩:=ae7 (V:=V) (F:=V) c.m[o] {g with of:=(o:Int),gM:=[]} (aQ.aV _ (bs f0)) ⟨gN.1,gN.2.1,by simp[Sm]⟩ (i6 g ha);have hs:e9 c.m[o] {g with of:=(o:Int),gM:=[]}=e9 c.m[o] g:=rfl;have kl:fe c.m[o] {g with of:=(o:Int),gM:=[]}=fe c.m[o] g:=rfl;rw[hs,kl]at hl;rw[hs]at a4;refine⟨.c4,_,_,by decide,?_,hl,(λk=>by cases k),?_⟩
    ·exact .ck cy (.ck (.agg _ _ _ (.ck (.str _ _) (.ck (.str _ _) (.ck (.int _ _ _) (.ck cy (.ck cy (.ck (.ai _ _) (.ck (.int _ _ _) (.nil _))))))))) (.nil _))
    ·simp only[ef,cv,dk,Q]
     refine aD rfl ?_;have:=go k (eS aa cI (if e9 c.m[o] g=ab then fe c.m[o] g else[])) (by grind) rfl (λ_=>by
      rw[eQ];simp only[w,ej,bC f0];grind)
     exact this
   ·have p:¬0<=dz c g.aV:=by simpa using p
    have os:(match c.m[(dz c g.aV).toNat]? with|some ds=>S (0<=dz c g.aV)&&e9 ds g|none=>aa)=false:=by
     have:S (0<=dz c g.aV)=false:=by simpa using p
     split
     ·rw[this]<;>rfl
     ·rfl
    have:=go 70 .ai (by grind) rfl (λl=>by cases l);exact this
  ·have:j=Z c.aW:=by simp at l;omega
   subst this;rw[dB]at f4;clear X
   refine bB (z:=Nat×AV×List (Int×Int)×AV×List Obj×List AV) (λe=>[e.2.1,I e.1]++e.2.2.2.2.2++[u,L,e.2.2.2.1,eS F (aP V) c.ah]) (λe=>e.2.2.2.2.1) (λe=>Z c.d -e.1) (λe=>e.1<=Z c.d/\kZ e.2.2.2.2.1 e.2.1 id e.2.2.1/\Z e.2.2.1<=20/\Gr e.2.2.2.2.1 u (bn V) 4 c.m/\Gr e.2.2.2.2.1 L (λx:List AV=>x) 7 hn/\Gr e.2.2.2.2.1 e.2.2.2.1 (bF V) 7 ((c.d.take e.1).map (en c))/\¬gI e.2.2.2.1 id/\(∀n,gI u n->¬gI e.2.2.2.1 n)/\(∀n,gI L n->¬gI e.2.2.2.1 n)/\Z e.2.2.2.2.2=4/\
    (e.2.2.1=[]<->((List.range (Z c.m)).all (oy c)=ab/\(List.range (Z c.aW)).all (oz c)=ab)/\(List.range e.1).all (ts c)=ab)) (0,J,K,.ai,H,[P,R,U,W]) ⟨by simp,v,M,ax,E,.inl ⟨by simp,rfl⟩,sw id,λ_ _=>sw _,λ_ _=>sw _,rfl,by simp[ac]⟩ ?_
   rintro⟨j,J,K,f1,H,a0⟩ ⟨cs,v,M,ax,es,E,fs,i3,i0,aB,ac⟩ Y X;simp only at cs v M ax es E fs i3 i0 aB ac X⊢;obtain⟨P,R,U,W,rfl⟩:∃af r t y,a0=[af,r,t,y]:=by
    match a0,aB with
    |[af,r,t,y],_=>grind
   simp only[fm,c3,G,i,A,Q,a];refine b (λl=>?_) (λl=>?_)
   ·have l:j<Z c.d:=by simpa using l
    generalize f6:c.d[j]=h at*;have eq:ts c j=((h.aV==[]||S (0<=dz c h.aV))&&ei c h.ar==(j:Int)):=by rw[ts,bC l,f6]
    simp only[aC l (hD _ _),Q,f6,ub,vD,qa,qb,qc,qd,qe,qf];refine f (Ht c h.aV aQ) ?_;have dl:bN (λx:bM=>x.ar==h.aV) c.m=dz c h.aV:=rfl;rw[dl];simp only[ry,Q,bo,fF];have go:∀k:Int,(k=0<->ts c j=ab)->ch C 158 [J,I k,I h.bf] H λd7 b4=>bd (fw 7 [(.str []),.ai,(.str []),(I 0),ff,(I 0),(I 0)] 1 [(0,.agg [.str h.ar,eS V cI h.bb,.str h.aV,I (en c h).of,.bool h.fI,I h.e2,I h.bf])]) λd8=>
     cc (cx 7 88 f1 d8 b4) λd9 ce=>bd (lX d9) λel=>bd (aS .s .add (I j) (I 1)) λem=>Y [d7,em,P,R,U,W,u,L,el,eS F (aP V) c.ah] ce:=by
     intro k a4;refine cY (xP K k _ v) (by simp[v.pl]) λbe ae B=>?_;rw[tx (U:=7) (row:=[AV.str h.ar,eS V cI h.bb,.str h.aV,I (en c h).of,.bool h.fI,I h.e2,I h.bf]) rfl rfl,Q];have i5:[AV.str h.ar,eS V cI h.bb,.str h.aV,I (en c h).of,.bool h.fI,I h.e2,I h.bf]=bF V (en c h):=rfl;rw[i5];have ci:=E.mono (H':=ae) λn o O w=>B.2 n o (by grind) w
     have co:=ax.mono (H':=ae) λn o O w=>B.2 n o (by grind) w;have he:=es.mono (H':=ae) λn o O w=>B.2 n o (by grind) w;obtain⟨f7,ge,a9,r,t,y,ak,gc⟩:=ci.grow (bytes:=88) (en c h) (hD V _) (by grind);have i7:(c.d.take j).map (en c)++[en c h]=(c.d.take (j+1)).map (en c):=by
      rw[hX l,ht,f6]<;>rfl
     rw[i7]at r t;refine bj r (aD rfl ?_);rw[ba,Q];have gj:=B.1.lt;have hh:f7≠id:=by
      rcases ak with z|⟨-,z⟩
      ·exactλk=>fs (k▸z)
      ·omega
     have ol:∀n,gI u n->n≠f7:=by
      intro n O k;rcases ak with z|⟨-,z⟩
      ·grind
      ·have:=co.lt O;omega
     have mt:∀n,gI L n->n≠f7:=by
      intro n O k;rcases ak with z|⟨-,z⟩
      ·grind
      ·have:=he.lt O;omega
     refine X (j+1,be,k0 K k h.bf,_,a9,[_,_,_,_]) ⟨l,?_,xS M,co.mono (by grind),he.mono (by grind),t,by grind[qB],by grind[qB],by grind[qB],rfl,?_⟩ (by simp;omega)
     ·obtain⟨bi,d0,d1⟩:=B.1
      exact⟨bi,d0,y id _ fs d1⟩
     ·rw[xR,ac,a4,xT,and_assoc]
    have aq:∀k:Int,(k=0<->(h.aV==[]||S (0<=dz c h.aV))=ab)->cp C 235 [.agg (cP V F c),.str h.ar] H λlw=>bd (aS .s .neq lw (I j)) λl0=>dY l0
     (ch C 158 [J,I 5,I h.bf] H λd7 b4=>bd (fw 7 [(.str []),.ai,(.str []),(I 0),ff,(I 0),(I 0)] 1 [(0,.agg [.str h.ar,eS V cI h.bb,.str h.aV,I (en c h).of,.bool h.fI,I h.e2,I h.bf])]) λd8=>
      cc (cx 7 88 f1 d8 b4) λd9 ce=>bd (lX d9) λel=>bd (aS .s .add (I j) (I 1)) λem=>Y [d7,em,P,R,U,W,u,L,el,eS F (aP V) c.ah] ce)
     (ch C 158 [J,I k,I h.bf] H λd7 b4=>bd (fw 7 [(.str []),.ai,(.str []),(I 0),ff,(I 0),(I 0)] 1 [(0,.agg [.str h.ar,eS V cI h.bb,.str h.aV,I (en c h).of,.bool h.fI,I h.e2,I h.bf])]) λd8=>
      cc (cx 7 88 f1 d8 b4) λd9 ce=>bd (lX d9) λel=>bd (aS .s .add (I j) (I 1)) λem=>Y [d7,em,P,R,U,W,u,L,el,eS F (aP V) c.ah] ce):=by
     intro k a4;refine f (Hu c h.ar aQ) ?_;have i4:bN (λx:cD=>x.ar==h.ar) c.d=ei c h.ar:=rfl;rw[i4];simp only[cd,Q];refine b (λp=>?_) (λp=>?_)
     ·refine go 5 ?_
      grind
     ·refine go k ?_
      grind
    refine b (λp=>?_) (λp=>?_)
    ·have br:h.aV=[]:=by simpa using p
     have f5:(en c h).of= -1:=by rw[en,if_pos br]
     rw[f5]at aq;have:=aq 0 (by simp[br]);simp only[G,i,br,beq_self_eq_true,kI,ib,Q,fE,cZ,if_false,bZ]at this⊢;exact this
    ·have br:h.aV≠[]:=by simpa using p
     have f5:(en c h).of=dz c h.aV:=by rw[en,if_neg br]
     rw[f5]at aq;simp only[G,i,ib,p,mR,Q,fE,if_true,A];refine b (λii=>?_) (λii=>?_)
     ·have:=aq 70 (by
       grind)
      exact this
     ·have:=aq 0 (by
       grind)
      exact this
   ·have:j=Z c.d:=by simp at l;omega
    subst this;rw[dB]at E;rw[gS (U:=4) rfl (by simp[ax.cell,es.cell,E.cell]),Q,v.pl];have mp:po c=ab<->((List.range (Z c.m)).all (oy c)=ab/\(List.range (Z c.aW)).all (oz c)=ab)/\(List.range (Z c.d)).all (ts c)=true:=by
     rw[po,bG,bG]
    exact⟨u,L,f1,J,K,id,hn,rfl,v,M,ax,es,E,by grind,by grind,ex,fd,fs⟩
theorem sx(b:ek aU dG o=ab):(Z o:Int)<=aU/\∀a∈o,dG a=true:=by
 grind[ek]
structure Qy(l:Lit):Prop where
 ak:1<=l.ak/\l.ak<=5
 ad:Z l.ad<=4
 BI:∀t∈l.ad,ic t=ab
 af:(l.ak=3\/l.ak=4)\/l.af=[]
 bind:l.bind≠[]->l.ak=1
 cmp:l.ak=5->Z l.ad=2
variable{P:Lit}
theorem afj(a:mC P=ab):Qy P:=by
 unfold mC at a;simp only[bG]at a;obtain⟨⟨⟨⟨⟨⟨⟨-,e⟩,f⟩,c⟩,-⟩,g⟩,h⟩,i⟩:=a;obtain⟨d,b⟩:=sx c;refine⟨(by grind),by omega,b,?_,λj=>?_,λk=>?_⟩
 ·grind
 ·grind
 grind
structure EM(r:aG):Prop where
 ak:0<=r.af.ak/\r.af.ak<=3
 none:r.ar=[]->r.ad=[]/\r.af.ak=0
 aB:(r.af.ak=2\/r.af.ak=3)<->r.af.aB≠[]
 ad:Z r.ad<=4
 BI:∀t∈r.ad,ic t=ab
 ae:Z r.ae<=8
 lit:∀l∈r.ae,Qy l
theorem afk(a:isVar bH=ab):bH≠[]:=by
 rintro rfl;have:isVar []=false:=by decide
 grind
theorem Qz(a:l6 u=ab):EM u:=by
 unfold l6 at a;simp only[bG]at a;obtain⟨⟨⟨⟨⟨⟨⟨⟨-,h⟩,i⟩,-⟩,j⟩,-⟩,k⟩,c⟩,d⟩:=a;obtain⟨e,b⟩:=sx c;obtain⟨f,g⟩:=sx d;refine⟨(by grind),λl=>?_,?_,by omega,b,by omega,by grind[afj]⟩
 ·simp_all
 grind[afk]
structure afl(p:aj):Prop where
 m:Z p.m<=4
 aW:Z p.aW<=8
 d:Z p.d<=24
 ah:Z p.ah<=40
 fn:∀f∈p.aW,Z f.src=Z f.dst/\Z f.src<=8
 bb:∀q∈p.d,Z q.bb<=4/\∀k∈q.bb,k=1\/k=2
 hG:∀r∈p.ah,EM r
theorem BJ(a:p8 M=ab):afl M:=by
 unfold p8 at a;simp only[bG]at a;obtain⟨⟨⟨e,f⟩,g⟩,h⟩:=a;obtain⟨l,-⟩:=sx e;obtain⟨m,b⟩:=sx f;obtain⟨n,c⟩:=sx g;obtain⟨o,p⟩:=sx h;refine⟨by omega,by omega,by omega,by omega,λd i=>?_,λk j=>?_,by grind[Qz]⟩
 ·have:=b d i
  unfold r2 at this;simp only[bG,beq_iff_eq]at this;have q:=(sx this.1.2).1;omega
 ·have:=c k j
  unfold r3 at this;simp only[bG]at this;obtain⟨r,s⟩:=sx this.1.1.1.2;grind[lH]
theorem afm(a:ic b3=ab)(b:b3.aB=[]):b3.const.ty≠0:=by
 grind[ic,qX]
theorem QA(b:M.d[(ei M bH).toNat]?=T pK)(c:S (0<=ei M bH)=ab):∃a:Nat,∃e:a<Z M.d,ei M bH=a/\M.d[a]=pK:=by
 grind
theorem QB(a:mf pK mW=ab):Z mW=Z pK.bb:=by
 grind[mf]
theorem IM(b:fU M u=ab)(j:u.ar≠[]):∃a:Nat,∃e:a<Z M.d,ei M u.ar=a/\M.d[a].fI=aa/\Z u.ad=Z M.d[a].bb/\(u.af.ak=0<->M.d[a].of<0)/\
 (u.af.ak=1->0<=e1 M M.d[a] u.af.ar)/\(u.af.ak=3->∃c:Nat,∃q:c<Z M.aW,g8 M u.af.ar=c/\M.aW[c].of=M.d[a].of):=by
 unfold fU at b;have k:(u.ar==[])=false:=by simpa using j
 rw[k,kh]at b;split at b
 ·cases b
 ·rename_i r l
  simp only[bG]at b;obtain⟨⟨⟨⟨⟨g,m⟩,h⟩,n⟩,o⟩,p⟩:=b;obtain⟨a,e,f,rfl⟩:=QA l g;refine⟨a,e,f,by grind,QB h,?_,λi=>?_,λi=>?_⟩
  ·grind
  ·grind
  grind
theorem EN(b:gH M P=ab)(e:P.ak≠5):∃a:Nat,∃c:a<Z M.d,ei M P.ar=a/\Z P.ad=Z M.d[a].bb/\(P.bind≠[]\/P.ak=3\/P.ak=4->0<=M.d[a].of)/\
 (P.ak=3\/P.ak=4->0<=e1 M M.d[a] P.af/\∃f,M.m[M.d[a].of.toNat]?=T f/\e1 M M.d[a] P.af≠fy f []):=by
 unfold gH at b;rw[if_neg e]at b;split at b
 ·cases b
 ·rename_i o j
  simp only[bG]at b;obtain⟨⟨⟨h,i⟩,k⟩,l⟩:=b;obtain⟨a,c,g,rfl⟩:=QA j h;refine⟨a,c,g,QB i,λn=>?_,λe=>?_⟩
  ·grind
  grind
theorem QC(y:∀q∈M.d,Z q.bb<=4/\∀p∈q.bb,p=1\/p=2)(g:EM u)(r:fU M u=ab)(m:u.ae.all (gH M)=ab):BG M (eH M u):=by
 rw[fi]at m;have k:∀e∈(eH M u).ae,∃a∈u.ae,e=g9 M a:=by
  intro e c;simp only[eH,du]at c;obtain⟨a,b,rfl⟩:=c;exact⟨a,b,rfl⟩
 refine⟨?_,?_,λe c=>?_,λj=>?_,λe c j=>?_,λe c i=>?_,λq z p i=>?_,λe c x w o=>?_,λe c v=>?_,λo=>?_⟩
 ·have:=g.ad;show Z u.ad<=100;omega
 ·have:=g.ae
  grind[eH]
 ·obtain⟨a,b,rfl⟩:=k e c
  have:=(g.lit a b).ad;show Z a.ad<=100;omega
 ·have j:0<=kE M u:=j
  have n:u.ar≠[]:=by grind[kE]
  obtain⟨f,h,l,-,t,-⟩:=IM r n;refine⟨f,h,?_,by show Z u.ad<=_;omega⟩;show kE M u=f;grind[kE]
 ·obtain⟨a,b,rfl⟩:=k e c
  have j:0<=mg M a:=j;have i:a.ak≠5:=by grind[mg]
  obtain⟨f,h,l,t,-⟩:=EN (m a b) i;refine⟨f,h,?_,by show Z a.ad<=_;omega⟩;show mg M a=f;grind[mg]
 ·obtain⟨a,b,rfl⟩:=k e c
  exact(g.lit a b).cmp i
 ·grind
 ·obtain⟨a,b,rfl⟩:=k e c
  exact afm ((g.lit a b).BI x w) o
 ·obtain⟨a,b,rfl⟩:=k e c
  have i:=(g.lit a b).bind v;obtain⟨f,h,l,-⟩:=EN (m a b) (by omega);refine⟨f,?_,h⟩;show mg M a=f;grind[mg]
 ·have i:=(g.aB.2 o)
  have n:u.ar≠[]:=λs=>by have:=(g.none s).2;omega
  obtain⟨f,h,l,-⟩:=IM r n;refine⟨f,?_,h⟩;show kE M u=f;grind[kE]
variable{jT:List aG}
theorem QD(e:∀a∈M.d,Z a.bb<=4/\∀b∈a.bb,b=1\/b=2):∀a∈(dT M jT).d,Z a.bb<=4/\∀b∈a.bb,b=1\/b=2:=by
 intro a c;simp only[dT,du]at c;obtain⟨g,f,rfl⟩:=c;exact e g f
theorem afn(a:aj)(b:k):dz a b<Z a.m:=by
 grind[nH,dz]
theorem EO(a:aj)(d:List aG):kz (dT a d):=by
 intro f c;simp only[dT,du]at c;obtain⟨b,e,rfl⟩:=c;have:=afn a b.aV;show(if b.aV=[]then -1 else dz a b.aV)<(Z a.m:Int);omega
theorem QE(a:dW M)(i:Sm jT)(j:∀l∈jT,oh l):dW (dT M jT):=by
 refine⟨a.m,a.aV,?_,λo e=>?_,?_,λq f=>?_,i,j⟩
 ·have:=a.aW;grind[Sm,dT]
 ·simp only[dT,du]at e
  obtain⟨c,b,rfl⟩:=e;obtain⟨g,h,n⟩:=a.fn c b;refine⟨g,h,?_⟩;unfold eQ;simp only;split
  ·rename_i k p
   split
   ·have:=(a.aV k (by grind)).1
    grind[Sm,fe]
   ·simp[Sm]
  ·simp[Sm]
 ·have:=a.d;grind[Sm,dT]
 ·simp only[dT,du]at f
  obtain⟨c,b,rfl⟩:=f;exact a.q0 c b
theorem afo(b:Bool)(a:bM):bR N .c4 (bn b a) (bn ab a):=
 .ck (.str _ _) (.ck (by simp[rz,bO.snap]) (.ck (by simp[rz,bO.snap]) (.ck (.int _ _ _) (.nil _))))
theorem QF(b:Bool)(a:bM):bR N .cm (bn b a) (bn ab a):=
 .ck (.str _ _) (.ck (by simp[tw,bO.snap]) (.ck (by simp[tw,bO.snap]) (.ck (.int _ _ _) (.nil _))))
theorem afp(b:Bool)(a:Fn):bR N .c4 (uX b a) (b8 ab a):=
 .ck (.str _ _) (.ck (.str _ _) (.ck (.int _ _ _) (.ck (by simp[rz,bO.snap]) (.ck (by simp[rz,bO.snap]) (.ck (by simp[rz,bO.snap]) (.ck (.int _ _ _) (.nil _)))))))
theorem afq(b:Bool)(a:Fn):bR N .cm (uX b a) (b8 ab a):=
 .ck (.str _ _) (.ck (.str _ _) (.ck (.int _ _ _) (.ck (by simp[tw,bO.snap]) (.ck (by simp[tw,bO.snap]) (.ck (by simp[tw,bO.snap]) (.ck (.int _ _ _) (.nil _)))))))
theorem afr(b:Bool)(a:cD):bR N .c4 (bF b a) (bF ab a):=
 .ck (.str _ _) (.ck (by simp[rz,bO.snap]) (.ck (.str _ _) (.ck (.int _ _ _) (.ck (.bool _ _) (.ck (.int _ _ _) (.ck (.int _ _ _) (.nil _)))))))
theorem afs(b:Bool)(a:cD):bR N .cm (bF b a) (bF ab a):=
 .ck (.str _ _) (.ck (by simp[tw,bO.snap]) (.ck (.str _ _) (.ck (.int _ _ _) (.ck (.bool _ _) (.ck (.int _ _ _) (.ck (.int _ _ _) (.nil _)))))))
theorem aft(a:Bool)(b:aG):bR N .cm (nO a b) (aP ab b):=
 .ck (.str _ _) (.ck (.int _ _ _) (.ck (by simp[tw,bO.snap]) (.ck (.int _ _ _) (.ck (.str _ _) (.ck (.str _ _) (.ck (.int _ _ _) (.ck (tw λc _=>Qw a c) (.ck (.int _ _ _) (.nil _)))))))))
variable{mZ:cn -> List AV}
theorem IN{g:z->cn}(b:∀a∈o,bR N cA (a2 a) (mZ (g a))):eX N cA (o.map a2) ((o.map g).map mZ):=by
 induction o with
 |nil=>exact .nil _
 |cons a o c=>exact .ck (b a (by simp)) (by grind)
theorem IP{d:List bM}{c:List Fn}{e:List cD}{h:List aG}:∀(a:List Lit)(b:Bool),lO ⟨d,c,e,jT⟩ u a b=lO ⟨d,c,e,h⟩ u a b
 |[],_=>rfl
 |l::a,b=>by
  simp only[lO];have g:∀f,hK ⟨d,c,e,jT⟩ f=hK ⟨d,c,e,h⟩ f:=λ_=>rfl;rw[g,g,IP a b,IP a ab]
theorem afu{b:List bM}{a:List Fn}{c:List cD}{d:List aG}:ka ⟨b,a,c,jT⟩ u<->ka ⟨b,a,c,d⟩ u:=by
 have f:fU ⟨b,a,c,jT⟩ u=fU ⟨b,a,c,d⟩ u:=rfl;have g:gH ⟨b,a,c,jT⟩=gH ⟨b,a,c,d⟩:=rfl;have h:eH ⟨b,a,c,jT⟩ u=eH ⟨b,a,c,d⟩ u:=rfl;have i:∀e,wk ⟨b,a,c,jT⟩ e=wk ⟨b,a,c,d⟩ e:=λ_=>rfl;grind[rk,IP,ka,tv]
def uY(a:aj):Prop:=p8 a=ab/\po a=ab/\∀b∈a.ah,ka (dT a []) b
def qC(a:aj):aj:=dT a (a.ah.map (eH (dT a [])))
def QG(c:aj)(e:AV):Prop:=∃a b,e=.aE [.agg a,eS aa bX b]/\Z a=4/\a.all AV.bP=ab/\bO a/\(b=[]<->uY c)/\(b=[]->∀d,bR d .c4 a (cP ab ab (qC c)))
theorem QH:∀(b:List (Int×Int))(a:List (Int×Int)),(∀x∈b,x.1≠0)->Z a<=20->(b.foldl (λa x=>k0 a x.1 x.2) a=[]<->a=[]/\b=[])/\Z (b.foldl (λa x=>k0 a x.1 x.2) a)<=20
 |[],a,_,c=>by grind
 |x::b,a,d,c=>by
  have e:=QH b (k0 a x.1 x.2) (by grind) (xS c);grind[xR]
theorem QI(b:∀x,rV (a2 x)):∀a:List z,vr (a.map a2)
 |[]=>.nil
 |x::a=>.cons _ _ (b x) (QI b a)
theorem rA(b:∀c,rV (a2 c))(a:List z):NB (eS aa a2 a):=.sl _ (QI b a)
theorem QJ(a:List aM):NB (eS aa cT a):=rA (λb=>.cons _ _ (.str _) (.cons _ _ (.int _ _) (.cons _ _ (.int _ _) (.cons _ _ (.str _) .nil)))) a
theorem afv(a:List Lit):NB (eS aa (a5 aa) a):=rA (λb=>.cons _ _ (.int _ _) (.cons _ _ (.str _) (.cons _ _ (.int _ _) (.cons _ _ (QJ _) (.cons _ _ (.str _) (.cons _ _ (.str _) (.cons _ _ (.int _ _) (.cons _ _ (.int _ _) (.cons _ _ (.int _ _) .nil))))))))) a
theorem QK(a:List (Int×Int)):NB (eS aa bX a):=rA (λb=>.cons _ _ (.int _ _) (.cons _ _ (.int _ _) .nil)) a
theorem afw(c:aj)(a9:dW c):∃r,PR C 102 [.agg (cP aa V c)] r/\QG c r:=by
 refine aaa.ex ?_;simp only[dS,Q,dZ,eA,fQ,a6,aH,mz,aJ,a8,c3,de];refine f (acG c a9 λv hl=>Hq v (a9.hG v hl)) ?_;simp only[bD,Q];have f1:∀k:List Obj,aI k .res (.agg [.ai,.ai,.ai,.ai]) (.agg [.sl aa [],.sl aa [],.sl aa [],.sl aa []]):=λk=>.agg _ _ _ (.ck (.ai _ _) (.ck (.ai _ _) (.ck (.ai _ _) (.ck (.ai _ _) (.nil _)))));have fI:bO [AV.sl aa [],.sl aa [],.sl aa [],.sl aa []]:=by
  have:∀M,Im (.sl M []):=λM=>.sl M [] .nil;simp[this]
 refine c8 (λbw=>?_) (λbw=>?_)
 ·refine aD (dD:=[.ai,.ai,.ai,.ai]) rfl (aD (dD:=[I 1,I 0]) rfl (bj (dD:=.q 1 0 0 1) (b:=[.arr 0 2 [],.arr 0 2 [[I 1,I 0]]]) rfl (aD (dD:=[.ai,.ai,.ai,.ai]) rfl ?_)))
  refine⟨.aE [.agg [.sl aa [],.sl aa [],.sl aa [],.sl aa []],eS aa bX [(1,0)]],.aE _ _ _ (.ck (f1 _) (.ck ?_ (.nil _))),_,_,rfl,rfl,rfl,fI,?_,by simp⟩
  ·exact fx (o:=[((1:Int),(0:Int))]) (a2:=bX) (U:=2) (O:=0) rfl (by simp)
  ·constructor
   ·grind
   ·intro he;have:=he.1;grind
 ·have J:=BJ bw
  refine cY (afi c a9 (by have:=J.m;omega) (by have:=J.aW;omega) (by have:=J.d;omega) (λs gM=>(J.fn s gM).1)) rfl λmp dl ge=>?_;obtain⟨S,N,U,F,l,id,kl,rfl,p,ce,w,u,x,H,d5,ip,it,i0⟩:=ge;simp only[ef,cv,dk,Q];rw[gS (U:=4) rfl (by simp[w.cell,u.cell,x.cell]),Q];simp only[p.ln,Q,er,G,i]
  have bad:∀(F:AV)(l:List (Int×Int))(k:List Obj)(id:Nat),kZ k F id l->l≠[]->¬uY c->bd (ko [.ai,.ai,.ai,.ai] []) λf5=>bd (dh 4 (.agg f5)) λac=>∃r,aI k .res (.aE [(AV.pl (.agg [(g ac 0),(g ac 1),(g ac 2),(g ac 3)])),(AV.pl F)]) r/\QG c r:=by
   intro F l k id p R lm;refine aD (dD:=[.ai,.ai,.ai,.ai]) rfl (aD (dD:=[.ai,.ai,.ai,.ai]) rfl ?_);rw[p.pl];exact⟨.aE [.agg [.sl aa [],.sl aa [],.sl aa [],.sl aa []],eS aa bX l],.aE _ _ _ (.ck (f1 _) (.ck p.res (.nil _))),_,_,rfl,rfl,rfl,fI,by grind,λau=>absurd au R⟩
  refine b (λn=>?_) (λn=>?_)
  ·have R:l≠[]:=by
    rintro rfl;simp at n
   exact bad F l dl id p R (λO=>R (H.2 O.2.1))
  ·have a0:l=[]:=by
    simpa using n
   have d2:=H.1 a0;have gN:=d5 d2;subst gN;subst a0;refine aD (dD:=.ai) rfl ?_
   refine bB (z:=Nat×AV×List (Int×Int)×AV×List aG×List Obj×List AV) (λe=>[e.2.1,I e.1]++e.2.2.2.2.2.2++[S,N,U,e.2.2.2.1]) (λe=>e.2.2.2.2.2.1) (λe=>Z c.ah -e.1) (λe=>e.1<=Z c.ah/\kZ e.2.2.2.2.2.1 e.2.1 id e.2.2.1/\Z e.2.2.1<=20/\Gr e.2.2.2.2.2.1 S (bn aa) 4 c.m/\Gr e.2.2.2.2.2.1 N (λo:List AV=>o) 7 (c.aW.map λs=>uX aa (eQ c s))/\Gr e.2.2.2.2.2.1 U (bF aa) 7 (c.d.map (en c))/\
    Gr e.2.2.2.2.2.1 e.2.2.2.1 (nO aa) 9 e.2.2.2.2.1/\¬gI e.2.2.2.1 id/\(∀h,gI S h\/gI N h\/gI U h->¬gI e.2.2.2.1 h)/\Z e.2.2.2.2.1=e.1/\Z e.2.2.2.2.2.2=4/\(∀v∈e.2.2.2.2.1,oh v)/\
    (e.2.2.1=[]<->∀v∈c.ah.take e.1,ka (dT c []) v)/\((∀v∈c.ah.take e.1,ka (dT c []) v)->e.2.2.2.2.1=(c.ah.take e.1).map (eH (dT c [])))) (0,F,[],.ai,[],dl,[.ai,.ai,.ai,.ai]) ⟨by simp,p,by simp,w,u,x,.inl ⟨rfl,rfl⟩,sw id,λ_ _=>sw _,rfl,rfl,by simp,by simp,by simp⟩ ?_
   clear p w u x H d5 n;rintro⟨z,F,l,i4,rl,k,f0⟩ ⟨hg,p,ce,w,u,x,P,a4,hn,el,d9,ho,H,a3⟩ i7 fd;simp only at hg p ce w u x P a4 hn el d9 ho H a3 fd⊢;obtain⟨hw,h3,h4,ii,rfl⟩:∃ds W X Y,f0=[ds,W,X,Y]:=by
    match f0,d9 with
    |[ds,W,X,Y],_=>grind
   simp only[fm,c3,G,i,A,Q,a];have ls:=J.ah;refine b (λn=>?_) (λn=>?_)
   ·have n:z<Z c.ah:=by simpa using n
    have em:c.ah[z]∈c.ah:=bs n;have ci:=J.hG _ em;have gj:ka (dT c rl) c.ah[z]<->ka (dT c []) c.ah[z]:=afu;have go:eH (dT c rl) c.ah[z]=eH (dT c []) c.ah[z]:=rfl;simp only[aC n (kQ _ _),Q,kR];obtain⟨r,eq,j,E,rfl,kw,d3,co,mk,hs⟩:=aff (V:=true) (F:=true) (bp:=false) (dT c rl) c.ah[z] (by grind[QE,Sm]) (EO c rl) (a9.hG _ em) (by have:=ci.ae;omega) (λcs hh=>(ci.lit cs hh).cmp)
     (λB f4=>QC (QD J.bb) ci B f4)
    rw[gj]at d3 co;rw[go]at co;refine ea _ eq ?_ (.aE _ (.cons _ _ ?_ (.cons _ _ ?_ .nil))) ?_
    ·refine .ck (.agg _ _ _ ?_) (.ck cy (.nil _))
     refine .ck (w.cm (by grind[QF])) (.ck ?_ (.ck (x.cm (by grind[afs])) (.ck (P.cm (by grind[aft])) (.nil _))));have:=u.cm (b:=λo:List AV=>o) (N:=k);rcases u with⟨e0,bv⟩|⟨hu,gc,bv,f8⟩
     ·rw[bv]
      have:c.aW=[]:=by simpa using e0
      show aI k .cm .ai (eS ab (b8 ab) (c.aW.map (eQ c)));rw[this];exact .ai _ _
     ·rw[bv]
      refine .vq hu gc 0 _ 7 _ _ f8 (by simp) ?_;rw[jR,fW (by simp)];simp only[FG];exact IN (by grind[afq,eQ])
    ·exact .agg _ (.cons _ _ (.str _) (.cons _ _ (.int _ _) (.cons _ _ (QJ _) (.cons _ _ (.int _ _) (.cons _ _ (.str _) (.cons _ _ (.str _) (.cons _ _ (.int _ _) (.cons _ _ (afv _) (.cons _ _ (.int _ _) .nil)))))))))
    ·exact QK _
    ·simp only[cv,dk,Q,afc]
     have d4:=QH E l hs ce;refine bB (z:=Nat×AV×List Obj) (λe=>[e.2.1,I e.1,hw,h3,h4,ii,S,N,U,i4]++nO aa j) (λe=>e.2.2) (λe=>Z E -e.1) (λe=>e.1<=Z E/\kZ e.2.2 e.2.1 id ((E.take e.1).foldl (λl o=>k0 l o.1 o.2) l)/\rn id k e.2.2) (0,F,k) ⟨by simp,by simpa using p,rn.refl id k⟩ ?_;rintro⟨h,f6,f3⟩ ⟨y,L,b4⟩ i8 fs;simp only at y L b4 fs⊢
     have gi:nO aa j=[.str j.ar,I j.aq,eS aa cT j.ad,I j.af.ak,.str j.af.ar,.str j.af.aB,I j.af.aQ,eS aa (a5 aa) j.ae,I j.bf]:=rfl;simp only[gi,fm,c3,G,i,a8,A,Q,a];refine b (λt=>?_) (λt=>?_)
     ·have t:h<Z E:=by simpa using t
      simp only[aC t (r1 _),Q,a6,aH,Dg,Dh,aJ];refine cY (xP _ E[h].1 E[h].2 L) (by simp[L.pl]) λf7 br gh=>?_;rw[ba,Q];have i1:=fs (h+1,f7,br) ⟨t,by grind[jB],b4.trans gh.2⟩ (by simp;omega);exact i1
     ·have:h=Z E:=by simp at t;omega
      subst this;rw[dB]at L;have hm:(AV.agg [.str j.ar,I j.aq,eS aa cT j.ad,I j.af.ak,.str j.af.ar,.str j.af.aB,I j.af.aQ,eS aa (a5 aa) j.ae,I j.bf])=.agg (nO aa j):=rfl;rw[hm,tx (U:=9) (row:=nO aa j) rfl rfl,Q];have bi:∀{r:AV},(¬gI r id)->∀(h:Nat)(K:Obj),gI r h->k[h]?=T K->f3[h]?=T K:=λli h K eq hj=>b4 h K (by grind) hj;have ha:=P.mono (bi a4);have d7:=w.mono (bi ip);have d6:=u.mono (bi it)
      have d8:=x.mono (bi i0);obtain⟨e2,d1,br,W,X,Y,d0,i9⟩:=ha.grow (bytes:=128) j (afb aa j) (by omega);refine bj W (aD rfl ?_);rw[ba,Q];have kx:=L.lt;have le:e2≠id:=by
       rcases d0 with ax|⟨-,ax⟩
       ·exactλau=>a4 (au▸ax)
       ·omega
      have md:∀h,gI S h\/gI N h\/gI U h->h≠e2:=by
       intro h y au;rcases d0 with ax|⟨-,ax⟩
       ·grind
       ·rcases y with y|y|y
        ·have:=d7.lt y;omega
        ·have:=d6.lt y;omega
        ·have:=d8.lt y;omega
      refine fd (z+1,f6,_,_,rl++[j],br,[_,_,_,_]) ⟨n,?_,d4.2,d7.mono (by grind),d6.mono (by grind),d8.mono (by grind),X,by grind[qB],by grind[qB],by simp[el],rfl,?_,?_,?_⟩ (by simp;omega)
      ·obtain⟨f9,i2,i3⟩:=L
       exact⟨f9,i2,Y id _ a4 i3⟩
      ·grind
      ·rw[d4.1,H,d3,hX n]
       grind
      ·intro o
       rw[hX n]at o⊢;rw[a3 (by grind),co (by grind),ht]<;>rfl
   ·have:z=Z c.ah:=by simp at n;omega
    subst this;rw[dB]at H a3;simp only[p.ln,Q,er];have lw:uY c<->∀v∈c.ah,ka (dT c []) v:=⟨λO=>O.2.2,λO=>⟨bw,d2,O⟩⟩;refine b (λt=>?_) (λt=>?_)
    ·have R:l≠[]:=by
      rintro rfl;simp at t
     grind
    ·have a0:l=[]:=by simpa using t
     have gt:=H.1 a0;rw[gS (U:=4) rfl (by simp[w.cell,u.cell,x.cell,P.cell]),Q];simp only[G,i];have es:hT k (k++[.arr 0 2 []]):=hT.app _ _;have be:∀{r:AV}(h:Nat)(K:Obj),gI r h->k[h]?=T K->(k++[Obj.arr 0 2 []])[h]?=T K:=by grind
     refine⟨.aE [.agg [eS aa (bn aa) c.m,eS aa (λo:List AV=>o) (c.aW.map λs=>uX aa (eQ c s)),eS aa (bF aa) (c.d.map (en c)),eS aa (nO aa) rl],eS aa bX []],.aE _ _ _ (.ck (.agg _ _ _ ?_) (.ck ?_ (.nil _))),_,_,rfl,rfl,rfl,?_,?_,λ_ i6=>?_⟩
     ·refine .ck ((w.mono be).res (by simp)) (.ck ((u.mono be).res λo es=>?_) (.ck ((x.mono be).res (by simp)) (.ck ((P.mono be).res (by simp)) (.nil _))))
      obtain⟨s,-,rfl⟩:=du.1 es;simp
     ·exact fx (o:=([]:List (Int×Int))) (a2:=bX) (U:=2) (O:=0) (by simp) (by simp)
     ·have lc:Im (eS aa (λo:List AV=>o) (c.aW.map λs=>uX aa (eQ c s))):=by
       refine .sl _ _ ?_;rw[FG];exact(by grind[GD,afg,eQ])
      have l0:Im (eS aa (nO aa) rl):=by simp[kP,afa]
      simp_all
     ·grind
     ·rw[a3 gt]
      refine .ck (rz (by grind[afo])) (.ck ?_ (.ck (rz (by grind[afr])) (.ck (rz (by grind[afd])) (.nil _))));refine .z7 aa _ _ ?_;simp only[FG];exact IN (by grind[afp,eQ])
open Classical in
theorem afx(a:aj)(p:dW a):PR C 48 [.agg (cP aa V a)] (.bool (iH a)):=by
 refine Z4.pr ?_;obtain⟨z,u,q,n,rfl,o,r,y,s,t⟩:=afw (V:=V) a p;simp only[dS,Q,fQ];refine f u ?_;simp only[ef,cv,dk,Q];rw[gS o r,Q];obtain⟨g,h,j,k,rfl⟩:∃g h j k,q=[g,h,j,k]:=by
  match q,o with
  |[g,h,j,k],_=>grind
 simp only[a8,c9,Q,G,i,bo];have v:nN a<->uY a/\a=qC a:=by
  unfold nN uY qC;constructor
  ·rintro⟨e,d,l,b⟩;exact⟨⟨e,d,l⟩,b⟩
  ·rintro⟨⟨e,d,l⟩,b⟩;exact⟨e,d,l,b⟩
 refine aZ (λc=>?_) (λc=>?_)
 ·have m:n=[]:=by simpa using c
  refine⟨.c4,_,_,by decide,?_,acx (V:=false) (F:=V) (bp:=true) (b2:=true) a (qC a) p,(λb=>by cases b),?_⟩
  ·have:=t m
   refine .ck cy (.ck (.agg _ _ _ ?_) (.nil _));grind
  simp_all[iH]
 ·have m:n≠[]:=by
   rintro rfl;simp at c
  refine bE ?_;rw[iH,decide_eq_false_iff_not,v];exactλc=>m (s.2 c.1)
theorem QL(a:nN M):kz M:=by
 have:=a.2.2.2;grind[EO]
theorem QM:iH M=ab<->nN M:=by simp[iH]
theorem xU(a:aj)(b:List aw)(d:dW a)(h:Sm b)(g:∀e∈b,eO e.ad):PR C 15 [.agg (cP aa V a),eS F (cF bp) b] (.bool (iH a&&jk a b)):=by
 refine Wj.pr ?_;simp only[dS,Q,fQ,bo];refine f (afx a d) (aZ (λc=>?_) (λc=>bE (by rw[c]<;>rfl)));exact f (adS a b d (QL (QM.1 c)) h g) (gU (by rw[c]<;>rfl))
def BL(a:Option (List aw)):AV:=match a with|some gs=>.aE [eS aa (cF aa) gs,I 0]|none=>.aE [eS aa (cF aa) [],I 2]
def tz(a:Int):AV:=.aE [eS aa (cF aa) [],I a]
variable{bz:List aO}{X:List aw}
variable{eT:cO}
abbrev aN:=List (Nat×Obj)
def w(c:List Obj)(a:aN):Prop:=(a.map Prod.fst).Nodup/\∀b∈a,c[b.1]?=T b.2
variable{p:aN}
theorem w.get(a:w N p)(b:(U,iX)∈p):N[U]?=T iX:=a.2 _ b
variable{hz:Nat × Obj}
theorem w.lt(a:w N p)(b:hz∈p):hz.1<Z N:=(e6.1 (a.2 _ b)).1
variable{bm:aN}
theorem w.perm(a:w N p)(b:p.Perm bm):w N bm:=
 ⟨(b.map _).nodup_iff.1 a.1,λd c=>a.2 d (b.mem_iff.2 c)⟩
theorem w.set(a:w N ((U,iX)::p))(d:Obj):w (N.set U d) ((U,d)::p):=by
 have g:=a.lt (hz:=(U,iX)) (by simp);have e:=a.1;rw[eJ,kf]at e;refine⟨by grind,λc b=>?_⟩;rcases cf.1 b with rfl|b
 ·grind
 ·have f:U≠c.1:=by grind
  rw[nV f];exact a.2 c (by simp[b])
theorem w.app(a:w N p)(c:List Obj):w (N++c) p:=
 ⟨a.1,λd b=>by rw[lU (a.lt b)];exact a.2 d b⟩
theorem w.alloc(b:w N p)(c:Obj):w (N++[c]) ((Z N,c)::p):=by
 refine⟨?_,λd a=>?_⟩
 ·rw[eJ,kf]
  refine⟨λe=>?_,b.1⟩;obtain⟨d,a,f⟩:=du.1 e;have:=b.lt a;omega
 ·rcases cf.1 a with rfl|a
  ·simp
  ·exact(b.app [c]).2 d a
theorem w.sub(a:w N (p++bm)):w N bm:=by
 refine⟨?_,λc b=>a.2 c (by simp[b])⟩;have:=a.1;grind
theorem w.tail(a:w N (hz::p)):w N p:=w.sub (p:=[hz]) a
variable{gA:aN}
theorem w.swap(a:w N (p++(bm++gA))):w N (bm++(p++gA)):=by
 refine a.perm ?_;rw[<-fH,<-fH];exact TM.append_right gA
theorem w.front(a:w N (hz::(p++bm))):w N (p++hz::bm):=w.swap (p:=[hz]) a
theorem w.back(a:w N (p++hz::bm)):w N (hz::(p++bm)):=w.swap (bm:=[hz]) a
def bA(c:AV)(d:z->List AV)(e:Nat)(a:List z)(b:aN):Prop:=(a=[]/\c=.ai/\b=[])\/∃id g,c=.q id g 0 (Z a)/\b=[(id,.arr g e (a.map d))]
theorem bA.gr(b:bA Y a2 U o p)(d:w N (p++bm)):Gr N Y a2 U o:=by
 rcases b with⟨a,c,-⟩|⟨id,g,a,rfl⟩
 ·exact .inl ⟨a,c⟩
 ·exact .inr ⟨id,g,a,d.get (by simp)⟩
theorem bA.pl(a:bA Y a2 U o p):Y.pl=Y:=by
 rcases a with⟨-,a,-⟩|⟨id,g,a,-⟩<;>rw[a]<;>rfl
theorem bA.cell(a:bA Y a2 U o p):Y.bP=true:=by
 rcases a with⟨-,a,-⟩|⟨id,g,a,-⟩<;>rw[a]<;>rfl
theorem bA.ln(a:bA Y a2 U o p)(b:List Obj):fX .sl Y b=T (I (Z o)):=by
 rcases a with⟨c,a,-⟩|⟨id,g,a,-⟩
 ·simp_all
 simp_all
theorem bA.nil(a:z->List AV)(b:Nat):bA .ai a b [] []:=.inl ⟨rfl,rfl,rfl⟩
theorem bA.app{bytes:Nat}(h:bA Y a2 U o p)(d:w N (p++bm))(a:z)(e:Z (a2 a)=U)(i:(Z o+1)*bytes<=2^47):
 ∃id g b,cx U bytes Y (.sl aa [a2 a]) N=T (.q id g 0 (Z (o++[a])),b)/\w b ((id,.arr g U ((o++[a]).map a2))::bm):=by
 rcases h with⟨rfl,rfl,rfl⟩|⟨id,g,rfl,rfl⟩
 ·refine⟨Z N,0,N++[.arr 0 U [a2 a]],?_,?_⟩
  ·exact nu (a2:=a2) (o:=[a]) rfl (by simp[hQ,e]) (by omega)
  grind[w.alloc]
 ·have c:=d.get (U:=id) (iX:=.arr g U (o.map a2)) (by simp)
  have j:=(e6.1 c).1;have f:aY N id U a2 g o=N:=by
   obtain⟨k,l⟩:=e6.1 c;simp only[aY];rw[<-l];exact zY k
  have ap:=mE (N:=N) (id:=id) (U:=U) (bytes:=bytes) (O:=g) (a2:=a2) (o:=o) a j e i;rw[f]at ap;exact⟨id,g+1,_,ap,w.set (p:=bm) d _⟩
theorem bA.of{id g:Nat}:bA (.q id g 0 (Z o)) a2 U o [(id,.arr g U (o.map a2))]:=.inr ⟨id,g,rfl,rfl⟩
theorem gm{id off:Nat}(a:N[id]?=T (.arr 0 U [bg]))(b:bg[off]?=T Y):aR 1 aa (.ptr id 0 0 off) N=T Y:=by
 grind[cr]
theorem k1{id off:Nat}(b:N[id]?=T (.arr 0 U [bg]))(d:Z bg=U)(e:off<U)(f:Y.pl=Y)(c:Y.bP=ab):df 1 (.ptr id 0 0 off) Y N=T (N.set id (.arr 0 U [bg.set off Y])):=by
 have a:eV bg off [Y]=bg.set off Y:=by
  simp only[eV,gz];rw[alc,if_pos (by omega)];simp
 have g:Y.cells=[Y]:=by
  cases Y<;>first|rfl|grind[AV.bP]
 grind[df]
theorem gJ{id off:Nat}(a:N[id]?=T (.arr 0 U bS)):hP (.ptr id 0 0 off) N=T (.ptr id 0 0 off):=by simp[hP,dw,a]
theorem eb{id off:Nat}(a:N[id]?=T (.arr 0 U bS)):dw O (.ptr id 0 0 off) N=T (.ptr id 0 0 (off+O)):=oq a
theorem afA(d e:List Int)(l:Sm d):PR C 95 [eS V cI d,eS F cI e] (.bool (S (d=e))):=by
 refine YJ.pr ?_;simp only[a8,Q,cd];refine b (λg=>bE ?_) (λg=>?_)
 ·grind
 ·have p:Z d=Z e:=by
   simp only[bne_eq_false_iff_eq]at g;omega
  refine et (U:=Z d) (c:=λc=>[ff,I c]) (λc=>d.take c=e.take c) (by simp) rfl (λc f m h o=>?_) (λm h=>?_)
  ·have k:c<Z e:=by omega
   simp only[i,G,A,Q,a,f,decide_true,aC f (g4 _),aC k (g4 _),aH,j4,cd];refine a7 (b (λj=>bE ?_) (λj=>?_))
   ·grind
   ·rw[l.inc f,Q]
    grind[NK]
  ·simp only[i,G,A,Q,a,ca,decide_false]
   refine bq (hR ?_);grind
def tA(a b:Lit):Bool:=a.aq==b.aq&&a.gN==b.gN
def uZ(a b:aG):Bool:=a.aq==b.aq&&S (a.af=b.af)&&((Z a.ae:Int)==Z b.ae&&(List.range (Z a.ae)).all λc=>match a.ae[c]?,b.ae[c]? with|some d,T e=>tA d e|_,_=>ab)
def BM(a c:List aG):Bool:=(Z a:Int)==Z c&&(List.range (Z a)).all λb=>match a[b]?,c[b]? with|some d,T e=>uZ d e|_,_=>ab
theorem afB(a b:Lit):PR C 99 [.agg (a5 V a),.agg (a5 F b)] (.bool (tA a b)):=by
 refine Zv.pr ?_;simp only[nm,Q,a6,aH,uf,Dl,aJ,c9,bo,G];exact aZ (by simp_all[tA]) (by simp_all[tA])
theorem afC(d g:List Lit)(s:Sm d):PR C 98 [eS V (a5 V) d,eS F (a5 F) g,.fn 99 [] []] (.bool ((Z d:Int)==Z g&&(List.range (Z d)).all λc=>match d[c]?,g[c]? with|some h,T j=>tA h j|_,_=>ab)):=by
 refine Xj.pr ?_;simp only[a8,Q,cd];refine b (λm=>bE ?_) (λm=>?_)
 ·grind
 ·have t:Z d=Z g:=by
   simp only[bne_eq_false_iff_eq]at m;omega
  have p:((Z d:Int)==Z g)=true:=by simp[t]
  rw[p,cu];refine et (U:=Z d) (c:=λc=>[ff,I c]) (λc=>((List.range c).all λc=>match d[c]?,g[c]? with|some h,T j=>tA h j|_,_=>ab)=ab) (by simp) rfl (λc k n o w=>?_) (λn o=>?_)
  ·have r:c<Z g:=by omega
   have v:∀(l:Bool)(e:Lit),[AV.int .i64 e.ak,.str e.ar,I e.aq,eS l cT e.ad,.str e.bind,.str e.af,I e.gN,I e.op,I e.bf]=a5 l e:=λ_ _=>rfl;simp only[i,G,A,Q,a,k,decide_true,aC k (h9 _ _),aC r (h9 _ _),l1,vE,uq,ur,vR,uu,uv,uw,vS,ux,uy];refine a7 (bj (dD:=99) (b:=[.agg (a5 V d[c]),.agg (a5 F g[c])]) rfl ?_);refine f (afB d[c] g[c]) ?_;simp only[bD,Q];refine c8 (λq=>bE ?_) (λq=>?_)
   ·grind[xF,List.getElem?_eq_getElem]
   ·rw[s.inc k,Q]
    grind
  ·simp only[i,G,A,Q,a,ca,decide_false]
   exact bq (hR n)
theorem afD(b c:ni):aS (.a 4 [0,1,1,0]) .eql (.agg (lE b)) (.agg (lE c))=T (.bool (S (b=c))):=by
 simp
theorem afE(a b:aG)(e:Sm a.ae):PR C 97 [.agg (aP V a),.agg (aP F b)] (.bool (uZ a b)):=by
 refine X3.pr ?_;simp only[l3,Q,a6,aH,Mc,xh,od,aJ,c9,bo,G,afD];refine aZ (λc=>aZ (λd=>?_) (by simp_all[uZ])) (by simp_all[uZ]);exact f (afC a.ae b.ae e) (gU (by rw[uZ,c,d]<;>rfl))
theorem afF(d e:List aG)(p:Sm d)(r:∀s∈d,Sm s.ae):PR C 96 [eS bp (aP V) d,eS b2 (aP F) e,.fn 97 [] []] (.bool (BM d e)):=by
 refine X2.pr ?_;simp only[a8,Q,cd];refine b (λj=>bE ?_) (λj=>?_)
 ·grind[BM]
 ·have q:Z d=Z e:=by
   simp only[bne_eq_false_iff_eq]at j;omega
  have m:((Z d:Int)==Z e)=true:=by simp[q]
  rw[BM,m,cu];refine et (U:=Z d) (c:=λc=>[ff,I c]) (λc=>((List.range c).all λc=>match d[c]?,e[c]? with|some h,T bp=>uZ h bp|_,_=>ab)=ab) (by simp) rfl (λc g k l u=>?_) (λk l=>?_)
  ·have o:c<Z e:=by omega
   simp only[i,G,A,Q,a,g,decide_true,aC g (kQ _ _),aC o (kQ _ _),kR,uc,o4,qg,o5,o6,o7,o8,qh,o9,om];refine a7 (bj (dD:=97) (b:=[.agg (aP V d[c]),.agg (aP F e[c])]) rfl ?_);refine f (afE d[c] e[c] (r _ (bs g))) ?_;simp only[bD,Q];refine c8 (λn=>bE ?_) (λn=>?_)
   ·grind[xF,List.getElem?_eq_getElem]
   ·rw[p.inc g,Q]
    grind
  ·simp only[i,G,A,Q,a,ca,decide_false]
   exact bq (hR k)
theorem QP(d:cD)(c:List aM)(w:Sm c):∃e:Int,PR C 276 [.agg (bF V d),eS F cT c] (I e)/\(e=0<->mf d c=ab):=by
 have key:∃t n,C 276 [.agg (bF V d),eS F cT c] [] t n/\∃e:Int,aI n .res t (I e)/\(e=0<->mf d c=ab):=by
  refine Yq.hq ?_;simp only[Df,Q,a8,a6,aH,ue,aJ,cd];refine b (λj=>?_) (λj=>?_)
  ·refine⟨71,ig rfl,?_⟩
   have:((Z c:Int)==Z d.bb)=false:=by
    simp only[bne_iff_ne,ne_eq]at j;simpa using j
   simp[mf,this]
  ·have x:Z c=Z d.bb:=by
    simp only[bne_eq_false_iff_eq]at j;omega
   have y:mf d c=(List.range (Z c)).all (tu d c):=by
    have:((Z c:Int)==Z d.bb)=true:=by simp[x]
    rw[mf,this,cu]
   rw[y];refine et (U:=Z c) (c:=λf=>[I 0,I f]) (λf=>(List.range f).all (tu d c)=ab) (by simp) rfl (λf k r o E=>?_) (λr o=>?_)
   ·have q:f<Z d.bb:=by omega
    have B:=Qj (pK:=d) k q;have u:∀h:aM,g (cT h) 0=.str h.aB:=λ_=>rfl;have v:∀h:aM,g (cT h) 1=I h.const.ty:=λ_=>rfl;simp only[i,G,A,Q,a,k,decide_true,aC k (h8 _),ji,vC,u,v,fF,aC q (g4 _),aH,j4,cd,bo];have p:∀m:Bool,m= !tu d c f->dY (.bool m) (∃e,aI [] .res (AV.pl (I 72)) (I e)/\(e=0<->(List.range (Z c)).all (tu d c)=ab)) (bd (aS .s .add (I f) (I 1)) λz=>o [I 0,z] []):=by
     rintro m rfl;refine c8 (λl=>⟨72,ig rfl,?_⟩) (λl=>?_)
     ·grind
     ·rw[w.inc k,Q]
      grind
    refine a7 (aZ (λl=>p _ ?_) (λl=>p _ ?_))
    ·grind
    grind
   ·simp only[i,G,A,Q,a,ca,decide_false]
    exact bq ⟨0,ig rfl,by simp[r]⟩
 grind[Dp]
theorem BN{bytes:Nat}(m:∀b,bO (a2 b))(o:∀b,Z (a2 b)=O)(a:List z)(l:Z a*bytes<=2^47)
 (k:∀V c,C U [.sl V []] c (.q (Z c+1) 0 0 0) (c++[.arr 0 O [],.arr 0 O []]))
 (j:dQ U [eS V a2 a] (λg d=>cc (eA O g) λ_ e=>bd (aS .n .eql (eS V a2 a) .ai) λp=>dY p (cc (eA O e) λr h=>d (AV.pl r) h) (cc (cx O bytes .dI (eS V a2 a) e) λs i=>d (AV.pl s) i))):PR C U [eS V a2 a] (eS aa a2 a):=by
 cases a with
 |nil=>
  have:=k V [];exact⟨_,_,this,fx (o:=([]:List z)) (a2:=a2) (U:=O) (O:=0) rfl (by simp)⟩
 |cons b a=>
  refine j.pr rfl ?_;simp only[eA,dZ];refine aD (dD:=ff) rfl ?_;simp only[bZ,cZ,if_false];refine bj (nu (a2:=a2) (o:=b::a) rfl (r8 o _ _ _) l) ?_;exact fx (id:=1) (U:=O) (O:=0) (by simp) λt _=>m t
theorem eP.IT(b:eP C)(a:List k)(c:Sm a):PR C 218 [eS V cS a] (eS aa cS a):=BN (bytes:=16) L0 g5 a (by grind[Sm]) (b.y0 218 1 (by simp[um])) aau
theorem eP.afG(b:eP C)(a:List Int)(c:Sm a):PR C 167 [eS V cI a] (eS aa cI a):=BN (bytes:=8) LY g4 a (by grind[Sm]) (b.y0 167 1 (by simp[um])) Xw
theorem eP.afH(b:eP C)(a:List (Int×Int))(c:Sm a):PR C 219 [eS V bX a] (eS aa bX a):=BN (bytes:=16) L1 r1 a (by grind[Sm]) (b.y0 219 2 (by simp[um])) Yl
theorem eP.QQ(b:eP C)(a:List aM)(c:Z a<=1000000):PR C 222 [eS V cT a] (eS aa cT a):=BN (bytes:=48) L3 h8 a (by omega) (b.y0 222 4 (by simp[um])) ZL
theorem eP.afJ(c:eP C)(a:List Lit)(g:Z a<=1000000)(b:List Obj):C 223 [eS V (a5 F) a] b (.q (Z b+1) 0 0 (Z a)) (b++[.arr 0 9 [],.arr 0 9 (a.map (a5 F))]):=by
 cases a with
 |nil=>exact c.y0 223 9 (by simp[um]) V b
 |cons d a=>
  refine WJ.hr ?_;simp only[eA,dZ];refine aD (dD:=ff) rfl ?_;simp only[bZ,cZ,if_false];refine bj (nu (a2:=a5 F) (o:=d::a) rfl (r8 (h9 F) _ _ _) (by omega)) ⟨by simp,by simp⟩
theorem QR:x.contains bH=S (0<=bT x bH):=by
 have a:=DW (x:=x) (bH:=bH);rw[hY]at a⊢;simp only[decide_eq_true_eq,jt,decide_eq_false_iff_not,zZ]at a⊢;have:bT x bH=bN (λb=>b==bH) x:=rfl;grind
theorem IU(c:List k)(a:k):bN (a==·) c=bT c a:=by
 have:(λb=>a==b)=λb:k=>b==a:=by funext b;rw[hY,beq_iff_eq,beq_iff_eq];exact eq_comm
 grind[bT]
theorem afK(t:U<Z x):(bT x x[U]==(U:Int))= !(x.take U).contains x[U]:=by
 rw[hY];simp only[beq_iff_eq,jt,zZ,decide_eq_false_iff_not];rcases nH (λb=>b==x[U]) x with⟨a,v,c,d⟩|⟨c,d⟩
 ·have c:bT x x[U]=a:=c
  rw[c];have o:x[a]=x[U]:=by
   have:=TN d;simpa using this
  constructor
  ·intro e l
   have e:a=U:=by omega
   subst e;obtain⟨q,j,g⟩:=jS.1 l;rw[gb]at j;rw[Cu]at g;rw[TH]at d;obtain⟨-,y,u,r,s⟩:=d;have:bN (λb=>b==x[a]) x=q\/True:=.inr trivial;grind[List.getElem?_eq_getElem,Option.some.injEq,bN,List.findIdx?_eq_some_iff_getElem,Nat.lt_or_ge]
  ·intro m
   rcases Cj a U with w|heq|h
   ·exfalso
    refine m (jS.2 ⟨a,by rw[gb];omega,?_⟩);rw[Cu];exact o
   ·omega
   ·exfalso
    have i:x.findIdx? (λb=>b==x[U])=T a:=by
     have f:bN (λb=>b==x[U]) x=a:=c;unfold bN at f;split at f
     ·rename_i z p;rw[p];congr 1;omega
     ·omega
    obtain⟨_,_,n⟩:=nW.1 i;have:=n U h;simp at this
 grind
theorem afL(d:bM)(c:Fn)(p:j5 d)(t:xo c)(a9:Z c.src=Z c.dst):
 ∃r,PR C 221 [.agg (bn V d),.agg (b8 F c)] r/\∃h,r=.aE [eS aa cI (if e9 d c=ab then fe d c else[]),I h]/\(h=0<->e9 d c=ab):=by
 refine ZK.ex ?_;simp only[kT,De,Q,dZ,eA,a6,aH,np,AN,AO,aJ,a8,hF,c3,de];have bad:∀(h:Int)(v:List Obj),h≠0->e9 d c=aa->∃r,aI (v++[.arr 0 1 []]) .res (.aE [(AV.q (Z v) 0 0 0).pl,(I h).pl]) r/\∃h,r=.aE [eS aa cI (if e9 d c=ab then fe d c else[]),I h]/\(h=0<->e9 d c=ab):=by
  intro h v a0 U;refine⟨.aE [eS aa cI [],I h],.aE _ _ _ (.ck ?_ (.ck (.int _ _ _) (.nil _))),h,by rw[U]<;>rfl,by grind⟩;exact fx (o:=([]:List Int)) (U:=1) (by simp) (by simp)
 have bb:∀g:Int,S (g<0)= !S (0<=g):=by grind
 refine et (U:=Z c.src) (c:=λe=>[.q 0 0 0 0,I 0,I e]) (λe=>((List.range e).all λe=>S (0<=bT d.au (c.src.getD e []))&&S (0<=bT d.au (c.dst.getD e [])))=ab) (by simp) rfl (λe j H x Y=>?_) (λH x=>?_)
 ·have B:e<Z c.dst:=by omega
  have R:(S (0<=bT d.au (c.src.getD e []))&&S (0<=bT d.au (c.dst.getD e [])))=(S (0<=bT d.au c.src[e])&&S (0<=bT d.au c.dst[e])):=by
   simp only[oM,bC j,bC B,oK]
  have bi:((S (0<=bT d.au (c.src.getD e []))&&S (0<=bT d.au (c.dst.getD e [])))=aa)->e9 d c=false:=by
   intro m;unfold e9;rw[xF j m];simp
  simp only[i,G,A,Q,a,j,decide_true,aC j (g5 _),aH,kp,bo];refine a7 (f (vK d.au c.src[e] p.1) ?_);rw[QR];simp only[bD,Q];refine gV (λO=>?_) (λO=>?_)
  ·simp only[aC B (g5 _),Q,aH,kp]
   refine f (vK d.au c.dst[e] p.1) ?_;rw[QR];simp only[bD,Q];refine c8 (λl=>?_) (λl=>?_)
   ·exact bad 70 [.arr 0 1 []] (by omega) (by grind)
   ·rw[t.1.inc j,Q]
    grind[Bq]
  ·simp only[bZ,if_true]
   exact bad 70 [.arr 0 1 []] (by omega) (by grind)
 ·simp only[i,G,A,Q,a,ca,decide_false]
  refine bq ?_;have ar:e9 d c=(((List.range (Z c.src)).all λe=>bT c.src (c.src.getD e [])==(e:Int))&&(d.au.all λg=>S (0<=bT c.src g))&&pb d (fe d c)):=by
   unfold e9;rw[H,cu]
  refine et (U:=Z c.src) (c:=λe=>[.q 0 0 0 0,I 0,I e]) (λe=>((List.range e).all λe=>bT c.src (c.src.getD e [])==(e:Int))=ab) (by simp) rfl (λe j J M Y=>?_) (λJ M=>?_)
  ·have R:(bT c.src (c.src.getD e [])==(e:Int))= !(c.src.take e).contains c.src[e]:=by
    simp only[oM,bC j,oK];exact afK j
   simp only[i,G,A,Q,a,j,decide_true,aC j (g5 _),aH,kp];refine a7 ?_;rw[Eg g5 (TG j),Q];refine f (vK (c.src.take e) c.src[e] (by have:=t.1;grind[Sm])) ?_;refine b (λl=>?_) (λl=>?_)
   ·refine bad 5 [.arr 0 1 []] (by omega) ?_
    grind
   ·rw[t.1.inc j,Q]
    grind
  ·simp only[i,G,A,Q,a,ca,decide_false]
   refine bq ?_;have L:e9 d c=((d.au.all λg=>S (0<=bT c.src g))&&pb d (fe d c)):=by
    rw[ar,J,cu]
   simp only[gz,fm,c3];refine bB (λk=>[.q 0 0 0 0,I 0,.q 1 k.2 0 k.1,I k.1]) (λk=>aY [.arr 0 1 [],.arr 0 1 []] 1 1 cI k.2 ((d.au.take k.1).map λg=>bT d.au (c.dst.getD (bT c.src g).toNat []))) (λk=>Z d.au -k.1) (λk=>k.1<=Z d.au/\(d.au.take k.1).all (λg=>S (0<=bT c.src g))=ab) (0,0) ⟨by simp,by simp⟩ ?_ rfl (by simp[aY]);rintro⟨e,o⟩ ⟨j,y⟩ N ak;have af:=p.1;unfold Sm at af;simp only[i,G,A,Q,a]
   have ad:1<Z ([.arr 0 1 [],.arr 0 1 []]:List Obj):=by simp
   refine b (λm=>?_) (λm=>?_)
   ·have m:e<Z d.au:=by simpa using m
    simp only[aC m (g5 _),Q,aH,kp];refine f (DM c.src d.au[e] t.1) ?_;rw[IU];simp only[A,Q];refine b (λl=>?_) (λl=>?_)
    ·have l:bT c.src d.au[e]<0:=by simpa using l
     have X:e9 d c=false:=by
      have W:S (0<=bT c.src d.au[e])=false:=by simp;omega
      rw[L,uz m W]<;>rfl
     exact bad 71 (aY [.arr 0 1 [],.arr 0 1 []] 1 1 cI o ((d.au.take e).map λg=>bT d.au (c.dst.getD (bT c.src g).toNat []))) (by omega) X
    ·have l:0<=bT c.src d.au[e]:=by simpa using l
     obtain⟨n,u,a3⟩:∃n:Nat,bT c.src d.au[e]=n/\n<Z c.src:=by
      rcases nH (λg=>g==d.au[e]) c.src with⟨n,u,w,-⟩|⟨w,-⟩
      ·exact⟨n,w,u⟩
      ·have:bT c.src d.au[e]= -1:=w;omega
     have E:n<Z c.dst:=by omega
     rw[u];simp only[aC E (g5 _),Q,aH,kp];refine f (DM d.au c.dst[n] p.1) ?_;rw[IU,Bi,Q];have a4:Z ((d.au.take e).map λg=>bT d.au (c.dst.getD (bT c.src g).toNat []))=e:=by simp;omega
     have ap:=NV (U:=o) (a:=(d.au.take e).map λg=>bT d.au (c.dst.getD (bT c.src g).toNat [])) (aU:=bT d.au c.dst[n]) (fN:=λax P=>bd (aS .s .add (I e) (I 1)) λaB=>N [.q 0 0 0 0,I 0,ax,aB] P) ad (by omega) ?_
     ·grind
     ·rw[ba,Q]
      have ae:((d.au.take e).map λg=>bT d.au (c.dst.getD (bT c.src g).toNat []))++[bT d.au c.dst[n]]=(d.au.take (e+1)).map λg=>bT d.au (c.dst.getD (bT c.src g).toNat []):=by
       rw[hX m,ht];simp only[eJ,oL,u,ej,oM,bC E,oK]
      rw[ae];have ac:Z ((d.au.take (e+1)).map λg=>bT d.au (c.dst.getD (bT c.src g).toNat []))=e+1:=by simp;omega
      rw[ac];refine ak (e+1,o+1) ⟨m,?_⟩ (by simp;omega);grind[mD]
   ·have:e=Z d.au:=by simp at m;omega
    subst this;rw[dB]at y⊢;have bf:e9 d c=pb d (fe d c):=by rw[L,y,cu]
    have ah:(d.au.map λg=>bT d.au (c.dst.getD (bT c.src g).toNat []))=fe d c:=rfl;have K:Z (fe d c)=Z d.au:=by simp[fe]
    rw[ah];have z:(aY [.arr 0 1 [],.arr 0 1 []] 1 1 cI o (fe d c))[1]?=T (.arr o 1 ((fe d c).map cI)):=rfl;refine ea _ (adI (F:=true) d (fe d c) p (by grind[Sm])) (.ck cy (.ck ?_ (.nil _))) (.bool _) ?_
    ·rw[<-K];exact l7 z (by simp)
    ·simp only[bD,Q]
     refine c8 (λl=>?_) (λl=>?_)
     ·simp_all
     ·refine⟨.aE [eS aa cI (fe d c),I 0],.aE _ _ _ (.ck ?_ (.ck (.int _ _ _) (.nil _))),0,by grind,by grind⟩
      rw[<-K];exact fx z (by simp)
abbrev gn:=List (k×Nat)
def pq(a:gn):List AV:=a.map λb=>.str b.1
def sy(a:gn):List AV:=a.map λb=>I (b.2:Int)
def b7(a:gn):Obj:=.mp ab (pq a) (sy a)
def IV(a:gn):AV:=.iu (pq a) (sy a)
def mM(b:gn)(c:k):Int:=match b.find? (λa=>a.1==c)with|some a=>a.2|none=> -1
def qD(a:gn)(b:k)(c:Nat):gn:=if(a.map Prod.fst).contains b=ab then a else a++[(b,c)]
theorem EP(a:gn):pq a=hS (a.map Prod.fst):=by simp[pq,hS]
theorem afM(a:gn)(b:k):(a.map Prod.fst).findIdx? (b==·)=a.findIdx? λc=>c.1==b:=by
 rw[ald]
 congr 1
 grind
variable{hy:gn}
theorem BO(a:k)(g:kO N Y=T (pq hy,sy hy)):∃e:Int,hC ⟨aa,1,[1]⟩ (I 0) ab Y (.str a) N=T (.aE [I e,.bool ((hy.map Prod.fst).contains a)])/\((hy.map Prod.fst).contains a=ab->e=mM hy a):=by
 have f:(⟨aa,1,[1]⟩:KD)=qk:=rfl;rw[f];simp only[hC,g,q6,mS,if_true];rw[EP,q7,afM];have h:(hy.map Prod.fst).contains a=(hy.findIdx? λb=>b.1==a).isSome:=by
  rw[List.findIdx?_isSome,hY];simp only[zZ,decide_eq_true_eq,du,FE,beq_iff_eq]
 cases d:hy.findIdx? λb=>b.1==a with
 |none=>
  simp_all
 |some c=>
  rw[d]at h;obtain⟨j,m,l⟩:=nW.1 d;refine⟨hy[c].2,?_,λ_=>?_⟩
  ·simp_all[sy,I]
  ·have:hy.find? (λb=>b.1==a)=T hy[c]:=by
    rw[TH];exact⟨m,c,j,rfl,λn i=>by simpa using l n i⟩
   rw[mM,this]
theorem afN{id:Nat}(a:k)(c:Nat)(e:N[id]?=T (b7 hy))(b:(hy.map Prod.fst).contains a=aa):jg ⟨aa,1,[1]⟩ (.b5 id) (.str a) (I (c:Int)) N=T (N.set id (b7 (hy++[(a,c)]))):=by
 have d:(⟨aa,1,[1]⟩:KD)=qk:=rfl;rw[d];simp only[jg,e,b7,xc,q6,mS,if_true];rw[EP,q7];have:(hy.map Prod.fst).findIdx? (a==·)=none:=by
  rw[wK];intro g f;rw[beq_eq_false_iff_ne];rintro rfl;simp only[zZ,decide_eq_false_iff_not]at b;exact b f
 rw[this];simp[pq,sy,hS,Cq]
theorem QS(b:z->Int):∀a:List z,bO (a.map λx=>I (b x))
 |[]=>.nil
 |x::a=>.cons _ _ (.int _ _) (QS b a)
theorem BP{id:Nat}(a:N[id]?=T (b7 hy)):aI N .cm (.b5 id) (IV hy):=by
 have b:bO (pq hy):=by rw[EP];exact s6 _
 have c:bO (sy hy):=QS _ hy;exact .wU id ab _ _ _ _ a b.snap c.snap
theorem afO:(hy.map Prod.fst).contains bH=ab<->0<=mM hy bH:=by
 unfold mM;grind
theorem BQ(a:gn)(c:k):PR C 220 [IV a,.str c] (I (mM a c)):=by
 refine aav.pr ?_;obtain⟨h,d,g⟩:=BO (Y:=IV a) (N:=[]) c rfl;simp only[d,ef,cv,dk,Q];refine b (by grind[ig]) (λf=>ig ?_);grind[mM]
theorem afP:mM (qD hy bH U) lg=if(hy.map Prod.fst).contains lg=ab then mM hy lg else if bH=lg then(U:Int)else -1:=by
 unfold qD;by_cases a:(hy.map Prod.fst).contains bH=ab
 ·rw[if_pos a]
  grind[mM]
 ·rw[if_neg a]
  unfold mM;grind
def ER(c b g h:AV)(d e f:Nat)(a:AV):List AV:=[c,b,g,h,.b5 d,.b5 e,.b5 f,a]
def fg(c b g h:AV)(d e f:Nat)(a:AV):Obj:=.arr 0 8 [ER c b g h d e f a]
def mN(a:List (Int×Int))(b c:Int):List (Int×Int):=if b=0 then a else a++[(b,c)]
theorem zs:mN gC aU c1=[]<->gC=[]/\aU=0:=by
 unfold mN;split
 ·grind
 simp_all
theorem zt:Z (mN gC aU c1)<=Z gC+1:=by grind[mN]
variable{E aL cJ jd:AV}
theorem afQ(d:List (Int×Int))(a c:Int)(r:bA jd bX 2 d p)(A:Z d<1000000)(l:w N ((U,fg Y E aL cJ O y c2 jd)::(p++bm))):
 HR C 215 [.ptr U 0 0 0,I a,I c] N (λv m=>v=.aE []/\∃i h,bA i bX 2 (mN d a c) h/\w m ((U,fg Y E aL cJ O y c2 i)::(h++bm))):=by
 refine Yj.hq ?_;simp only[cd,Q];refine b (λj=>?_) (λj=>?_)
 ·have o:a≠0:=by simpa using j
  have e:=l.get (U:=U) (iX:=fg Y E aL cJ O y c2 jd) (by simp);have t:aR 1 aa (.ptr U 0 0 7) N=T jd:=gm e rfl;simp only[gJ e,eb e,Q,aJ,t,uE,vW];obtain⟨id,g,x,n,k⟩:=r.app (bytes:=16) l.front (a,c) rfl (by omega);refine bj n ?_;have f:=k.get (U:=U) (iX:=fg Y E aL cJ O y c2 jd) (by simp);simp only[gJ f,eb f,Q,aJ]
  refine aD (k1 f rfl (by omega) rfl rfl) ⟨trivial,.q id g 0 (Z (d++[(a,c)])),[(id,.arr g 2 ((d++[(a,c)]).map bX))],?_,?_⟩
  ·rw[mN,if_neg o];exact bA.of
  ·exact(w.back (p:=[(id,.arr g 2 ((d++[(a,c)]).map bX))]) k).set _
 grind[mN]
theorem IW(a:gn)(c:k)(f:Nat)(g:Int)(e:w N ((U,b7 a)::p)):
 HR C 216 [.b5 U,.str c,I (f:Int),I g] N (λm i=>m=I (if(a.map Prod.fst).contains c=ab then 5 else g)/\w i ((U,b7 (qD a c f))::p)):=by
 refine Y7.hq ?_;have h:=e.get (U:=U) (iX:=b7 a) (by simp);obtain⟨l,j,n⟩:=BO (Y:=.b5 U) (hy:=a) (N:=N) c (by simp[kO,h,b7]);simp only[j,ef,cv,dk,Q];refine b (λd=>?_) (λd=>?_)
 ·rw[if_pos d,qD,if_pos d];exact⟨rfl,e⟩
 ·rw[if_neg (by grind),qD,if_neg (by grind)]
  refine aD (afN c f h d) ⟨rfl,e.set _⟩
theorem QT(a:List bM)(b:Nat)(e:b<Z a)(c:k)(g:j5 a[b]):PR C 277 [.aK ab (eS ab (bn ab) a::bg) 0,I (b:Int),.str c] (I (bT a[b].au c)):=by
 refine WX.pr ?_;have h:∀d,hP (.aK ab (eS ab (bn ab) a::bg) 0) d=T (.aK ab (eS ab (bn ab) a::bg) 0):=λ_=>rfl;simp only[h,Q,a6,aH,cv,aJ,aC e (jh _ _),np];refine f (DM a[b].au c g.1) ?_;rw[IU];simp
theorem afR{a:List bM}(b:N[U]?=T (fg Y E aL cJ O y c2 jd))(c:Gr N Y (bn V) 4 a):aI N .cm (.ptr U 0 0 0) (.aK ab [eS ab (bn ab) a,.undef,.undef,.undef,.undef,.undef,.undef,.undef] 0):=
 .pV U 0 0 0 8 _ _ _ b rfl (.ck (c.cm λd _=>QF V d) (.ck (.undef _ _) (.ck (.undef _ _) (.ck (.undef _ _) (.ck (.undef _ _) (.ck (.undef _ _) (.ck (.undef _ _) (.ck (.undef _ _) (.nil _)))))))))
theorem xW(b:z->Bool)(a:List z): -1<=bN b a/\bN b a<Z a:=by
 grind[nH]
variable{ll:List z}
theorem QU:bN dG (o++ll)=if 0<=bN dG o then bN dG o else if 0<=bN dG ll then bN dG ll+Z o else -1:=by
 grind[bN]
theorem afS(a:U<Z o):bN dG (o.take (U+1))=if 0<=bN dG (o.take U)then bN dG (o.take U)else if dG o[U]=ab then(U:Int)else -1:=by
 rw[hX a,QU];grind[bN]
theorem afT(b:U<Z o)(f:dG o[U]=ab):(bN dG o==(U:Int))= !S (0<=bN dG (o.take U)):=by
 have a:o=o.take U++o.drop U:=by simp
 have c:bN dG o=bN dG (o.take U++o.drop U):=by rw[<-a]
 rw[c,QU];have e:Z (o.take U)=U:=by rw[gb];omega
 have d:=xW dG (o.take U);rw[e]at d;have h:bN dG (o.drop U)=0:=by
  rw[mQ b,bN,Cs,f]<;>rfl
 by_cases g:0<=bN dG (o.take U)
 ·grind
 grind
def mO(d:z->k)(b:List z)(c:gn):Prop:=∀a,mM c a=bN (λe=>d e==a) b
theorem mO.step{a:z->k}(b:U<Z o)(c:mO a (o.take U) hy):mO a (o.take (U+1)) (qD hy (a o[U]) U):=by
 intro d;rw[afP,afS b,<-c d];grind[mM]
theorem mO.has{a:z->k}(b:U<Z o)(c:mO a (o.take U) hy):(hy.map Prod.fst).contains (a o[U])= !(bN (λd=>a d==a o[U]) o==(U:Int)):=by
 rw[afT b (by simp),FC,<-c,hY,afO];simp
def bh(i a b c:Nat)(l k p q j:AV)(m n o:gn)(e g f h d:aN):aN:=
 (i,fg l k p q a b c j)::(e++((a,b7 m)::(b,b7 n)::(c,b7 o)::(g++(f++(h++d)))))
variable{hB:List Obj -> Prop}
section
variable{H:List Obj}{S m1 m2 m3:Nat}{lv fv pv rv dv:AV}{n1 n2 n3:gn}{PD PL PF PP F:aN}
theorem bh.sc(a:w H (bh S m1 m2 m3 lv fv pv rv dv n1 n2 n3 PD PL PF PP F)):H[S]?=T (fg lv fv pv rv m1 m2 m3 dv):=a.get (by simp[bh])
theorem bh.QV(a:w H (bh S m1 m2 m3 lv fv pv rv dv n1 n2 n3 PD PL PF PP F)):H[m1]?=T (b7 n1):=a.get (by simp[bh])
theorem bh.afU(a:w H (bh S m1 m2 m3 lv fv pv rv dv n1 n2 n3 PD PL PF PP F)):H[m2]?=T (b7 n2):=a.get (by simp[bh])
theorem bh.afV(a:w H (bh S m1 m2 m3 lv fv pv rv dv n1 n2 n3 PD PL PF PP F)):H[m3]?=T (b7 n3):=a.get (by simp[bh])
theorem bh.pl(a:w H (bh S m1 m2 m3 lv fv pv rv dv n1 n2 n3 PD PL PF PP F)):w H (PL++((S,fg lv fv pv rv m1 m2 m3 dv)::(PD++((m1,b7 n1)::(m2,b7 n2)::(m3,b7 n3)::(PF++(PP++F)))))):=by
 have:w H (((S,fg lv fv pv rv m1 m2 m3 dv)::(PD++[(m1,b7 n1),(m2,b7 n2),(m3,b7 n3)]))++(PL++(PF++(PP++F)))):=by simpa[bh]using a
 simpa using this.swap
theorem bh.pf(a:w H (bh S m1 m2 m3 lv fv pv rv dv n1 n2 n3 PD PL PF PP F)):w H (PF++((S,fg lv fv pv rv m1 m2 m3 dv)::(PD++((m1,b7 n1)::(m2,b7 n2)::(m3,b7 n3)::(PL++(PP++F)))))):=by
 have:w H (((S,fg lv fv pv rv m1 m2 m3 dv)::(PD++([(m1,b7 n1),(m2,b7 n2),(m3,b7 n3)]++PL)))++(PF++(PP++F))):=by simpa[bh]using a
 simpa using this.swap
theorem bh.pp(a:w H (bh S m1 m2 m3 lv fv pv rv dv n1 n2 n3 PD PL PF PP F)):w H (PP++((S,fg lv fv pv rv m1 m2 m3 dv)::(PD++((m1,b7 n1)::(m2,b7 n2)::(m3,b7 n3)::(PL++(PF++F)))))):=by
 have:w H (((S,fg lv fv pv rv m1 m2 m3 dv)::(PD++([(m1,b7 n1),(m2,b7 n2),(m3,b7 n3)]++(PL++PF))))++(PP++F)):=by simpa[bh]using a
 simpa using this.swap
theorem bh.report(f:w H (bh S m1 m2 m3 lv fv pv rv dv n1 n2 n3 PD PL PF PP F))(b a:Int)(g:bA dv bX 2 gC PD)(h:Z gC<1000000):
 HR C 215 [.ptr S 0 0 0,I b,I a] H (λi e=>i=.aE []/\∃d c,bA d bX 2 (mN gC b a) c/\w e (bh S m1 m2 m3 lv fv pv rv d n1 n2 n3 c PL PF PP F)):=afQ gC b a g h f
theorem bh.afW(i:w H (bh S m1 m2 m3 lv fv pv rv dv n1 n2 n3 PD PL PF PP F))(a:k)(d:Nat)(c:Int):
 HR C 216 [.b5 m1,.str a,I (d:Int),I c] H (λe b=>e=I (if(n1.map Prod.fst).contains a=ab then 5 else c)/\w b (bh S m1 m2 m3 lv fv pv rv dv (qD n1 a d) n2 n3 PD PL PF PP F)):=by
 have j:w H ((m1,b7 n1)::(((S,fg lv fv pv rv m1 m2 m3 dv)::PD)++((m2,b7 n2)::(m3,b7 n3)::(PL++(PF++(PP++F)))))):=w.back (p:=(S,fg lv fv pv rv m1 m2 m3 dv)::PD) i;obtain⟨e,b,f,g,h⟩:=IW n1 a d c j;exact⟨e,b,f,g,h.front⟩
theorem bh.afX(i:w H (bh S m1 m2 m3 lv fv pv rv dv n1 n2 n3 PD PL PF PP F))(a:k)(d:Nat)(c:Int):
 HR C 216 [.b5 m2,.str a,I (d:Int),I c] H (λe b=>e=I (if(n2.map Prod.fst).contains a=ab then 5 else c)/\w b (bh S m1 m2 m3 lv fv pv rv dv n1 (qD n2 a d) n3 PD PL PF PP F)):=by
 have j:w H (((S,fg lv fv pv rv m1 m2 m3 dv)::(PD++[(m1,b7 n1)]))++(m2,b7 n2)::((m3,b7 n3)::(PL++(PF++(PP++F))))):=by simpa[bh]using i
 obtain⟨e,b,f,g,h⟩:=IW n2 a d c j.back;exact⟨e,b,f,g,by simpa[bh]using h.front⟩
theorem bh.afY(i:w H (bh S m1 m2 m3 lv fv pv rv dv n1 n2 n3 PD PL PF PP F))(a:k)(d:Nat)(c:Int):
 HR C 216 [.b5 m3,.str a,I (d:Int),I c] H (λe b=>e=I (if(n3.map Prod.fst).contains a=ab then 5 else c)/\w b (bh S m1 m2 m3 lv fv pv rv dv n1 n2 (qD n3 a d) PD PL PF PP F)):=by
 have j:w H (((S,fg lv fv pv rv m1 m2 m3 dv)::(PD++[(m1,b7 n1),(m2,b7 n2)]))++(m3,b7 n3)::(PL++(PF++(PP++F)))):=by simpa[bh]using i
 obtain⟨e,b,f,g,h⟩:=IW n3 a d c j.back;exact⟨e,b,f,g,by simpa[bh]using h.front⟩
theorem bh.afZ(m:w H (bh S m1 m2 m3 lv fv pv rv dv n1 n2 n3 PD PL PF PP F)){a:List bM}(p:bA lv (bn aa) 4 a PL)(b:bM)(x:Z a<1000000)
 (j:∀k h e,bA k (bn aa) 4 (a++[b]) h->w e (bh S m1 m2 m3 k fv pv rv dv n1 n2 n3 PD h PF PP F)->hB e):
 cc (cx 4 72 lv (.sl aa [bn aa b]) H) λr c=>bd (hP (.ptr S 0 0 0) c) λs=>bd (dw 0 s c) λt=>bd (dw 0 t c) λu=>bd (df 1 u r c) λo=>hB o:=by
 obtain⟨id,g,f,l,i⟩:=p.app (bytes:=72) (bh.pl m) b (jh aa b) (by omega);refine bj l ?_;have d:=i.get (U:=S) (iX:=fg lv fv pv rv m1 m2 m3 dv) (by simp);simp only[gJ d,eb d,Q,fo];refine aD (k1 d rfl (by omega) rfl rfl) (j _ [(id,.arr g 4 ((a++[b]).map (bn aa)))] _ bA.of ?_)
 have n:w f (((S,fg lv fv pv rv m1 m2 m3 dv)::(PD++[(m1,b7 n1),(m2,b7 n2),(m3,b7 n3)]))++(id,.arr g 4 ((a++[b]).map (bn aa)))::(PF++(PP++F))):=by
  refine w.front ?_;simpa using i
 change w (f.set S (fg (.q id g 0 (Z (a++[b]))) fv pv rv m1 m2 m3 dv)) _;have v:=w.set (p:=(PD++[(m1,b7 n1),(m2,b7 n2),(m3,b7 n3)])++(id,.arr g 4 ((a++[b]).map (bn aa)))::(PF++(PP++F))) n (fg (.q id g 0 (Z (a++[b]))) fv pv rv m1 m2 m3 dv);simp_all[bh]
theorem bh.uC(m:w H (bh S m1 m2 m3 lv fv pv rv dv n1 n2 n3 PD PL PF PP F)){b:List (List AV)}(o:bA fv (λa:List AV=>a) 7 b PF)(a:List AV)(p:Z a=7)(x:Z b<1000000)
 (k:∀i h e,bA i (λa:List AV=>a) 7 (b++[a]) h->w e (bh S m1 m2 m3 lv i pv rv dv n1 n2 n3 PD PL h PP F)->hB e):
 cc (cx 7 120 fv (.sl aa [a]) H) λr c=>bd (hP (.ptr S 0 0 0) c) λs=>bd (dw 0 s c) λt=>bd (dw 1 t c) λu=>bd (df 1 u r c) λn=>hB n:=by
 obtain⟨id,g,f,l,j⟩:=o.app (bytes:=120) (bh.pf m) a p (by omega);refine bj l ?_;have d:=j.get (U:=S) (iX:=fg lv fv pv rv m1 m2 m3 dv) (by simp);simp only[gJ d,eb d,Q,aJ,fo];refine aD (k1 d rfl (by omega) rfl rfl) (k _ [(id,.arr g 7 ((b++[a]).map λa:List AV=>a))] _ bA.of ?_)
 have v:w f (((S,fg lv fv pv rv m1 m2 m3 dv)::(PD++([(m1,b7 n1),(m2,b7 n2),(m3,b7 n3)]++PL)))++(id,.arr g 7 ((b++[a]).map λa:List AV=>a))::(PP++F)):=by
  refine w.front ?_;simpa using j
 change w (f.set S (fg lv (.q id g 0 (Z (b++[a]))) pv rv m1 m2 m3 dv)) _;grind[w.set,b7,fg,bh]
theorem bh.af0(m:w H (bh S m1 m2 m3 lv fv pv rv dv n1 n2 n3 PD PL PF PP F)){b:List cD}(o:bA pv (bF aa) 7 b PP)(a:cD)(v:Z b<1000000)
 (j:∀k h e,bA k (bF aa) 7 (b++[a]) h->w e (bh S m1 m2 m3 lv fv k rv dv n1 n2 n3 PD PL PF h F)->hB e):
 cc (cx 7 88 pv (.sl aa [bF aa a]) H) λp c=>bd (hP (.ptr S 0 0 0) c) λr=>bd (dw 0 r c) λs=>bd (dw 2 s c) λt=>bd (df 1 t p c) λn=>hB n:=by
 obtain⟨id,g,f,l,i⟩:=o.app (bytes:=88) (bh.pp m) a (hD aa a) (by omega);refine bj l ?_;have d:=i.get (U:=S) (iX:=fg lv fv pv rv m1 m2 m3 dv) (by simp);simp only[gJ d,eb d,Q,aJ,fo];refine aD (k1 d rfl (by omega) rfl rfl) (j _ [(id,.arr g 7 ((b++[a]).map (bF aa)))] _ bA.of ?_)
 have u:w f (((S,fg lv fv pv rv m1 m2 m3 dv)::(PD++([(m1,b7 n1),(m2,b7 n2),(m3,b7 n3)]++(PL++PF))))++(id,.arr g 7 ((b++[a]).map (bF aa)))::F):=by
  refine w.front ?_;simpa using i
 change w (f.set S (fg lv fv (.q id g 0 (Z (b++[a]))) rv m1 m2 m3 dv)) _;grind[w.set,b7,bF,fg,bh]
end
def af1(A:Bool)(a:aj)(r:aN)(y:AV)(s:List Obj):Prop:=∃h u v x l k q i n o p c f e g j b,y=.ptr h 0 0 0/\w s (bh h u v x l k q .ai i n o p c f e g r)/\bA i bX 2 b c/\Z b<=1000/\bA l (bn aa) 4 a.m f/\bA k (λz:List AV=>z) 7 j e/\bA q (bF aa) 7 (a.d.map (en a)) g/\
 mO bM.ar a.m n/\mO Fn.ar a.aW o/\mO cD.ar a.d p/\(b=[]<->po a=ab)/\(po a=ab->j=a.aW.map λt=>b8 aa (eQ a t))
theorem IX(a:aj)(b:k):bN (λc:bM=>c.ar==b) a.m=dz a b:=rfl
theorem eP.af2(ah:eP C)(c:aj)(d1:dW c)(ge:w N p)(rs:Z c.m<=100)(ro:Z c.aW<=100)(rt:Z c.d<=100)(l0:∀h∈c.aW,Z h.src=Z h.dst):HR C 151 [.agg (cP V F c)] N (af1 V c p):=by
 refine ZB.hq ?_;simp only[dS,Q,dZ,a6,aH,oe,sT,iy,aJ,a8];refine aD rfl (bj (dD:=.ptr (Z N+3) 0 0 0) (b:=N++[b7 []]++[b7 []]++[b7 []]++[fg .ai .ai .ai .ai (Z N) (Z N+1) (Z N+2) .ai]) ?_ ?_)
 ·simp[mw,fg,ER]
  exact⟨rfl,rfl⟩
 have i3:w (N++[b7 []]++[b7 []]++[b7 []]++[fg .ai .ai .ai .ai (Z N) (Z N+1) (Z N+2) .ai]) (bh (Z N+3) (Z N) (Z N+1) (Z N+2) .ai .ai .ai .ai .ai [] [] [] [] [] [] [] p):=by
  have i0:=((ge.alloc (b7 [])).alloc (b7 [])).alloc (b7 []);have v:=i0.alloc (fg .ai .ai .ai .ai (Z N) (Z N+1) (Z N+2) .ai);simp only[fb,gz]at v;refine v.perm ?_;simp only[bh,c3];refine List.Perm.cons _ ?_;exact(List.Perm.swap _ _ _).trans ((List.Perm.cons _ (List.Perm.swap _ _ _)).trans ((List.Perm.swap _ _ _)))
 generalize i4:Z N+3=n at*;generalize kl:Z N=J at*;generalize kw:J+1=W at*;generalize kx:J+2=U at*;generalize N++[b7 []]++[b7 []]++[b7 []]++[fg .ai .ai .ai .ai J W U .ai]=h3 at*;clear i4 kl kw kx ge
 refine bB (z:=Nat×List Obj×AV×AV×List (Int×Int)×gn×aN×aN) (λg=>[I g.1]) (λg=>g.2.1) (λg=>Z c.m -g.1) (λg=>g.1<=Z c.m/\w g.2.1 (bh n J W U g.2.2.1 .ai .ai .ai g.2.2.2.1 g.2.2.2.2.2.1 [] [] g.2.2.2.2.2.2.1 g.2.2.2.2.2.2.2 [] [] p)/\bA g.2.2.2.1 bX 2 g.2.2.2.2.1 g.2.2.2.2.2.2.1/\Z g.2.2.2.2.1<=g.1/\bA g.2.2.1 (bn aa) 4 (c.m.take g.1) g.2.2.2.2.2.2.2/\
  mO bM.ar (c.m.take g.1) g.2.2.2.2.2.1/\(g.2.2.2.2.1=[]<->(List.range g.1).all (oy c)=ab)) (0,h3,.ai,.ai,[],[],[],[]) ⟨by simp,i3,bA.nil _ _,by simp,bA.nil _ _,λg=>rfl,by simp⟩ ?_
 rintro⟨e,q,d3,ak,u,X,ae,d4⟩ ⟨a4,r,B,a0,co,P,E⟩ bw H;simp only at a4 r B a0 co P E H⊢;simp only[G,A,Q,a];refine b (λk=>?_) (λk=>?_)
 ·have k:e<Z c.m:=by simpa using k
  have ke:c.m[e]∈c.m:=bs k;have em:=d1.aV _ ke;have t:=bh.sc r;have bv:aR 1 aa (.ptr n 0 0 4) q=T (.b5 J):=gm t rfl;have i5:(AV.agg [.str c.m[e].ar,eS V cS c.m[e].au,eS V bX c.m[e].eg,I c.m[e].bf])=.agg (bn V c.m[e]):=rfl;have i6:(AV.agg [.str c.m[e].ar,eS aa cS c.m[e].au,eS aa bX c.m[e].eg,I c.m[e].bf])=.agg (bn aa c.m[e]):=rfl;simp only[aC k (jh _ _),Q,hF,xe,Be,Bf,Bg,Bh,i5,gJ t,eb t,aJ,bv]
  refine f (adA _ em) ?_;refine cY (bh.afW r c.m[e].ar e (eu c.m[e])) rfl λhm f9 bi=>?_;obtain⟨rfl,aB⟩:=bi;rw[P.has k];simp only[j3,true_and];have ax:oy c e=(eu c.m[e]==0&&dz c c.m[e].ar==(e:Int)):=by rw[oy,bC k]
  have jp:bN (λL:bM=>L.ar==c.m[e].ar) c.m=dz c c.m[e].ar:=rfl;rw[jp];refine bj (dD:=215) (b:=[.ptr n 0 0 0,I (if(!(dz c c.m[e].ar==(e:Int)))=ab then 5 else eu c.m[e]),I c.m[e].bf]) rfl ?_;refine cY (bh.report aB (if(!(dz c c.m[e].ar==(e:Int)))=ab then 5 else eu c.m[e]) c.m[e].bf B (by omega)) rfl λhn ac br=>?_;obtain⟨rfl,aq,af,a3,M⟩:=br
  refine f (ah.IT c.m[e].au em.1) (f (ah.afH c.m[e].eg em.2) ?_);refine aD (dD:=eS aa cS c.m[e].au) rfl (aD (dD:=eS aa bX c.m[e].eg) rfl ?_);have z:=bh.sc M;have ne:aR 1 aa (.ptr n 0 0 0) ac=T d3:=gm z rfl;simp only[gJ z,eb z,Q,fo,ne,i6];rw[tx (U:=4) (row:=bn aa c.m[e]) rfl rfl,Q];refine bh.afZ M co c.m[e] (by grind) λos id ad gt aQ=>?_;rw[ba,Q];rw[<-hX k]at gt
  have gh:=zt (gC:=u) (aU:=if(!(dz c c.m[e].ar==(e:Int)))=ab then 5 else eu c.m[e]) (c1:=c.m[e].bf);refine H (e+1,ad,os,aq,mN u (if(!(dz c c.m[e].ar==(e:Int)))=ab then 5 else eu c.m[e]) c.m[e].bf,qD X c.m[e].ar e,af,id) ⟨k,aQ,a3,by grind,gt,P.step k,?_⟩ (by simp;omega);grind[zs,xT,dz]
 ·have:e=Z c.m:=by simp at k;omega
  subst this;rw[dB]at co P;clear H
  refine bB (z:=Nat×List Obj×AV×AV×List (Int×Int)×gn×aN×aN×List (List AV)) (λg=>[I g.1]) (λg=>g.2.1) (λg=>Z c.aW -g.1) (λg=>g.1<=Z c.aW/\w g.2.1 (bh n J W U d3 g.2.2.1 .ai .ai g.2.2.2.1 X g.2.2.2.2.2.1 [] g.2.2.2.2.2.2.1 d4 g.2.2.2.2.2.2.2.1 [] p)/\bA g.2.2.2.1 bX 2 g.2.2.2.2.1 g.2.2.2.2.2.2.1/\Z g.2.2.2.2.1<=100+g.1/\bA g.2.2.1 (λL:List AV=>L) 7 g.2.2.2.2.2.2.2.2 g.2.2.2.2.2.2.2.1/\
   mO Fn.ar (c.aW.take g.1) g.2.2.2.2.2.1/\Z g.2.2.2.2.2.2.2.2=g.1/\(g.2.2.2.2.1=[]<->(List.range (Z c.m)).all (oy c)=ab/\(List.range g.1).all (oz c)=ab)/\((List.range g.1).all (oz c)=ab->g.2.2.2.2.2.2.2.2=(c.aW.take g.1).map λh=>b8 aa (eQ c h))) (0,q,.ai,ak,u,[],ae,[],[]) ⟨by simp,r,B,by grind,bA.nil _ _,λg=>rfl,rfl,by simp[E],by simp⟩ ?_
  rintro⟨e,q,d8,ak,u,fd,ae,gc,ho⟩ ⟨a4,r,B,a0,eq,a9,hg,E,dl⟩ bw H;simp only at a4 r B a0 eq a9 hg E dl H⊢;simp only[G,A,Q,a];refine b (λk=>?_) (λk=>?_)
  ·have k:e<Z c.aW:=by simpa using k
   have gj:c.aW[e]∈c.aW:=bs k;have ha:=a9.has k;have le:=a9.step k;have lc:(c.aW.take (e+1)).map (λh=>b8 aa (eQ c h))=(c.aW.take e).map (λh=>b8 aa (eQ c h))++[b8 aa (eQ c c.aW[e])]:=by
    rw[hX k,ht]<;>rfl
   have ax:oz c e=((match c.m[(dz c c.aW[e].aV).toNat]? with|some R=>S (0<=dz c c.aW[e].aV)&&e9 R c.aW[e]|none=>aa)&&g8 c c.aW[e].ar==(e:Int)):=by rw[oz,bC k]<;>rfl
   have i7:bN (λL:Fn=>L.ar==c.aW[e].ar) c.aW=g8 c c.aW[e].ar:=rfl;rw[i7]at ha;have es:=aC (V:=V) (a2:=b8 V) (o:=c.aW) (N:=q) k (p3 V _);have md:=l0 _ gj;have ci:=d1.fn _ gj;generalize c.aW[e]=h at*;have t:=bh.sc r;have bv:aR 1 aa (.ptr n 0 0 4) q=T (.b5 J):=gm t rfl;have ol:aR 1 aa (.ptr n 0 0 5) q=T (.b5 W):=gm t rfl;simp only[es,Q,AH,Dd,DP,DQ,DR,DS,DT,gJ t,eb t,aJ,bv]
   refine ea _ (BQ X h.aV) (.ck (BP (bh.QV r)) (.ck (.str _ _) (.nil _))) (.int _ _) ?_;rw[P h.aV,IX];simp only[ry,Q];refine aD (dD:=.ai) rfl ?_;refine f (ah.IT h.src ci.1) (f (ah.IT h.dst ci.2.1) ?_);refine aD (dD:=eS aa cS h.src) rfl (aD (dD:=eS aa cS h.dst) rfl ?_)
   have go:∀(l:Int)(Y:AV),(l=0<->(match c.m[(dz c h.aV).toNat]? with|some R=>S (0<=dz c h.aV)&&e9 R h|none=>aa)=ab)->Y.bP=ab->(l=0->Y=eS aa cI (eQ c h).gM)->
    bd (hP (.ptr n 0 0 0) q) λps=>bd (dw 5 ps q) λpu=>bd (aR 1 aa pu q) λqr=>ch C 216 [qr,.str h.ar,I e,I l] q λrc i2=>
     (ob (I h.bf) (I h.bf))/\((True)/\(cc (lC (.fn 215 [.ptr n 0 0 0] []) [rc.pl,(I h.bf).pl]) λd7 d5=>ch C d7 d5 i2 λrd y=>bd (hP (.ptr n 0 0 0) y) λfs=>bd (dw 0 fs y) λf0=>bd (dw 1 f0 y) λf1=>bd (aR 1 aa f1 y) λf2=>
     bd (fw 7 [(.str []),(.str []),(I 0),.ai,.ai,.ai,(I 0)] 1 [(0,.agg [.str h.ar,.str h.aV,I (dz c h.aV),eS aa cS h.src,eS aa cS h.dst,Y,I h.bf])]) λf3=>
      cc (cx 7 120 f2 f3 y) λf4 K=>bd (hP (.ptr n 0 0 0) K) λf5=>bd (dw 0 f5 K) λf6=>bd (dw 1 f6 K) λf7=>bd (df 1 f7 f4 K) λel=>bd (aS .s .add (I e) (I 1)) λf8=>bw [f8] el)):=by
    intro l Y O ms mp;simp only[gJ t,eb t,Q,aJ,ol];refine cY (bh.afX r h.ar e l) rfl λhm f9 bi=>?_;obtain⟨rfl,aB⟩:=bi;rw[ha];simp only[j3,true_and];refine bj (dD:=215) (b:=[.ptr n 0 0 0,I (if(!(g8 c h.ar==(e:Int)))=ab then 5 else l),I h.bf]) rfl ?_;refine cY (bh.report aB (if(!(g8 c h.ar==(e:Int)))=ab then 5 else l) h.bf B (by omega)) rfl λhn ac br=>?_;obtain⟨rfl,aq,af,a3,M⟩:=br
    have z:=bh.sc M;have nl:aR 1 aa (.ptr n 0 0 1) ac=T d8:=gm z rfl;simp only[gJ z,eb z,Q,aJ,fo,nl];rw[tx (U:=7) (row:=[.str h.ar,.str h.aV,I (dz c h.aV),eS aa cS h.src,eS aa cS h.dst,Y,I h.bf]) rfl (by simp[ms]),Q];refine bh.uC M eq _ rfl (by omega) λip h4 ad i8 aQ=>?_;rw[ba,Q];have gh:=zt (gC:=u) (aU:=if(!(g8 c h.ar==(e:Int)))=ab then 5 else l) (c1:=h.bf)
    refine H (e+1,ad,ip,aq,mN u (if(!(g8 c h.ar==(e:Int)))=ab then 5 else l) h.bf,qD fd h.ar e,af,h4,ho++[[.str h.ar,.str h.aV,I (dz c h.aV),eS aa cS h.src,eS aa cS h.dst,Y,I h.bf]]) ⟨k,aQ,a3,by simp only;omega,i8,le,by simp[hg],?_,?_⟩ (by simp;omega)
    ·rw[zs,E,xT,ax]
     cases i9:g8 c h.ar==(e:Int)with
     |true=>simp[O,and_assoc]
     |false=>simp
    ·intro ce
     rw[xT,ax]at ce;simp only[bG]at ce;rw[dl ce.1,lc,mp (O.2 ce.2.1)]<;>rfl
   simp only[bo,gF,Q,G,i,j3,true_and]at go⊢;refine b (λv=>?_) (λv=>?_)
   ·have v:0<=dz c h.aV:=by simpa using v
    obtain⟨o,ds,d0⟩:∃o:Nat,dz c h.aV=o/\o<Z c.m:=by
     rcases nH (λL:bM=>L.ar==h.aV) c.m with⟨o,ds,d6,-⟩|⟨d6,-⟩
     ·exact⟨o,d6,ds⟩
     ·rw[IX]at d6;omega
    rw[ds]at go⊢;simp only[ej,bC d0]at go;have it:S ((0:Int)<=(o:Int))=true:=by simp
    simp only[aC d0 (jh _ _),Q,hF];obtain⟨rx,hh,l,rfl,O⟩:=afL (V:=V) (F:=false) c.m[o] {h with of:=(o:Int),gM:=[]} (d1.aV _ (bs d0)) ⟨ci.1,ci.2.1,by simp[Sm]⟩ md;have hu:e9 c.m[o] {h with of:=(o:Int),gM:=[]}=e9 c.m[o] h:=rfl;have pm:fe c.m[o] {h with of:=(o:Int),gM:=[]}=fe c.m[o] h:=rfl;rw[hu,pm]at hh;rw[hu]at O;refine⟨.c4,_,_,by decide,?_,hh,(λl=>by cases l),?_⟩
    ·exact .ck cy (.ck (.agg _ _ _ (.ck (.str _ _) (.ck (.str _ _) (.ck (.int _ _ _) (.ck cy (.ck cy (.ck (.ai _ _) (.ck (.int _ _ _) (.nil _))))))))) (.nil _))
    ·simp only[ef,cv,dk,Q]
     refine aD rfl ?_;exact go l (eS aa cI (if e9 c.m[o] h=ab then fe c.m[o] h else[])) (by rw[O,it,cu]) rfl (λ_=>by
      rw[eQ];simp only[ds,ej,bC d0]
      congr 1
      by_cases d2:e9 c.m[o] h=ab
      ·rw[if_pos d2,if_pos ⟨by omega,d2⟩]
      ·rw[if_neg d2,if_neg (λk=>d2 k.2)])
   ·have v:¬0<=dz c h.aV:=by simpa using v
    have mt:(match c.m[(dz c h.aV).toNat]? with|some R=>S (0<=dz c h.aV)&&e9 R h|none=>aa)=false:=by
     have:S (0<=dz c h.aV)=false:=by simpa using v
     split
     ·rw[this]<;>rfl
     ·rfl
    exact go 70 .ai (by rw[mt];simp) rfl (λk=>by cases k)
  ·have:e=Z c.aW:=by simp at k;omega
   subst this;rw[dB]at dl a9;clear H
   refine bB (z:=Nat×List Obj×AV×AV×List (Int×Int)×gn×aN×aN) (λg=>[I g.1]) (λg=>g.2.1) (λg=>Z c.d -g.1) (λg=>g.1<=Z c.d/\w g.2.1 (bh n J W U d3 d8 g.2.2.1 .ai g.2.2.2.1 X fd g.2.2.2.2.2.1 g.2.2.2.2.2.2.1 d4 gc g.2.2.2.2.2.2.2 p)/\bA g.2.2.2.1 bX 2 g.2.2.2.2.1 g.2.2.2.2.2.2.1/\Z g.2.2.2.2.1<=200+g.1/\bA g.2.2.1 (bF aa) 7 ((c.d.take g.1).map (en c)) g.2.2.2.2.2.2.2/\
    mO cD.ar (c.d.take g.1) g.2.2.2.2.2.1/\(g.2.2.2.2.1=[]<->((List.range (Z c.m)).all (oy c)=ab/\(List.range (Z c.aW)).all (oz c)=ab)/\(List.range g.1).all (ts c)=ab)) (0,q,.ai,ak,u,[],ae,[]) ⟨by simp,r,B,by simp only;omega,bA.nil _ _,λg=>rfl,by simp[E]⟩ ?_
   rintro⟨e,q,hl,ak,u,hj,ae,ii⟩ ⟨a4,r,B,a0,cs,be,E⟩ bw H;simp only at a4 r B a0 cs be E H⊢;simp only[G,A,Q,a];refine b (λk=>?_) (λk=>?_)
   ·have k:e<Z c.d:=by simpa using k
    have lt:c.d[e]∈c.d:=bs k;have he:=be.has k;have li:=be.step k;have mk:(c.d.take e).map (en c)++[en c c.d[e]]=(c.d.take (e+1)).map (en c):=by
     rw[hX k,ht]<;>rfl
    have ax:ts c e=((c.d[e].aV==[]||S (0<=dz c c.d[e].aV))&&ei c c.d[e].ar==(e:Int)):=by rw[ts,bC k]
    have lm:bN (λL:cD=>L.ar==c.d[e].ar) c.d=ei c c.d[e].ar:=rfl;rw[lm]at he;have es:=aC (V:=V) (a2:=bF V) (o:=c.d) (N:=q) k (hD V _);have ls:=d1.q0 _ lt;generalize c.d[e]=j at*;have t:=bh.sc r;have bv:aR 1 aa (.ptr n 0 0 4) q=T (.b5 J):=gm t rfl;have op:aR 1 aa (.ptr n 0 0 6) q=T (.b5 U):=gm t rfl;simp only[es,Q,ub,vD,qa,qb,qc,qd,qe,qf];refine f (ah.afG j.bb ls) ?_
    refine aD (dD:=eS aa cI j.bb) rfl ?_;simp only[ry,Q,bo,ib,G,i,gJ t,eb t,aJ,bv,op,j3,true_and];have go:∀l:Int,(l=0<->(j.aV==[]||S (0<=dz c j.aV))=ab)->ch C 216 [.b5 U,.str j.ar,I e,I l] q λpp i1=>(cc (lC (.fn 215 [.ptr n 0 0 0] []) [pp.pl,(I j.bf).pl]) λd7 d5=>ch C d7 d5 i1 λrd y=>bd (hP (.ptr n 0 0 0) y) λfs=>bd (dw 0 fs y) λf0=>bd (dw 2 f0 y) λf1=>bd (aR 1 aa f1 y) λf2=>
     bd (fw 7 [(.str []),.ai,(.str []),(I 0),ff,(I 0),(I 0)] 1 [(0,.agg [.str j.ar,eS aa cI j.bb,.str j.aV,I (en c j).of,.bool j.fI,I j.e2,I j.bf])]) λf3=>
      cc (cx 7 88 f2 f3 y) λf4 K=>bd (hP (.ptr n 0 0 0) K) λf5=>bd (dw 0 f5 K) λf6=>bd (dw 2 f6 K) λf7=>bd (df 1 f7 f4 K) λel=>bd (aS .s .add (I e) (I 1)) λf8=>bw [f8] el):=by
     intro l O;refine cY (bh.afY r j.ar e l) rfl λhm f9 bi=>?_;obtain⟨rfl,aB⟩:=bi;rw[he];refine bj (dD:=215) (b:=[.ptr n 0 0 0,I (if(!(ei c j.ar==(e:Int)))=ab then 5 else l),I j.bf]) rfl ?_;refine cY (bh.report aB (if(!(ei c j.ar==(e:Int)))=ab then 5 else l) j.bf B (by omega)) rfl λhn ac br=>?_;obtain⟨rfl,aq,af,a3,M⟩:=br;have z:=bh.sc M;have ok:aR 1 aa (.ptr n 0 0 2) ac=T hl:=gm z rfl
     have lw:(AV.agg [AV.str j.ar,eS aa cI j.bb,.str j.aV,I (en c j).of,.bool j.fI,I j.e2,I j.bf])=.agg (bF aa (en c j)):=rfl;simp only[gJ z,eb z,Q,aJ,fo,ok,lw];rw[tx (U:=7) (row:=bF aa (en c j)) rfl rfl,Q];refine bh.af0 M cs (en c j) (by rw[kd,gb];omega) λpi io ad gN aQ=>?_;rw[ba,Q];rw[mk]at gN;have gh:=zt (gC:=u) (aU:=if(!(ei c j.ar==(e:Int)))=ab then 5 else l) (c1:=j.bf)
     refine H (e+1,ad,pi,aq,mN u (if(!(ei c j.ar==(e:Int)))=ab then 5 else l) j.bf,qD hj j.ar e,af,io) ⟨k,aQ,a3,by simp only;omega,gN,li,?_⟩ (by simp;omega);rw[zs,E,xT,ax];cases i9:ei c j.ar==(e:Int)with
     |true=>simp[O,and_assoc]
     |false=>simp
    refine c8 (λv=>?_) (λv=>?_)
    ·have b4:j.aV≠[]:=by simpa using v
     have ex:(en c j).of=dz c j.aV:=by rw[en,if_neg b4]
     rw[ex]at go;refine ea _ (BQ X j.aV) (.ck (BP (bh.QV r)) (.ck (.str _ _) (.nil _))) (.int _ _) ?_;rw[P j.aV,IX];simp only[ry,Q,A];refine b (λd9=>?_) (λd9=>?_)
     ·exact go 70 (by
       have:S (0<=dz c j.aV)=false:=by simp at d9⊢;omega
       rw[v,this];simp)
     ·exact go 0 (by
       have:S (0<=dz c j.aV)=true:=by simp at d9⊢;omega
       rw[this];simp)
    ·have b4:j.aV=[]:=by simpa using v
     have ex:(en c j).of= -1:=by rw[en,if_pos b4]
     rw[ex]at go;exact go 0 (by simp[b4])
   ·have:e=Z c.d:=by simp at k;omega
    subst this;rw[dB]at cs be;have gi:po c=ab<->((List.range (Z c.m)).all (oy c)=ab/\(List.range (Z c.aW)).all (oz c)=ab)/\(List.range (Z c.d)).all (ts c)=true:=by
     rw[po,bG,bG]
    exact⟨n,J,W,U,d3,d8,hl,ak,X,fd,hj,ae,d4,gc,ii,ho,u,rfl,r,B,by omega,co,eq,cs,P,a9,be,by rw[E,gi],λk=>dl (gi.1 k).1.2⟩
theorem BR{id g off:Nat}(c:N[id]?=T (.arr g O bS))(e:bS[U]?=T bg)(a:off<Z bg)(f:Y.pl=Y)(d:Y.bP=ab):df 1 (.ptr id g U off) Y N=T (N.set id (.arr g O (bS.set U (bg.set off Y)))):=by
 have b:eV bg off [Y]=bg.set off Y:=by
  simp only[eV,gz];rw[alc,if_pos a];simp
 have h:Y.cells=[Y]:=by
  cases Y<;>first|rfl|grind[AV.bP]
 grind[df]
section
variable{H:List Obj}{X:aN}{B g i n:Nat}{es:List (List AV)}{cs:List AV}
theorem BS(a:w H ((B,.arr g n (es.set i cs))::X)):H[B]?=T (.arr g n (es.set i cs)):=a.get (by simp)
theorem QW(a:i<Z es):(es.set i cs)[i]?=T cs:=by simp[a]
theorem oC(a:w H ((B,.arr g n (es.set i cs))::X))(off:Nat):hP (.ptr B g i off) H=T (.ptr B g i off):=by
 grind[BS,hP,dw]
theorem lQ(b:w H ((B,.arr g n (es.set i cs))::X))(off a:Nat):dw a (.ptr B g i off) H=T (.ptr B g i (off+a)):=oq (BS b)
theorem qE(b:i<Z es)(a:w H ((B,.arr g n (es.set i cs))::X))(off:Nat):aR 1 aa (.ptr B g i off) H=cs[off]?:=cr (BS a) (QW b)
theorem rB(e:i<Z es)(c:w H ((B,.arr g n (es.set i cs))::X)){off:Nat}{a:AV}(f:off<Z cs)(h:a.pl=a)(d:a.bP=ab)
 (j:∀b,w b ((B,.arr g n (es.set i (cs.set off a)))::X)->hB b):bd (df 1 (.ptr B g i off) a H) hB:=by
 refine aD (BR (BS c) (QW e) f h d) (j _ ?_);rw[ak9];exact c.set _
end
theorem Gr.at(a:Gr N Y a2 U o)(b:O<Z o):∃id g,bY U Y (I O) N=T (.ptr id g O 0)/\N[id]?=T (.arr g U (o.map a2))/\(o.map a2)[O]?=T (a2 o[O]):=by
 rcases a with⟨rfl,-⟩|⟨id,g,rfl,a⟩
 ·simp at b
 grind[e3]
def SC(b:aj)(k:Nat)(a:List Obj):Prop:=∃e c j o n f g l h i,a[k]?=T (fg e c j o n f g l)/\Gr a e (bn aa) 4 b.m/\Gr a c (b8 aa) 7 b.aW/\Gr a j (bF aa) 7 b.d/\
 a[f]?=T (b7 h)/\a[g]?=T (b7 i)/\mO Fn.ar b.aW h/\mO cD.ar b.d i
theorem SC.q0(b:SC M U N):∃a,aR 1 aa (.ptr U 0 0 2) N=T a/\Gr N a (bF aa) 7 M.d:=by
 obtain⟨n,g,a,t,o,p,q,f,r,s,e,h,i,c,j,k,l,m⟩:=b;exact⟨a,gm e rfl,c⟩
theorem SC.fuN(c:SC M U N):∃a,aR 1 aa (.ptr U 0 0 1) N=T a/\Gr N a (b8 aa) 7 M.aW:=by
 obtain⟨m,b,a,s,n,o,p,f,q,r,e,g,d,h,i,j,k,l⟩:=c;exact⟨b,gm e rfl,d⟩
theorem SC.aV(b:SC M U N):∃a,aR 1 aa (.ptr U 0 0 0) N=T a/\Gr N a (bn aa) 4 M.m:=by
 obtain⟨e,g,a,t,o,p,q,f,r,s,d,c,h,i,j,k,l,n⟩:=b;exact⟨e,gm d rfl,c⟩
theorem SC.nc(a:SC M U N)(off:Nat):hP (.ptr U 0 0 off) N=T (.ptr U 0 0 off):=by
 obtain⟨l,d,r,s,m,n,o,c,p,q,b,e,f,g,h,i,j,k⟩:=a;exact gJ b
theorem SC.ao(b:SC M U N)(off a:Nat):dw a (.ptr U 0 0 off) N=T (.ptr U 0 0 (off+a)):=by
 obtain⟨m,e,s,t,n,o,p,d,q,r,c,f,g,h,i,j,k,l⟩:=b;exact eb c
theorem SC.af3(c:SC M U N):∃a b,aR 1 aa (.ptr U 0 0 5) N=T (.b5 a)/\N[a]?=T (b7 b)/\mO Fn.ar M.aW b:=by
 obtain⟨p,j,t,u,q,g,r,i,h,s,f,k,l,m,d,n,e,o⟩:=c;exact⟨g,h,gm f rfl,d,e⟩
theorem SC.QX(c:SC M U N):∃a b,aR 1 aa (.ptr U 0 0 6) N=T (.b5 a)/\N[a]?=T (b7 b)/\mO cD.ar M.d b:=by
 obtain⟨q,k,u,v,r,s,h,j,t,i,g,l,m,n,o,e,p,f⟩:=c;exact⟨h,i,gm g rfl,e,f⟩
theorem SC.g3(a:SC M U N):aI N .cm (.ptr U 0 0 0) (.aK ab [eS ab (bn ab) M.m,.undef,.undef,.undef,.undef,.undef,.undef,.undef] 0):=by
 obtain⟨l,e,s,t,n,o,p,d,q,r,c,b,f,g,h,i,j,k⟩:=a;exact afR c b
def eI(a:aG)(b:AV):List AV:=[.str a.ar,I a.aq,eS aa cT a.ad,I a.af.ak,.str a.af.ar,.str a.af.aB,I a.af.aQ,b,I a.bf]
theorem QY(a:cD):dh 7 (.agg (bF aa a))=T (bF aa a):=gS rfl rfl
def BT(b:aj)(a:aG)(h:aN)(f k l:Nat)(j:List (List AV))(i:AV)(m:AV)(g:List Obj):Prop:=∃d c e,m=I d/\(d=0<->fU b a=ab)/\(fU b a=ab->gZ a c e=rp b a)/\w g ((f,.arr k 9 (j.set l (eI (gZ a c e) i)))::h)
theorem BT.mk(b a c:Int)(e:b=0<->fU M u=ab)(f:fU M u=ab->gZ u a c=rp M u)(d:w N ((U,.arr O 9 (bS.set y (eI (gZ u a c) Y)))::p)):BT M u p U O y bS Y (I b) N:=⟨b,a,c,rfl,e,f,d⟩
theorem BT.bad(a b c:Int)(e:a≠0)(f:fU M u=aa)(d:w N ((U,.arr O 9 (bS.set y (eI (gZ u b c) Y)))::p)):BT M u p U O y bS Y (I a) N:=by grind[mk]
theorem af4(c:aj)(a:aG)(es:dW c)(eq:Sm a.ad)(el:kz c)(o:y<Z bS)(W:∀N,w N p->SC c c2 N)
 (B:w N ((U,.arr O 9 (bS.set y (eI a Y)))::p)):
 HR C 224 [.ptr c2 0 0 0,.ptr U O y 0] N (BT c a p U O y bS Y):=by
 refine ZM.hq ?_;simp only[oC B,lQ B,Q,aJ];refine rB o B (by simp[eI]) rfl rfl λf0 E=>?_;simp only[oC E,lQ E,Q,aJ];refine rB o E (by simp[eI]) rfl rfl λci n=>?_;have n:w ci ((U,.arr O 9 (bS.set y (eI (gZ a (-1) (-1)) Y)))::p):=n;simp only[oC n,lQ n,qE o n,Q,aJ,eI,gZ,cv,fF];clear E B;refine b (λh=>?_) (λh=>?_)
 ·have h:a.ar=[]:=by simpa using h
  exact .mk 0 (-1) (-1) (by simp[fU,h]) (λ_=>by rw[rp,kE,oA,if_pos h,if_pos h]) n
 ·have a3:a.ar≠[]:=by simpa using h
  have g:fU c a=(match c.d[(ei c a.ar).toNat]? with
   |none=>aa
   |some e=>S (0<=ei c a.ar)&& !e.fI&&mf e a.ad&&((a.af.ak==0)==S (e.of<0))&&
    (!(a.af.ak==1)||S (0<=e1 c e a.af.ar))&&
    (!(a.af.ak==3)||(S (0<=g8 c a.af.ar)&&(match c.aW[(g8 c a.af.ar).toNat]? with|some cs=>cs.of==e.of|none=>aa)))):=by
   rw[fU,h,kh]<;>rfl
  have F:=W _ n.tail;obtain⟨fs,ce,bw,J,a4⟩:=F.QX;simp only[F.nc,F.ao,Q,aJ,bw];refine ea _ (BQ ce a.ar) (.ck (BP J) (.ck (.str _ _) (.nil _))) (.int _ _) ?_;have em:mM ce a.ar=ei c a.ar:=a4 _;rw[em];refine rB o n (by simp[eI]) rfl rfl λco k=>?_;have k:w co ((U,.arr O 9 (bS.set y (eI (gZ a (ei c a.ar) (-1)) Y)))::p):=k;simp only[oC k,lQ k,qE o k,Q,aJ,eI,gZ,cv,dk,A];clear F bw J a4 n
  refine b (λt=>?_) (λt=>?_)
  ·have t:ei c a.ar<0:=by simpa using t
   refine .bad 70 _ _ (by omega) ?_ k;grind
  ·have t:0<=ei c a.ar:=by simpa using t
   obtain⟨q,G,H⟩:∃q:Nat,ei c a.ar=q/\q<Z c.d:=by
    have:=xW (λr:cD=>r.ar==a.ar) c.d;grind[ei]
   rw[G]at g t k;simp only[ej,bC H]at g;rw[G];have v:=W _ k.tail;obtain⟨f6,bv,aB⟩:=v.q0;obtain⟨id,ds,K,x,L⟩:=aB.at H;simp only[v.nc,v.ao,Q,aJ,fo,bv,K,kV x L (hD _ _),QY,qa,qb,qc,q2,qd,qe,qf];clear K x L aB bv;generalize be:c.d[q]=e at*;have f5:e.of<Z c.m:=el e (be▸bs H);have d0:S ((0:Int)<=(q:Int))=true:=by simp
   rw[d0,cu]at g;refine b (λaQ=>?_) (λaQ=>?_)
   ·exact .bad 73 _ _ (by omega) (by grind) k
   ·rw[aQ,mR,cu]at g
    obtain⟨P,d3,d4⟩:=QP (V:=false) (F:=false) e a.ad eq;have d2:(AV.agg [.str e.ar,eS aa cI e.bb,.str e.aV,I e.of,.bool e.fI,I e.e2,I e.bf])=.agg (bF aa e):=rfl;rw[d2];refine f d3 ?_;simp only[cd,Q];refine b (λs=>?_) (λs=>?_)
    ·have s:P≠0:=by simpa using s
     refine .bad P _ _ s ?_ k;grind
    ·have s:P=0:=by simpa using s
     rw[d4.1 s,cu]at g;simp only[c9,A,Q,GN];refine c8 (λR=>?_) (λR=>?_)
     ·exact .bad 72 _ _ (by omega) (by grind) k
     ·rw[R,cu]at g
      have d8:(a.af.ak=0)<->e.of<0:=by
       have:=R;rw[beq_iff_eq]at this;constructor
       ·intro ac;rw[ac]at this;simpa using this.symm
       ·intro ac
        have l:S (e.of<0)=true:=by simpa using ac
        rw[l]at this;simpa using this
      have ah:kE c a=q:=by rw[kE,if_neg a3,G]
      have X:oA c a=if a.af.ak=1 then e1 c e a.af.ar else if a.af.ak=3 then g8 c a.af.ar else -1:=by
       rw[oA,if_neg a3,G];simp only[ej,bC H,be]
      rw[bo];refine b (λl=>?_) (λl=>?_)
      ·have l:a.af.ak=1:=by simpa using l
       have f4:0<=e.of:=by
        rcases Cr e.of 0 with h|h
        ·have:=d8.2 h;omega
        ·exact h
       obtain⟨z,a9⟩:∃z:Nat,e.of=z:=⟨e.of.toNat,by omega⟩;have ae:z<Z c.m:=by omega
       have d5:e1 c e a.af.ar=bT c.m[z].au a.af.ar:=by
        rw[e1,a9,ej,bC ae]
       have ex:(a.af.ak==3)=false:=by rw[l]<;>rfl
       have ax:(a.af.ak==1)=true:=by rw[l]<;>rfl
       rw[ax,ex]at g;simp only[kI,kh,mR,yi,ve]at g;rw[a9];refine ea _ (QT c.m z ae a.af.ar (es.aV _ (bs ae))) (.ck v.g3 (.ck (.int _ _ _) (.ck (.str _ _) (.nil _)))) (.int _ _) ?_;rw[<-d5];refine rB o k (by simp[eI]) rfl rfl λM i=>?_;have i:w M ((U,.arr O 9 (bS.set y (eI (gZ a q (e1 c e a.af.ar)) Y)))::p):=i;simp only[oC i,lQ i,qE o i,Q,aJ,eI,gZ,cv,dk,A];refine b (λj=>?_) (λj=>?_)
       ·have j:e1 c e a.af.ar<0:=by simpa using j
        have d6:fU c a=false:=by rw[g];simp;omega
        exact .bad 70 _ _ (by omega) d6 i
       ·have j:0<=e1 c e a.af.ar:=by simpa using j
        have aq:fU c a=true:=by rw[g];simpa using j
        exact .mk 0 _ _ (by simp[aq]) (λ_=>by rw[rp,ah,X,if_pos l]) i
      ·have l:a.af.ak≠1:=by simpa using l
       have ax:(a.af.ak==1)=false:=by simpa using l
       rw[ax]at g;simp only[mR,yi,cu]at g;simp only[];refine b (λj=>?_) (λj=>?_)
       ·rw[j]at g
        simp only[kI,kh]at g;have j:a.af.ak=3:=by simpa using j
        obtain⟨fs,b4,fn,J,d9⟩:=v.af3;simp only[Q,fn];refine ea _ (BQ b4 a.af.ar) (.ck (BP J) (.ck (.str _ _) (.nil _))) (.int _ _) ?_;have d7:mM b4 a.af.ar=g8 c a.af.ar:=d9 _;rw[d7];refine rB o k (by simp[eI]) rfl rfl λM i=>?_;have i:w M ((U,.arr O 9 (bS.set y (eI (gZ a q (g8 c a.af.ar)) Y)))::p):=i;simp only[oC i,lQ i,qE o i,Q,aJ,eI,gZ,cv,dk,A];refine b (λu=>?_) (λu=>?_)
        ·have u:g8 c a.af.ar<0:=by simpa using u
         have:S (0<=g8 c a.af.ar)=false:=by simp;omega
         exact .bad 70 _ _ (by omega) (by grind) i
        ·have u:0<=g8 c a.af.ar:=by simpa using u
         obtain⟨r,bi,br⟩:∃r:Nat,g8 c a.af.ar=r/\r<Z c.aW:=by
          have:=xW (λr:Fn=>r.ar==a.af.ar) c.aW;grind[g8]
         rw[bi]at g i⊢;simp only[ej,bC br]at g;have d1:S ((0:Int)<=(r:Int))=true:=by simp
         rw[d1,cu]at g;have V:=W _ i.tail;obtain⟨f3,fd,dl⟩:=V.fuN;obtain⟨id,ds,K,x,L⟩:=dl.at br;simp only[V.nc,V.ao,Q,aJ,fo,fd,K,oq x,cr x L,b8,cv,dk,cd];refine b (λa0=>?_) (λa0=>?_)
         ·exact .bad 72 _ _ (by omega) (by grind) i
         ·have aq:fU c a=true:=by rw[g];simpa using a0
          exact .mk 0 _ _ (by simp[aq]) (λ_=>by rw[rp,ah,X,if_neg l,if_pos j,bi]) i
       ·rw[j]at g
        simp only[mR,yi]at g;have j:a.af.ak≠3:=by simpa using j
        exact .mk 0 _ _ (by simp[g]) (λ_=>by rw[rp,ah,X,if_neg l,if_neg j]) k
def dL(a:Lit):List AV:=[I a.ak,.str a.ar,I a.aq,eS aa cT a.ad,.str a.bind,.str a.af,I a.gN,I a.op,I a.bf]
def xX(b:aj)(a:Lit)(h:aN)(f j k:Nat)(i:List (List AV))(l:AV)(g:List Obj):Prop:=∃d c e,l=I d/\(d=0<->gH b a=ab)/\(gH b a=ab->iT a c e=g9 b a)/\w g ((f,.arr j 9 (i.set k (dL (iT a c e))))::h)
section
variable{P:aj}{l:Lit}{X:aN}{B gB j:Nat}{es:List (List AV)}{H':List Obj}
theorem xX.mk(b a c:Int)(e:b=0<->gH P l=ab)(f:gH P l=ab->iT l a c=g9 P l)(d:w H' ((B,.arr gB 9 (es.set j (dL (iT l a c))))::X)):xX P l X B gB j es (I b) H':=⟨b,a,c,rfl,e,f,d⟩
theorem xX.bad(a:Int)(b:w H' ((B,.arr gB 9 (es.set j (dL (iT l aU c1))))::X))(c:a≠0)(d:gH P l=aa):xX P l X B gB j es (I a) H':=by grind[mk]
theorem xX.ok(a:w H' ((B,.arr gB 9 (es.set j (dL (iT l aU c1))))::X))(c:gH P l=ab)(b:iT l aU c1=g9 P l):xX P l X B gB j es (I 0) H':=by grind[mk]
end
theorem af5(c:aj)(a:Lit)(b4:dW c)(es:Sm a.ad)(el:kz c)(ae:a.ak=5->Z a.ad=2)(ah:(a.ak=3\/a.ak=4)<->a.af≠[])(s:y<Z bS)(ax:∀N,w N p->SC c c2 N)
 (K:w N ((U,.arr O 9 (bS.set y (dL a)))::p)):
 HR C 225 [.ptr c2 0 0 0,.ptr U O y 0] N (xX c a p U O y bS):=by
 refine ZN.hq ?_;simp only[oC K,lQ K,Q,aJ];refine rB s K (by simp[dL]) rfl rfl λfs L=>?_;simp only[oC L,lQ L,Q,aJ];refine rB s L (by simp[dL]) rfl rfl λcs k=>?_;have k:w cs ((U,.arr O 9 (bS.set y (dL (iT a (-1) (-1)))))::p):=k;simp only[oC k,lQ k,qE s k,Q,aJ,dL,iT,cv,dk,c9];clear L K;refine b (λF=>?_) (λF=>?_)
 ·have x:a.ak=5:=by simpa using F
  obtain⟨j,t,a4⟩:∃j t,a.ad=[j,t]:=by
   have:=ae x
   match f4:a.ad,this with
   |[j,t],_=>grind
  have a3:gH c a= !(j.aB==[]&&t.aB==[]&&j.const.ty !=t.const.ty):=by
   rw[gH,if_pos x,a4]
  have B:iT a (-1) (-1)=g9 c a:=by
   rw[EL,mg,if_pos x,xO,if_neg (by omega)]
  have ex:∀N:List Obj,bY 4 (eS aa cT a.ad) (I 0) N=T (.aK aa (cT j) 0):=λN=>by rw[a4];exact aC (o:=[j,t]) (U:=0) (by simp) rfl
  have E:∀N:List Obj,bY 4 (eS aa cT a.ad) (I 1) N=T (.aK aa (cT t) 0):=λN=>by rw[a4];exact aC (o:=[j,t]) (U:=1) (by simp) rfl
  have ds:∀j:aM,g (cT j) 0=.str j.aB:=λ_=>rfl;have d0:∀j:aM,g (cT j) 1=I j.const.ty:=λ_=>rfl;simp only[ex,E,Q,ji,vC,j3,true_and,ds,d0,fF,cd,bo,G];refine aZ (λl=>aZ (λac=>?_) (λac=>?_)) (λl=>?_)
  ·rw[l,ac]at a3
   refine b (λo=>?_) (λo=>?_)
   ·exact .bad 72 k (by omega) (by grind)
   ·exact .ok k (by grind) B
  ·rw[l,ac]at a3
   simp only[bZ,cZ,if_false];exact .ok k (by grind) B
  ·rw[l]at a3
   simp only[bZ,cZ,if_false];exact .ok k (by grind) B
 ·have x:a.ak≠5:=by simpa using F
  have n:gH c a=(match c.d[(ei c a.ar).toNat]? with
   |none=>aa
   |some e=>S (0<=ei c a.ar)&&mf e a.ad&& !(S (e.of<0)&&(!(a.bind==[])||(a.ak==3||a.ak==4)))&&
    (!(a.ak==3||a.ak==4)||(S (0<=e1 c e a.af)&&(match c.m[e.of.toNat]? with|some be=>e1 c e a.af !=fy be []|none=>aa)))):=by
   rw[gH,if_neg x]<;>rfl
  have M:=ax _ k.tail;obtain⟨f9,co,ci,bv,bw⟩:=M.QX;simp only[M.nc,M.ao,Q,aJ,ci];refine ea _ (BQ co a.ar) (.ck (BP bv) (.ck (.str _ _) (.nil _))) (.int _ _) ?_;have em:mM co a.ar=ei c a.ar:=bw _;rw[em];refine rB s k (by simp[dL]) rfl rfl λbi h=>?_;have h:w bi ((U,.arr O 9 (bS.set y (dL (iT a (ei c a.ar) (-1)))))::p):=h;simp only[oC h,lQ h,qE s h,Q,aJ,dL,iT,cv,dk,A];clear M ci bv bw k
  refine b (λl=>?_) (λl=>?_)
  ·have l:ei c a.ar<0:=by simpa using l
   refine .bad 70 h (by omega) ?_;grind
  ·have l:0<=ei c a.ar:=by simpa using l
   obtain⟨r,R,V⟩:∃r:Nat,ei c a.ar=r/\r<Z c.d:=by
    have:=xW (λbe:cD=>be.ar==a.ar) c.d;grind[ei]
   have B:∀a9,a9=(if a.ak=3\/a.ak=4 then e1 c c.d[r] a.af else -1)->iT a (r:Int) a9=g9 c a:=by
    rintro a9 rfl;rw[EL,mg,if_neg x,R,xO,R];simp only[ej,bC V]
   rw[R]at n l h;simp only[ej,bC V]at n;rw[R];have P:=ax _ h.tail;obtain⟨gc,ce,br⟩:=P.q0;obtain⟨id,d1,E,W,X⟩:=br.at V;simp only[P.nc,P.ao,Q,aJ,fo,ce,E,kV W X (hD _ _),QY,qa,qb,qc,q2,qd,qe,qf];clear E W X br ce;generalize eq:c.d[r]=e at*;have f6:e.of<Z c.m:=el e (eq▸bs V);have d3:S ((0:Int)<=(r:Int))=true:=by simp
   rw[d3,cu]at n;obtain⟨Y,d7,d8⟩:=QP (V:=false) (F:=false) e a.ad es;have d6:(AV.agg [.str e.ar,eS aa cI e.bb,.str e.aV,I e.of,.bool e.fI,I e.e2,I e.bf])=.agg (bF aa e):=rfl;rw[d6];refine f d7 ?_;simp only[cd,Q];refine b (λo=>?_) (λo=>?_)
   ·have o:Y≠0:=by simpa using o
    refine .bad Y h o ?_;grind
   ·have o:Y=0:=by simpa using o
    rw[d8.1 o,cu]at n;have d5:(a.ak==3||a.ak==4)= !(a.af==[]):=by
     rw[hY];simpa using ah
    rw[d5]at n;simp only[A,ib,Q];refine pg (N:=bi) (S (e.of<0)&&(!(a.bind==[])|| !(a.af==[]))) [.str e.ar,eS aa cI e.bb,.str e.aV,I e.of,.bool e.fI,I e.e2,I e.bf] (λf7 f3=>?_) ?_
    ·refine aZ (λu=>gV (λae=>?_) (λae=>?_)) (λu=>?_)
     ·grind
     ·grind
     grind
    ·simp only[G,i]
     refine b (λu=>.bad 72 h (by omega) (by grind)) (λu=>?_);rw[u,mR,cu,FC]at n;rw[bo];simp only[oC h,lQ h,qE s h,Q,aJ,dL,iT,cv,dk,ib];refine c8 (λv=>?_) (λv=>?_)
     ·have f5:0<=e.of:=by
       rw[v]at u;simp at u;omega
      have aQ:a.ak=3\/a.ak=4:=ah.2 (by simpa using v);obtain⟨J,a0⟩:∃J:Nat,e.of=J:=⟨e.of.toNat,by omega⟩;have z:J<Z c.m:=by omega
      have d9:e1 c e a.af=bT c.m[J].au a.af:=by
       rw[e1,a0,ej,bC z]
      rw[v,a0]at n;simp only[ej,bC z,kh]at n;rw[a0];refine ea _ (QT c.m J z a.af (b4.aV _ (bs z))) (.ck P.g3 (.ck (.int _ _ _) (.ck (.str _ _) (.nil _)))) (.int _ _) ?_;rw[<-d9];refine rB s h (by simp[dL]) rfl rfl λdl q=>?_;have q:w dl ((U,.arr O 9 (bS.set y (dL (iT a r (e1 c e a.af)))))::p):=q;simp only[oC q,lQ q,qE s q,Q,aJ,dL,iT,cv,dk,A];refine b (λH=>?_) (λH=>?_)
      ·have f2:S (0<=e1 c e a.af)=false:=by simp at H⊢;omega
       exact .bad 70 q (by omega) (by grind)
      ·have H:S (0<=e1 c e a.af)=true:=by simpa using H
       rw[H,cu]at n;have aq:=ax _ q.tail;obtain⟨f8,fd,d2⟩:=aq.aV;obtain⟨id,d1,E,W,X⟩:=d2.at z;simp only[aq.nc,aq.ao,Q,fo,fd,E,kV W X (jh _ _)];refine f (Ej _ (b4.aV _ (bs z))) ?_;simp only[c9,Q];refine b (λd4=>?_) (λd4=>?_)
       ·exact .bad 72 q (by omega) (by grind)
       ·exact .ok q (by grind) (B _ (by rw[if_pos aQ]))
     ·have aQ:¬(a.ak=3\/a.ak=4):=λF=>ah.1 F (by simpa using v)
      rw[v]at n;exact .ok h (by grind) (B _ (by rw[if_neg aQ]))
def vN(a:List k):gn:=a.zipIdx
theorem IY(a:List k):(vN a).map Prod.fst=a:=by simp[vN]
theorem QZ(a:List k):Z (vN a)=Z a:=by simp[vN]
theorem af6(a:List k)(b:k):vN a++[(b,Z a)]=vN (a++[b]):=by grind[vN]
theorem af7(e:x.Nodup)(f:U<Z x):mM (vN x) x[U]=U:=by
 unfold mM;cases a:(vN x).find? (λb=>b.1==x[U])with
 |some b=>
  have c:=TN a;have d:=List.mem_of_find?_eq_some a;simp_all[vN,List.mem_zipIdx_iff_getElem?,e6,beq_iff_eq,List.getElem_inj]
 |none=>
  rw[FF]at a;have:=a (x[U],U) (by grind[vN]);simp at this
def nE(a:Nat->Int):List AV:=(List.range 36).map λb=>I (a b)
theorem zu(a:Nat->Int):Z (nE a)=36:=by simp[nE]
theorem Q0(a:Nat->Int)(b:U<36):(nE a)[U]?=T (I (a U)):=by simp[nE,b]
theorem Q1(a:Nat->Int)(b:Int):(nE a).set U (I b)=nE (bK a U b):=by
 refine wI λc=>?_;grind[bK,nE]
theorem af8(b:Nat->Nat)(c d:Nat):(λa=>((bK b c d a:Nat):Int))=bK (λa=>(b a:Int)) c (d:Int):=by
 grind[bK]
def iI(b:Nat)(az:Nat->Nat)(c:Nat->Int):List AV:=.b5 b::(nE (λa=>(az a:Int))++nE c)
def g0(a c:Nat)(d:List k)(az:Nat->Nat)(e:Nat->Int)(b:aN):aN:=(c,.arr 0 73 [iI a az e])::(a,b7 (vN d))::b
theorem IZ(a:Nat)(az:Nat->Nat)(b:Nat->Int):Z (iI a az b)=73:=by simp[iI,zu]
theorem clC_1(a:Nat)(az:Nat->Nat)(b:Nat->Int)(c:U<36):(iI a az b)[1+U]?=T (I (az U)):=by
 grind[iI,Nat.add_comm,List.getElem?_cons_succ,List.getElem?_append_left,zu,Q0]
theorem clC_2(b:Nat)(az:Nat->Nat)(a:Nat->Int)(c:U<36):(iI b az a)[37+U]?=T (I (a U)):=by
 grind[iI,List.getElem?_cons_succ,List.getElem?_append_right,zu,Nat.add_sub_cancel_left,Q0]
theorem af9(a:Nat)(az:Nat->Nat)(b:Nat->Int)(c:Nat)(d:U<36):(iI a az b).set (1+U) (I c)=iI a (bK az U c) b:=by
 simp_all[iI,Nat.add_comm,Ka,ak8,zu,Q1,af8]
theorem aga(a:Nat)(az:Nat->Nat)(b:Nat->Int)(c:Int):(iI a az b).set (37+U) (I c)=iI a az (bK b U c):=by
 rw[iI,show 37+U=(36+U)+1 by omega,Ka,Kd _ _ (by rw[zu];omega),zu,Nat.add_sub_cancel_left,Q1,iI]
section
variable{H:List Obj}{m K:Nat}{V:List k}{az:Nat->Nat}{ty:Nat->Int}{F:aN}
theorem xY(a:w H (g0 m K V az ty F)):H[K]?=T (.arr 0 73 [iI m az ty]):=a.get (by simp[g0])
theorem zv(a:w H (g0 m K V az ty F)):H[m]?=T (b7 (vN V)):=a.get (by simp[g0])
theorem oD(a:w H (g0 m K V az ty F)):w H F:=a.tail.tail
theorem sA(a:w H (g0 m K V az ty F))(off:Nat):hP (.ptr K 0 0 off) H=T (.ptr K 0 0 off):=gJ (xY a)
theorem rC(b:w H (g0 m K V az ty F))(off a:Nat):dw a (.ptr K 0 0 off) H=T (.ptr K 0 0 (off+a)):=eb (xY b)
theorem cl_0(a:w H (g0 m K V az ty F)):aR 1 aa (.ptr K 0 0 0) H=T (.b5 m):=gm (xY a) rfl
theorem cl_1(a:w H (g0 m K V az ty F))(b:U<36):aR 1 aa (.ptr K 0 0 (1+U)) H=T (I (az U)):=gm (xY a) (clC_1 m az ty b)
theorem cl_2(a:w H (g0 m K V az ty F))(b:U<36):aR 1 aa (.ptr K 0 0 (37+U)) H=T (I (ty U)):=gm (xY a) (clC_2 m az ty b)
theorem u0(a:w H (g0 m K V az ty F)){off:Nat}(b:U<36):oV 36 1 (.ptr K 0 0 off) (I U) H=T (.ptr K 0 0 (off+U)):=by
 simp only[oV,AV.pl];grind[rC]
theorem Q2(c:w H (g0 m K V az ty F))(a:Nat)(d:U<36)(e:∀b,w b (g0 m K V (bK az U a) ty F)->hB b):bd (df 1 (.ptr K 0 0 (1+U)) (I a) H) hB:=by
 refine aD (k1 (xY c) (IZ _ _ _) (by omega) rfl rfl) (e _ ?_);rw[af9 m az ty a d];exact w.set c _
theorem Q3(c:w H (g0 m K V az ty F))(a:Int)(e:U<36)(d:∀b,w b (g0 m K V az (bK ty U a) F)->hB b):bd (df 1 (.ptr K 0 0 (37+U)) (I a) H) hB:=by
 refine aD (k1 (xY c) (IZ _ _ _) (by omega) rfl rfl) (d _ ?_);rw[aga m az ty a];exact w.set c _
end
theorem agb{id:Nat}(a:k)(d:N[id]?=T (b7 hy))(b:(hy.map Prod.fst).contains a=aa):yC ⟨aa,1,[1]⟩ (I 0) (.b5 id) (.str a) N=T (.aE [I 0,I (Z hy)],N.set id (b7 (hy++[(a,0)]))):=by
 have c:(⟨aa,1,[1]⟩:KD)=qk:=rfl;rw[c];simp only[yC,d,b7,xc,q6,mS,if_true];rw[EP,q7];have:(hy.map Prod.fst).findIdx? (a==·)=none:=by
  rw[wK];intro f e;rw[beq_eq_false_iff_ne];rintro rfl;simp only[zZ,decide_eq_false_iff_not]at b;exact b e
 grind[pq,sy,hS,Function.comp_def]
theorem agc{id:Nat}(a:k)(b:Nat)(f:N[id]?=T (b7 (hy++[(a,0)]))):yD (.b5 id) (I (Z hy)) (I b) N=T (N.set id (b7 (hy++[(a,b)]))):=by
 have c:(Z hy:Int)=Int.ofNat (Z hy):=rfl;rw[c];simp only[yD,f,b7];rw[if_pos (by simp[pq])];have d:pq (hy++[(a,0)])=pq (hy++[(a,b)]):=by simp[pq]
 have e:(sy (hy++[(a,0)])).set (Z hy) (I b).pl=sy (hy++[(a,b)]):=by
  have:Z (hy.map λg=>I (g.2:Int))=Z hy:=by simp
  rw[sy,sy,ht,ht,<-this,Kd _ _ (di _),Ke]<;>rfl
 rw[d,e]
theorem ES{az:Nat->Nat}(a:k)(W:x.Nodup)(F:Z x<=36)(A:∀b,b<Z x->az b<Z x):
 (∀b f h,∀bb:b<Z x,x[b]=a->Rt az f b h->∀c,w c (g0 U O x az c6 p)->C 279 [.ptr O 0 0 0,.str a] c (I (h:Int)) c)/\
 (a∉x->Z x<36->∀c,w c (g0 U O x az c6 p)->HR C 279 [.ptr O 0 0 0,.str a] c (λB u=>B=I (Z x:Int)/\w u (g0 U O (x++[a]) (bK az (Z x) (Z x)) c6 p))):=by
 have key:∀(y:AV->List Obj->Prop)(x:List k)(az:Nat->Nat)(c:List Obj),w c (g0 U O x az c6 p)->Z x<=36->(∀b,b<Z x->az b<Z x)->∀f b h,b<Z x->Rt az f b h->y (I (h:Int)) c->
  iC (λo e ae=>bd (hP (.ptr O 0 0 0) e) λak=>bd (dw 1 ak e) λaq=>bd (oV 36 1 aq (g o 0) e) λar=>bd (aR 1 aa ar e) λau=>bd (aS .s .neq au (g o 0)) λax=>
   dY ax (bd (hP (.ptr O 0 0 0) e) λaB=>bd (dw 1 aB e) λaQ=>bd (oV 36 1 aQ (g o 0) e) λa0=>bd (aR 1 aa a0 e) λa3=>ae [a3] e) (y (AV.pl (g o 0)) e)) [I (b:Int)] c:=by
  intro y x az c d F A f b h i m be;refine bB (λa=>[I (a.2:Int)]) (λ_=>c) (λa=>a.1) (λa=>a.2<Z x/\Rt az a.1 a.2 h) (f,b) ⟨i,m⟩ ?_;rintro⟨f,b⟩ ⟨i,m⟩ a9 N;simp only at i m N⊢;have L:b<36:=by omega
  simp only[sA d,rC d,Q,aJ,G,u0 d L,cl_1 d L,cd];cases m with
  |stop _ q=>
   simp_all
  |up f _ _ bi ac=>
   have:((az b:Int) !=(b:Int))=true:=by rw[bne_iff_ne];omega
   rw[this];simp only[bZ,if_true];exact N (f,az b) ⟨A b i,ac⟩ (by simp)
 refine⟨λb f h i q m c d=>?_,λY K c d=>?_⟩
 ·refine MZ.hr ?_
  obtain⟨ad,l,E⟩:=BO (Y:=.b5 U) (hy:=vN x) (N:=c) a (by simp[kO,zv d,b7]);have n:((vN x).map Prod.fst).contains a=true:=by rw[IY];simp[<-q]
  rw[E n,<-q,af7 W i]at l;rw[q,n]at l;simp only[sA d,rC d,Q,aJ,cl_0 d,l,ef,cv,dk,bo,bD,kI,bZ,cZ,if_false,G,fo];exact key (λah R=>ah=I (h:Int)/\R=c) x az c d F A f b h i m ⟨rfl,rfl⟩
 ·refine MZ.hq ?_
  obtain⟨ad,l,E⟩:=BO (Y:=.b5 U) (hy:=vN x) (N:=c) a (by simp[kO,zv d,b7]);have n:((vN x).map Prod.fst).contains a=false:=by rw[IY];simpa using Y
  rw[n]at l;have X:fX .map (.b5 U) c=T (I (Z x)):=by simp[fX,zv d,b7,pq,QZ]
  simp only[sA d,rC d,Q,aJ,cl_0 d,l,ef,cv,dk,bo,bD,mR,bZ,if_true,G,fo,X];refine bj (agb a (zv d) n) ?_;have M:∀(t:List Obj)(P r:Obj),w t ((O,.arr 0 73 [iI U az c6])::(U,P)::p)->w (t.set U r) ((O,.arr 0 73 [iI U az c6])::(U,r)::p):=by
   intro t P r V;have:=w.set (V.perm (List.Perm.swap _ _ _)) r;exact this.perm (List.Perm.swap _ _ _)
  have z:=M c _ (b7 (vN x++[(a,0)])) d;generalize c.set U (b7 (vN x++[(a,0)]))=v at*;have J:v[O]?=T (.arr 0 73 [iI U az c6]):=z.get (by simp);simp only[gJ J,eb J,Q,aJ,j3,true_and,dk,cv];refine aD (agc a (Z x) (z.get (by simp))) ?_;have j:=M v _ (b7 (vN x++[(a,Z x)])) z;rw[af6]at j⊢;generalize v.set U (b7 (vN (x++[a])))=a4 at*;have j:=j;simp only[sA j,rC j,Q,j3,true_and,aJ,u0 j K]
  refine Q2 j (Z x) K λS H=>?_;have bf:Z (x++[a])=Z x+1:=by simp
  refine key (λB u=>B=I (Z x:Int)/\w u (g0 U O (x++[a]) (bK az (Z x) (Z x)) c6 p)) (x++[a]) (bK az (Z x) (Z x)) S H (by omega) (λb i=>?_) 0 (Z x) (Z x) (by omega) (.stop _ (by simp[bK])) ⟨rfl,H⟩;grind[bK]
theorem hJ.const{az:Nat->Nat}(a:hJ x ly az c6)(c:∀b,pH.sat b):hJ x (ly++[pH]) az c6:=
 ⟨a.nd,a.nb,a.lt,a.rt,a.wg,λb=>by rw[su,<-a.uW];grind⟩
theorem hJ.Q4{az:Nat->Nat}{c:fZ}(a:hJ x (ly++[pH]) az c6)(d:∀b,pH.sat b<->c.sat b):hJ x (ly++[c]) az c6:=
 ⟨a.nd,a.nb,a.lt,a.rt,a.wg,λb=>by rw[su,<-d,<-su,a.uW]⟩
theorem Q5{c:fZ}(d:∀a,pH.sat a<->c.sat a):kD (ly++[pH])<->kD (ly++[c]):=by
 refine⟨λ⟨a,b⟩=>⟨a,?_⟩,λ⟨a,b⟩=>⟨a,?_⟩⟩
 ·rw[su,d]at b;grind
 ·rw[su]at b;grind
def I0(h g:Nat)(c:List k)(e:aN)(b:List fZ)(i:AV)(f:List Obj):Prop:=∃a az d,i=.bool a/\w f (g0 h g c az d e)/\(a=ab->hJ c b az d)/\(a=aa->¬kD b)
theorem rD(a b:Int):aS .s .eql (I a) (I b)=T (.bool (a==b)):=rfl
theorem I1{az:Nat->Nat}(t:aM)(a:Int)(e:hJ x ly az c6)(u:Z x<=36)(y:0<a)(B:t.aB=[]\/t.aB∈x)
 (d:w N (g0 U O x az c6 p)):HR C 317 [.ptr O 0 0 0,.agg (cT t),I a] N (I0 U O x p (ly++[.ty t a])):=by
 refine aaJ.hq ?_;have v:iD 4 (.agg (cT t))=T (.aK aa (cT t) 0):=rfl;simp only[v,Q,a6,aH,nn,AL,aJ,fo,fF];refine b (λm=>?_) (λm=>?_)
 ·have o:t.aB=[]:=by simpa using m
  have A:∀j,fZ.sat j (.ty t a)<->t.const.ty=a:=by
   intro j;show eZ j t=a<->_;unfold eZ;grind
  rw[rD,Q];refine⟨t.const.ty==a,az,c6,rfl,d,λc=>e.const (by grind),λc g=>?_⟩;obtain⟨j,g⟩:=g;have:=(A j).1 (g _ (by simp));grind
 ·have o:t.aB≠[]:=by simpa using m
  have z:=B.resolve_left o;obtain⟨r,l,q⟩:=Cv z;obtain⟨E,f,n⟩:=e.rt r l;have H:=e.xN n l;have i:f<36:=by omega
  refine oZ _ ((ES (U:=U) (O:=O) (p:=p) t.aB e.nd u e.lt).1 r E f l q n N d) ?_;obtain⟨F,J,K⟩:=e.set (t:=t) y l q.symm n;simp only[bo,sA d,rC d,Q,aJ,u0 d i,cl_2 d i,rD];refine b (λc=>?_) (λc=>?_)
  ·have c:c6 f=0:=by simpa using c
   refine Q3 d a i λG h=>?_;have s:bK c6 f a f=a:=by simp[bK]
   simp only[sA h,rC h,Q,aJ,u0 h i,cl_2 h i,s,rD];refine⟨_,_,_,rfl,h,λ_=>F c,λg=>?_⟩;simp at g
  ·have c:c6 f≠0:=by simpa using c
   refine⟨_,_,_,rfl,d,by grind,by grind⟩
theorem agd(a b:Int):rT [I a,I b]=T (I (max a b)):=by
 have:(if b>a then b else a)=max a b:=by split<;>omega
 show T (AV.int .i64 (if b>a then b else a))=_;rw[this]
theorem age{az:Nat->Nat}(a c:aM)(g:hJ x ly az c6)(o:Z x<=36)
 (v:a.aB∈x\/a.aB=[]/\0<a.const.ty)(y:c.aB∈x\/c.aB=[]/\0<c.const.ty)
 (e:w N (g0 U O x az c6 p)):HR C 281 [.ptr O 0 0 0,.agg (cT a),.agg (cT c)] N (I0 U O x p (ly++[.eq a c])):=by
 refine Zf.hq ?_;have Y:iD 4 (.agg (cT a))=T (.aK aa (cT a) 0):=rfl;have ac:iD 4 (.agg (cT c))=T (.aK aa (cT c) 0):=rfl;simp only[Y,ac,Q,a6,aH,ji,nn,AL,aJ,fo,fF];refine b (λd=>?_) (λd=>?_)
 ·have m:a.aB=[]:=by simpa using d
  have z:¬a.aB∈x:=λd=>g.nb _ d m;have F:∀f,fZ.sat f (.ty c a.const.ty)<->fZ.sat f (.eq a c):=by
   intro f;show eZ f c=_<->eZ f a=eZ f c;have:eZ f a=a.const.ty:=by unfold eZ;rw[if_pos m]
   rw[this];exact eq_comm
  refine cY (I1 (ly:=ly) c a.const.ty g o (v.resolve_left z).2 (y.symm.imp (·.1) id) e) rfl λa0 W A=>?_;obtain⟨t,u,J,rfl,H,I,ax⟩:=A;exact⟨t,u,J,rfl,H,λd=>(I d).Q4 F,by grind[Q5]⟩
 ·have ak:a.aB≠[]:=by simpa using d
  refine b (λd=>?_) (λd=>?_)
  ·have m:c.aB=[]:=by simpa using d
   have z:¬c.aB∈x:=λd=>g.nb _ d m;have F:∀f,fZ.sat f (.ty a c.const.ty)<->fZ.sat f (.eq a c):=by
    intro f;show eZ f a=_<->eZ f a=eZ f c;have:eZ f c=c.const.ty:=by unfold eZ;rw[if_pos m]
    rw[this]
   refine cY (I1 (ly:=ly) a c.const.ty g o (y.resolve_left z).2 (v.symm.imp (·.1) id) e) rfl λa0 W A=>?_;obtain⟨t,u,J,rfl,H,I,ax⟩:=A;exact⟨t,u,J,rfl,H,λd=>(I d).Q4 F,by grind[Q5]⟩
  ·have aq:c.aB≠[]:=by simpa using d
   have af:=v.resolve_right λd=>ak d.1;have ah:=y.resolve_right λd=>aq d.1;obtain⟨M,r,K⟩:=Cv af;obtain⟨P,s,L⟩:=Cv ah;obtain⟨ar,j,B⟩:=g.rt M r;obtain⟨au,h,E⟩:=g.rt P s;have bb:=g.xN B r;have be:=g.xN E s;have i:j<36:=by omega
   have l:h<36:=by omega
   obtain⟨bi,aQ⟩:=g.same (b3:=a) (pJ:=c) r s K.symm L.symm B E;refine oZ _ ((ES (U:=U) (O:=O) (p:=p) a.aB g.nd o g.lt).1 M ar j r K B N e) ?_;simp only[j3,true_and];refine oZ _ ((ES (U:=U) (O:=O) (p:=p) c.aB g.nd o g.lt).1 P au h s L E N e) ?_;refine pg (N:=N) (S (c6 j≠0)&&(S (c6 h≠0)&&S (c6 j≠c6 h))) [] (λbf a9=>?_) ?_
   ·have X:∀R V:Int,(R !=V)=S (R≠V):=by grind
    simp only[sA e,rC e,Q,aJ,u0 e i,cl_2 e i,u0 e l,cl_2 e l,cd,X];grind[aZ]
   ·simp only[G]
    refine b (λn=>?_) (λn=>?_)
    ·simp only[bG,decide_eq_true_eq]at n
     exact⟨aa,az,c6,rfl,e,λd=>(by cases d),by grind⟩
    ·have ae:c6 j=0\/c6 h=0\/c6 j=c6 h:=by
      simp only[KA,decide_eq_false_iff_not,anw]at n;exact n
     simp only[sA e,rC e,Q,aJ,u0 e i,cl_2 e i,u0 e l,cl_2 e l,agd];refine Q3 e _ l λa3 q=>?_;simp only[sA q,rC q,Q,aJ,u0 q i];refine Q2 q h i λa4 ad=>?_;exact⟨ab,_,_,rfl,ad,λ_=>aQ ae,λd=>by cases d⟩
def sB(b:List aM)(d:List Int)(c:Nat):List fZ:=((b.zip d).take c).map λa=>.ty a.1 a.2
theorem Q6{az:Nat->Nat}(f:aj)(c:List aM)(h:Nat)(S:h<Z f.d)(n:hJ x ly az c6)(M:Z x<=36)(a0:Sm c)
 (aQ:Z c<=Z f.d[h].bb)(a4:∀ah∈f.d[h].bb,0<ah)(a3:∀E∈c,E.aB=[]\/E.aB∈x)(P:∀N,w N p->SC f y N)
 (R:w N (g0 U O x az c6 p)):HR C 280 [.ptr y 0 0 0,.ptr O 0 0 0,I (h:Int),eS aa cT c] N (I0 U O x p (ly++sB c f.d[h].bb (Z c))):=by
 refine aaD.hq ?_;simp only[a8,Q];refine bB (z:=Nat×List Obj×(Nat->Nat)×(Nat->Int)) (λj=>[ff,I j.1]) (λj=>j.2.1) (λj=>Z c -j.1) (λj=>j.1<=Z c/\w j.2.1 (g0 U O x j.2.2.1 j.2.2.2 p)/\hJ x (ly++sB c f.d[h].bb j.1) j.2.2.1 j.2.2.2) (0,N,az,c6) ⟨by simp,R,by simpa[sB]using n⟩ ?_;rintro⟨e,ar,az,c6⟩ ⟨X,o,n⟩ au u;simp only at X o n u⊢;simp only[G,i,A,Q,a];refine b (λl=>?_) (λl=>?_)
 ·have l:e<Z c:=by simpa using l
  have L:e<Z f.d[h].bb:=by omega
  have ad:e<Z (c.zip f.d[h].bb):=by simp;omega
  have V:sB c f.d[h].bb (e+1)=sB c f.d[h].bb e++[.ty c[e] f.d[h].bb[e]]:=by
   rw[sB,hX ad,ht];simp[sB]
  have m:=P _ (oD o);obtain⟨be,ak,K⟩:=m.q0;obtain⟨id,ax,ae,t,af⟩:=K.at S;have W:(AV.agg [g (cT c[e]) 0,g (cT c[e]) 1,g (cT c[e]) 2,g (cT c[e]) 3])=.agg (cT c[e]):=rfl;have Y:(bF aa f.d[h])[1]?=T (eS aa cI f.d[h].bb):=rfl;simp only[aC l (h8 _),ji,vC,W,m.nc,m.ao,Q,aJ,fo,ak,ae,oq t,cr t af,Y,aC L (g4 _),aH,j4];refine cY (I1 c[e] _ n M (by simp_all) (by grind) o) rfl λbf H ac=>?_
  obtain⟨J,s,F,rfl,v,z,B⟩:=ac;rw[fH,<-V]at z B;simp only[bD,Q];refine c8 (λr=>?_) (λr=>?_)
  ·refine⟨aa,s,F,rfl,v,λl=>(by cases l),λ_ m=>B r ?_⟩
   refine kD.mono (λJ q=>?_) m;rcases c5.1 q with q|q
   ·grind
   ·refine c5.2 (.inr ?_)
    obtain⟨aq,a9,rfl⟩:=du.1 q;refine du.2 ⟨aq,?_,rfl⟩;grind
  ·rw[ba (by grind[Sm]),Q]
   exact u (e+1,H,s,F) ⟨l,v,z r⟩ (by simp;omega)
 ·have:e=Z c:=by simp at l;omega
  subst this;exact⟨ab,az,c6,rfl,o,λ_=>n,λl=>by cases l⟩
theorem agf(a:x.Nodup):(dR x bH).Nodup:=by
 grind[dR]
theorem ET:∀(c:List aM){a:List k},a.Nodup->(cH a c).Nodup
 |[],_,b=>b
 |t::c,a,b=>ET c (a:=dR a t.aB) (agf b)
theorem I2:∀(c:List aM){b:List k}{a:k},a∈cH b c<->a∈b\/(a≠[]/\∃t∈c,t.aB=a)
 |[],b,a=>by simp[cH]
 |t::c,b,a=>by
  have:=I2 c (b:=dR b t.aB) (a:=a);grind[cH,dR]
theorem I3:∀(b:List (List aM)){c:List k},c.Nodup->(b.foldl cH c).Nodup
 |[],_,a=>a
 |x::b,_,a=>I3 b (ET x a)
theorem I4:∀(c:List (List aM)){b:List k}{a:k},a∈c.foldl cH b<->a∈b\/(a≠[]/\∃d∈c,∃e∈d,e.aB=a)
 |[],b,a=>by simp
 |y::c,b,a=>by
  rw[oJ,I4 c,I2];grind
def lR(a:aG)(b:Nat):List k:=((a.ae.take b).map Lit.ad).foldl cH (cH [] a.ad)
theorem I5(b:aG)(a:Nat):(lR b a).Nodup:=I3 _ (by grind[ET])
theorem BU:bH∈lR u U<->bH≠[]/\((∃a∈u.ad,a.aB=bH)\/∃b∈u.ae.take U,∃a∈b.ad,a.aB=bH):=by
 rw[lR,I4,I2];grind
theorem Q7:bH∈e7 u<->bH≠[]/\((∃a∈u.ad,a.aB=bH)\/∃b∈u.ae,∃a∈b.ad,a.aB=bH):=by
 rw[e7,I4];grind
theorem agh(a:aG):Z (lR a (Z a.ae))=Z (e7 a):=by
 refine((TP (I5 a _) (I3 _ vi)).2 λb=>?_).length_eq;show b∈lR a (Z a.ae)<->b∈e7 a;rw[BU,Q7,dB]
theorem agi:bH∈lR u (Z u.ae)<->bH∈e7 u:=by rw[BU,Q7,dB]
theorem Q8(a:U<Z u.ae):lR u (U+1)=cH (lR u U) u.ae[U].ad:=by
 rw[lR,hX a,ht,vj]<;>rfl
theorem I6(b:List aM)(a:List k):Z (cH a b)<=Z a+Z b:=xr b a
theorem Q9{az:Nat->Nat}(d:List aM)(K:x.Nodup)(ad:Z x+Z d<=36)(j:∀c,c<Z x->az c=c)(J:∀N,w N p->N[y]?=T (.arr 0 1 [[.ptr O 0 0 0]]))
 (H:w N (g0 U O x az c6 p)):HR C 278 [eS aa cT d,.ptr y 0 0 0] N (λz s=>z=.aE []/\∃m,w s (g0 U O (cH x d) m c6 p)/\∀c,c<Z (cH x d)->m c=c):=by
 refine XG.hq ?_;simp only[a8,Q];refine bB (z:=Nat×List Obj×(Nat->Nat)) (λe=>[I e.1]) (λe=>e.2.1) (λe=>Z d -e.1) (λe=>e.1<=Z d/\w e.2.1 (g0 U O (cH x (d.take e.1)) e.2.2 c6 p)/\∀c,c<Z (cH x (d.take e.1))->e.2.2 c=c) (0,N,az) ⟨by simp,by simpa[cH]using H,by simpa[cH]using j⟩ ?_;rintro⟨c,l,az⟩ ⟨n,i,j⟩ ac u;simp only at n i j u⊢;simp only[G,A,Q,a];refine b (λh=>?_) (λh=>?_)
 ·have h:c<Z d:=by simpa using h
  have S:cH x (d.take (c+1))=dR (cH x (d.take c)) d[c].aB:=by
   rw[cH,hX h,vj]<;>rfl
  have L:=ET (d.take c) K;have P:=I6 (d.take c) x;rw[gb]at P;have r:=λB m f F=>u (c+1,B,m) ⟨h,f,F⟩ (by simp;omega);simp only[S]at r;generalize cH x (d.take c)=W at*;have E:∀v:aM,g (cT v) 0=.str v.aB:=λ_=>rfl;have M:aR 1 aa (.ptr y 0 0 0) l=T (.ptr O 0 0 0):=gm (J _ (oD i)) rfl;simp only[bo,aC h (h8 _),ji,vC,E,Q,ib,M,ba (show c<4611686018427387904 by omega)];refine c8 (λf=>?_) (λf=>?_)
  ·have f:d[c].aB≠[]:=by simpa using f
   obtain⟨X,Y⟩:=ES (U:=U) (O:=O) (az:=az) (c6:=c6) (p:=p) d[c].aB L (by omega) (λc n=>by rw[j c n];exact n);by_cases o:d[c].aB∈W
   ·obtain⟨q,t,V⟩:=Cv o
    refine oZ _ (X q 0 q t V (.stop q (j q t)) l i) (r l az ?_ ?_)
    ·rw[dR,if_pos (.inr o)];exact i
    grind[dR]
   ·refine cY (Y o (by omega) l i) rfl λz s R=>r s (bK az (Z W) (Z W)) ?_ ?_
    ·rw[dR,if_neg (λh=>h.elim f o)];exact R.2
    grind[dR,bK]
  ·have f:d[c].aB=[]:=by simpa using f
   refine r l az ?_ ?_
   ·rw[dR,if_pos (.inl f)];exact i
   ·rw[dR,if_pos (.inl f)];exact j
 grind
theorem I7(a:Lit):dh 9 (.agg (dL a))=T (dL a):=gS rfl rfl
@[simp] theorem agj(a:Lit):Z (dL a)=9:=rfl
theorem agk(a:Nat)(az:Nat->Nat)(b:Nat->Int):dh 73 (.agg (iI a az b))=T (iI a az b):=by
 grind[gS,IZ,iI,nE,AV.bP]
theorem agl(a:Nat)(c:AV)(b:List AV):ko (c::b) [(0,1,.b5 a)]=T (.b5 a::b):=by
 have d:(AV.b5 a).pl.cells=[.b5 a]:=rfl;simp[ko,AV.bP,eV]
theorem fill_73(a:Nat):ko [.oN,(I 0),(I 0),(I 0),(I 0),(I 0),(I 0),(I 0),(I 0),(I 0),(I 0),(I 0),(I 0),(I 0),(I 0),(I 0),(I 0),(I 0),(I 0),(I 0),(I 0),(I 0),(I 0),(I 0),(I 0),(I 0),(I 0),(I 0),(I 0),(I 0),(I 0),(I 0),(I 0),(I 0),(I 0),(I 0),(I 0),(I 0),(I 0),(I 0),(I 0),(I 0),(I 0),(I 0),(I 0),(I 0),(I 0),(I 0),(I 0),(I 0),(I 0),(I 0),(I 0),(I 0),(I 0),(I 0),(I 0),(I 0),(I 0),(I 0),(I 0),(I 0),(I 0),(I 0),(I 0),(I 0),(I 0),(I 0),(I 0),(I 0),(I 0),(I 0),(I 0)] [(0,1,.b5 a)]=T (iI a (λ_=>0) (λ_=>0)):=by
 rw[agl]<;>rfl
def xZ(c:aj)(b:Lit):List fZ:=((iS c b).map λa=>.ty a.1 a.2)++(rj b).map λa=>.eq a.1 a.2
def nP(a:aj)(b:aG)(d:Nat):List fZ:=((BE a b).map λc=>.ty c.1 c.2)++((b.ae.take d).map (xZ a)).flatten
theorem agm(a:U<Z u.ae):nP M u (U+1)=nP M u U++xZ M u.ae[U]:=by
 rw[nP,hX a,ht,zQ,<-fH];simp[nP]
theorem agn:pH∈nP M u U<->pH∈we (wi M u U) (wj u U):=by
 simp only[nP,we,xZ,wi,wj,c5,zR,du];grind
theorem Ra:kD (nP M u U)<->kD (we (wi M u U) (wj u U)):=
 by grind[kD.mono,agn]
theorem Rb(c:U<Z M.d)(a:List aM):sB a M.d[U].bb (Z a)=(mL M (U:Int) a).map λb=>fZ.ty b.1 b.2:=by
 grind[sB,mL,Int.toNat_natCast,List.getElem?_eq_getElem,List.take_of_length_le,List.length_zip]
structure I8(P:aj)(r:aG):Prop extends BG P r where
 EU:Z r.ad<=4
 Rc:Z r.ae<=8
 s5:∀x∈r.ae,Z x.ad<=4
 bf:∀q∈P.d,∀k∈q.bb,0<k
 Re:∀x∈r.ae,∀t∈x.ad,t.aB=[]->0<t.const.ty
 k5:∀x∈r.ae,x.ak=5->x.aq<0
 kn:∀x∈r.ae,x.ak≠5->0<=x.aq
theorem pVars_36(a:I8 M u):∀n,n<=Z u.ae->Z (lR u n)<=4+4*n
 |0,_=>by
  have b:=I6 u.ad [];have c:=a.EU;grind[lR]
 |n+1,d=>by
  have e:=pVars_36 a n (by omega);have b:=I6 u.ae[n].ad (lR u n);have c:=a.s5 u.ae[n] (bs _);grind[Q8]
def EW(c:aj)(f:aG)(d:aN)(g:AV)(b:List Obj):Prop:=∃a e,g=.aE [I a,I e]/\(a=0<->tv c f)/\w b d
theorem EW.bad(a:w N p)(b:aU≠0)(c:¬tv M u):EW M u p (.aE [I aU,I c1]) N:=⟨aU,c1,rfl,by grind,a⟩
variable{pB:List AV -> List Obj -> Prop}
theorem nQ{c:(List AV->List Obj->Prop)->Prop}(mu:List AV->List Obj->Prop)(e:∀d:List AV->List Obj->Prop,(∀b a,mu b a->d b a)->c d)(f:∀b a,mu b a->pB b a):jn c pB:=e pB f
theorem litCn_5(a:P.ak=5)(c:P.aq<0)(b:P.ad=[b3,pJ]):xZ M P=[.eq b3 pJ]:=by
 grind[xZ,iS,rj]
theorem ago(a:P.ak≠5)(b:U<Z M.d)(c:P.aq=U):xZ M P=sB P.ad M.d[U].bb (Z P.ad):=by
 simp_all[xZ,iS,rj,Rb]
theorem agp{H:List Obj}(f:aj)(c:aG)(k:I8 f c)(hn:∀H,w H p->SC f y H)(hh:∀H,w H p->H[U]?=T (.arr O 9 (c.ae.map dL)))(ds:w H p):
 HR C 226 [.ptr y 0 0 0,.agg (eI c (.q U O 0 (Z c.ae)))] H (EW f c p):=by
 have ms:=k.Rc;refine aaw.hq ?_;have a3:iD 9 (.agg (eI c (.q U O 0 (Z c.ae))))=T (.aK aa (eI c (.q U O 0 (Z c.ae))) 0):=rfl;refine aD a3 (bj rfl (aD (fill_73 _) ?_));have bv:mw 73 (.agg (iI (Z H) (λ_=>0) (λ_=>0))) (H++[.mp ab [] []])=T (.ptr (Z H+1) 0 0 0,H++[b7 (vN [])]++[.arr 0 73 [iI (Z H) (λ_=>0) (λ_=>0)]]):=by
  simp only[mw,agk,iA,fb,gz]<;>rfl
 refine bj bv (bj (dD:=.ptr (Z H+1+1) 0 0 0) (b:=H++[b7 (vN [])]++[.arr 0 73 [iI (Z H) (λ_=>0) (λ_=>0)]]++[.arr 0 1 [[.hL]]]) (by simp[km]) ?_);have ar:=((ds.alloc (b7 (vN []))).alloc (.arr 0 73 [iI (Z H) (λ_=>0) (λ_=>0)])).alloc (.arr 0 1 [[.hL]]);simp only[fb,gz]at ar;generalize H++[b7 (vN [])]++[.arr 0 73 [iI (Z H) (λ_=>0) (λ_=>0)]]++[.arr 0 1 [[.hL]]]=d4 at*;generalize ii:Z H=aQ at*
 generalize hl:aQ+1=o at*;generalize ho:o+1=t at*;refine aD (k1 (bg:=[.hL]) (ar.get (U:=t) (iX:=.arr 0 1 [[.hL]]) (by simp)) rfl (by omega) rfl rfl) ?_;have ar:=ar.set (.arr 0 1 [[AV.ptr o 0 0 0]]);have ar:w (d4.set t (.arr 0 1 [[AV.ptr o 0 0 0]])) (g0 aQ o [] (λ_=>0) (λ_=>0) ((t,.arr 0 1 [[AV.ptr o 0 0 0]])::p)):=by
  refine ar.perm ?_;exact(List.Perm.swap _ _ _).trans (List.Perm.cons _ (List.Perm.swap _ _ _))
 change w (d4.set t (.arr 0 1 [[AV.hL].set 0 (.ptr o 0 0 0)])) _ at ar;generalize d4.set t (.arr 0 1 [[AV.hL].set 0 (.ptr o 0 0 0)])=lm at*;clear bv ii hl ho ds;have f4:∀H,w H ((t,.arr 0 1 [[AV.ptr o 0 0 0]])::p)->H[t]?=T (.arr 0 1 [[AV.ptr o 0 0 0]]):=λH k=>k.get (by simp);have a4:∀{H},w H ((t,.arr 0 1 [[AV.ptr o 0 0 0]])::p)->w H p:=λk=>k.tail
 have d8:∀H,w H ((t,.arr 0 1 [[AV.ptr o 0 0 0]])::p)->SC f y H:=λH k=>hn H k.tail;generalize hj:(t,Obj.arr 0 1 [[AV.ptr o 0 0 0]])::p=br at*;clear hj;have kl:∀W,(eI c W)[1]?=T (I c.aq):=λ_=>rfl;have kw:∀W,(eI c W)[2]?=T (eS aa cT c.ad):=λ_=>rfl;have kx:∀W,(eI c W)[3+2]?=T (.str c.af.aB):=λ_=>rfl;have lc:∀W,(eI c W)[7]?=T W:=λ_=>rfl;have le:∀W,(eI c W)[8]?=T (I c.bf):=λ_=>rfl
 have go:∀e:Lit,g (dL e) 0=I e.ak:=λ_=>rfl;have gt:∀e:Lit,g (dL e) 2=I e.aq:=λ_=>rfl;have fI:∀e:Lit,g (dL e) 3=eS aa cT e.ad:=λ_=>rfl;have d5:∀e:Lit,g (dL e) 4=.str e.bind:=λ_=>rfl;have d6:∀e:Lit,g (dL e) 8=I e.bf:=λ_=>rfl;simp only[a6,Q,aH,aJ,kl,kw,kx,lc,le,nj];refine bj (dD:=278) (b:=[eS aa cT c.ad,.ptr t 0 0 0]) rfl ?_
 refine cY (Q9 c.ad vi (by have:=k.EU;simp;omega) (by grind) f4 ar) rfl λJ gi ax=>?_;obtain⟨rfl,az,f2,N⟩:=ax;have es:∀{H h},w H br->∀R:h<Z c.ae,bY 9 (.q U O 0 (Z c.ae)) (I (h:Int)) H=T (.ptr U O h 0)/\aR 9 ab (.ptr U O h 0) H=T (.agg (dL c.ae[h])):=by
  intro H h ds R;have z:=hh H (a4 ds);exact⟨e3 z R,kV z (by simp[R]) (agj _)⟩
 refine bB (z:=Nat×List Obj×(Nat->Nat)) (λj=>[I j.1]) (λj=>j.2.1) (λj=>Z c.ae -j.1) (λj=>j.1<=Z c.ae/\w j.2.1 (g0 aQ o (lR c j.1) j.2.2 (λ_=>0) br)/\∀h,h<Z (lR c j.1)->j.2.2 h=h) (0,gi,az) ⟨by simp,f2,N⟩ ?_;clear f2 N ar;rintro⟨h,ac,az⟩ ⟨R,l,N⟩ ls Y;simp only at R l N Y⊢;simp only[G,A,Q,a];refine b (λz=>?_) (λz=>?_)
 ·have z:h<Z c.ae:=by simpa using z
  obtain⟨b4,ce⟩:=es (oD l) z;have io:=pVars_36 k h R;have h4:=k.s5 c.ae[h] (bs z);have d0:=Q8 (u:=c) z;simp only[b4,ce,Q,I7,fI,ba (show h<4611686018427387904 by omega)];refine bj (dD:=278) (b:=[eS aa cT c.ae[h].ad,.ptr t 0 0 0]) rfl ?_;refine cY (Q9 c.ae[h].ad (I5 c h) (by omega) N f4 l) rfl λJ gj ax=>?_;obtain⟨rfl,L,B,r⟩:=ax;rw[<-d0]at B r;exact Y (h+1,gj,L) ⟨z,B,r⟩ (by simp;omega)
 ·have:h=Z c.ae:=by simp at z;omega
  subst this;clear Y;have io:=pVars_36 k _ R;have mt:=agh c;have hm:∀K,K∈lR c (Z c.ae)<->K∈e7 c:=λK=>agi;have i2:∀F∈c.ad,F.aB=[]\/F.aB∈lR c (Z c.ae):=by grind[BU]
  have i1:∀e∈c.ae,∀F∈e.ad,F.aB=[]\/F.aB∈lR c (Z c.ae):=by grind[BU]
  have a9:hJ (lR c (Z c.ae)) [] az (λ_=>0):=hJ.start (I5 c _) (by grind[BU]) N (λ_ _=>rfl);generalize lR c (Z c.ae)=V at*;have eq:∀{H},w H br->aR 1 aa (.ptr t 0 0 0) H=T (.ptr o 0 0 0):=by grind[gm]
  have f7:fX .map (.b5 aQ) ac=T (I (Z V)):=by simp[fX,zv l,b7,pq,QZ]
  simp only[eq (oD l),sA l,rC l,Q,fo,cl_0 l,f7,er];refine b (λcs=>?_) (λcs=>?_)
  ·refine .bad (a4 (oD l)) (by omega) ?_
   rintro⟨u,-⟩;grind
  ·have he:Z (e7 c)<=12:=by simp only[decide_eq_false_iff_not]at cs;omega
   have f8:∀d2,d2<=Z c.ae->wk f c->kD (nP f c d2):=by grind[Ra,Qt]
   refine nQ (λJ v=>∃ah az bw,J=[.bool (!ah)]/\w v (g0 aQ o V az bw br)/\(ah=ab->hJ V (nP f c 0) az bw)/\(ah=aa->¬kD (nP f c 0))) (λfs be=>?_) ?_
   ·simp only[gF,Q]
    have ip:nP f c 0=(BE f c).map λK=>fZ.ty K.1 K.2:=by simp[nP]
    refine aZ (λu=>?_) (λu=>?_)
    ·have u:0<=c.aq:=by simpa using u
     obtain⟨s,X,a3,bv⟩:=k.fit u;rw[a3];have it:nP f c 0=[]++sB c.ad f.d[s].bb (Z c.ad):=by
      rw[ip,BE,if_pos u,a3,Rb X]<;>rfl
     refine cY (Q6 f c.ad s X a9 (by omega) (by have:=k.EU;grind[Sm]) bv (k.bf _ (bs X)) i2 d8 l) rfl λJ v ax=>?_;obtain⟨x,L,a0,rfl,B,r,E⟩:=ax;rw[<-it]at r E;simp only[bD,Q];grind
    ·have u:¬0<=c.aq:=by simpa using u
     refine be _ _ ⟨ab,az,_,rfl,l,λ_=>?_,λk=>(by cases k)⟩;grind[BE]
   ·rintro J G0 ⟨ah,gN,li,rfl,f1,r,E⟩
    clear a9 N f7 l;simp only[G];refine c8 (λu=>?_) (λu=>?_)
    ·exact .bad (a4 (oD f1)) (by omega) λe2=>E u (f8 0 (by omega) e2.2.1)
    ·
     refine bB (z:=Nat×List Obj×(Nat->Nat)×(Nat->Int)) (λj=>[I 0,I 0,I j.1]) (λj=>j.2.1) (λj=>Z c.ae -j.1) (λj=>j.1<=Z c.ae/\w j.2.1 (g0 aQ o V j.2.2.1 j.2.2.2 br)/\hJ V (nP f c j.1) j.2.2.1 j.2.2.2) (0,G0,gN,li) (by grind) ?_;clear r E f1;rintro⟨h,ac,az,bw⟩ ⟨R,l,a9⟩ lt Y;simp only at R l a9 Y⊢;simp only[G,i,A,Q,a];refine b (λm=>?_) (λm=>?_)
     ·have m:h<Z c.ae:=by simpa using m
      obtain⟨b4,ce⟩:=es (oD l) m;have au:c.ae[h]∈c.ae:=bs m;have d0:=agm (M:=f) m;have d3:=λv L a0 z cs=>Y (h+1,v,L,a0) ⟨m,z,cs⟩ (by simp;omega);simp only[b4,ce,Q,I7];generalize c.ae[h]=e at*;refine nQ (λJ v=>∃ah az bw,J=.bool (!ah)::dL e/\w v (g0 aQ o V az bw br)/\(ah=ab->hJ V (nP f c (h+1)) az bw)/\(ah=aa->¬kD (nP f c (h+1)))) (λfs be=>?_) ?_
      ·simp only[go,gt,fI,d5,d6,rD,cd,Q,eq (oD l)]
       refine aZ (λn=>?_) (λn=>?_)
       ·have n:e.ak=5:=by simpa using n
        obtain⟨F,bi,ex⟩:∃F bi,e.ad=[F,bi]:=by
         have:=k.cmp e au n
         match h4:e.ad,this with
         |[F,bi],_=>grind
        have i4:bY 4 (eS aa cT e.ad) (I 0) ac=T (.aK aa (cT F) 0):=by rw[ex];exact aC (o:=[F,bi]) (U:=0) (by simp) rfl
        have fn:bY 4 (eS aa cT e.ad) (I 1) ac=T (.aK aa (cT bi) 0):=by rw[ex];exact aC (o:=[F,bi]) (U:=1) (by simp) rfl
        have ne:∀K∈e.ad,K.aB∈V\/K.aB=[]/\0<K.const.ty:=λK i3=>by
         by_cases ci:K.aB=[]
         ·exact .inr ⟨ci,k.Re e au K i3 ci⟩
         grind
        simp only[i4,fn,ji,Q];refine cY (age F bi a9 (by omega) (by grind) (by grind) l) rfl λJ v ax=>?_;obtain⟨x,L,a0,rfl,B,r,E⟩:=ax;rw[<-litCn_5 n (k.k5 e au n) ex,<-d0]at r E;simp only[bD,Q];refine gV (λM=>?_) (λM=>?_)
        ·have:(e.ak !=5)=false:=by simp[n]
         rw[this];simp only[fE,cZ,if_false];subst M;exact be _ _ ⟨ab,L,a0,rfl,B,r,E⟩
        ·subst M
         exact be _ _ ⟨aa,L,a0,rfl,B,r,E⟩
       ·have n:e.ak≠5:=by simpa using n
        obtain⟨s,X,a3,bv⟩:=k.fits e au (k.kn e au n);have:(e.ak !=5)=true:=by simpa using n
        rw[this];simp only[fE,if_true];rw[a3];refine cY (Q6 f e.ad s X a9 (by omega) (by have:=k.s5 e au;unfold Sm;omega) bv (k.bf _ (bs X)) (i1 e au) d8 l) rfl λJ v ax=>?_;obtain⟨x,L,a0,rfl,B,r,E⟩:=ax;rw[<-ago n X a3,<-d0]at r E;simp only[bD,Q];rw[<-a3];exact be _ _ ⟨x,L,a0,rfl,B,r,E⟩
      ·rintro J v ⟨ah,L,a0,rfl,B,r,E⟩
       simp only[G,i,d6,ba (show h<4611686018427387904 by omega),Q];refine c8 (λn=>?_) (λn=>?_)
       ·exact .bad (a4 (oD B)) (by omega) λe2=>E n (f8 (h+1) m e2.2.1)
       ·exact d3 v L a0 B (r n)
     ·have:h=Z c.ae:=by simp at m;omega
      subst this;clear Y;have i0:wk f c:=Ra.1 a9.sat;have fd:tv f c<->rk f c=true:=⟨λk=>k.2.2,λk=>⟨he,i0,k⟩⟩;have f5:∀s:Int,rk f c=aa->EW f c p (.aE [I 72,I s]) ac:=λs hw=>.bad (a4 (oD l)) (by omega) (by rw[fd,hw];decide);refine bB (z:=Nat×Bool) (λj=>[I 0,I 0,.bool j.2,I j.1]) (λ_=>ac) (λj=>Z c.ae -j.1) (λj=>j.1<=Z c.ae/\lO f c c.ae aa=lO f c (c.ae.drop j.1) j.2) (0,aa) ⟨by simp,by simp⟩ ?_
      rintro⟨h,co⟩ ⟨R,P⟩ lw Y;simp only at R P Y⊢;simp only[G,i,A,Q,a];refine b (λm=>?_) (λm=>?_)
      ·have m:h<Z c.ae:=by simpa using m
       obtain⟨b4,ce⟩:=es (oD l) m;have au:c.ae[h]∈c.ae:=bs m;rw[Qu m]at P;have d3:=λha h3=>Y (h+1,ha) ⟨m,h3⟩ (by simp;omega);rw[bo];simp only[b4,ce,Q,I7,d5,fF];generalize c.ae[h]=e at*;refine b (λn=>?_) (λn=>?_)
       ·rw[if_pos (by simpa using n)]at P
        simp only[G,i,ba (show h<4611686018427387904 by omega),Q];exact d3 co P
       ·have el:e.bind≠[]:=by simpa using n
        rw[if_neg el]at P;obtain⟨i8,ge,pi⟩:=BO (Y:=.b5 aQ) (hy:=vN V) (N:=ac) e.bind (by simp[kO,zv l,b7]);have hu:((vN V).map Prod.fst).contains e.bind=S (e.bind∈e7 c):=by
         rw[IY,hY];simp only[zZ,decide_eq_true_eq];exact hm _
        rw[hu]at ge;simp only[eq (oD l),sA l,rC l,Q,fo,cl_0 l,ge,ef,cv,dk];refine nQ (λJ v=>J=.bool (co|| !S (e.bind=c.af.aB)||S (e.bind∈e7 c)||hK f e.aq !=hK f c.aq)::dL e/\v=ac) (λfs be=>?_) ?_
        ·have d1:∀x:Bool,(co|| !S (e.bind=c.af.aB)||S (e.bind∈e7 c)||hK f e.aq !=hK f c.aq)=x->fs (.bool x::dL e) ac:=λx ci=>be _ _ ⟨by rw[ci],rfl⟩
         refine dx (λM=>dx (λd7=>?_) (λd7=>d1 ab (by rw[d7];simp))) (λM=>d1 ab (by rw[M];simp));simp only[Q,ib];have hs:(!(e.bind==c.af.aB))= !S (e.bind=c.af.aB):=by rw[hY];simp
         rw[hs];refine gV (λdl=>?_) (λdl=>d1 ab (by rw[dl];simp));have hg:e.bind=c.af.aB:=by simpa using dl
         obtain⟨s,X,f3⟩:=k.bind _ au el;obtain⟨x,N,f6⟩:=k.aB (by rw[<-hg];exact el);have i9:hK f e.aq=f.d[s].of:=by rw[hK,X,ej,bC f3]
         have jp:hK f c.aq=f.d[x].of:=by rw[hK,N,ej,bC f6]
         have d9:=d8 _ (oD l);obtain⟨op,ke,f0⟩:=d9.q0;obtain⟨nl,md,fn,f9,i5⟩:=f0.at f3;obtain⟨ok,mk,i6,gc,i7⟩:=f0.at f6;have B:(bF aa f.d[s])[3]?=T (I f.d[s].of):=rfl;have r:(bF aa f.d[x])[3]?=T (I f.d[x].of):=rfl;have os:(eI c (.q U O 0 (Z c.ae)))[1]?=T (I (x:Int)):=by rw[<-N]<;>rfl
         have gM:g (dL e) 2=I (s:Int):=by rw[<-X]<;>rfl
         have key:=d1 (f.d[s].of !=f.d[x].of) (by rw[M,d7,dl,i9,jp]<;>rfl);have id:dL e=[g (dL e) 0,g (dL e) 1,g (dL e) 2,g (dL e) 3,g (dL e) 4,g (dL e) 5,g (dL e) 6,g (dL e) 7,g (dL e) 8]:=rfl;rw[id]at key;simp only[d5]at key;simp only[d9.nc,d9.ao,Q,aJ,fo,ke,N,gM,fn,i6,oq f9,oq gc,cr f9 i5,cr gc i7,B,r,cd]at key⊢;exact key
        ·rintro J v ⟨rfl,rfl⟩
         simp only[G,i,d6];refine b (λM=>?_) (λM=>?_)
         ·rw[if_pos M]at P
          exact f5 _ (by rw[rk,P])
         ·rw[if_neg (by rw[M];decide)]at P
          simp only[ba (show h<4611686018427387904 by omega),Q];exact d3 ab P
      ·have:h=Z c.ae:=by simp at m;omega
       subst this;rw[nU,lO]at P;have em:rk f c=(c.af.aB==[]||co):=by rw[rk,P]
       simp only[Q,ib,bD,bo,G];refine y4 (λu=>?_) (λu=>?_)
       ·refine c8 (λm=>?_) (λm=>?_)
        ·exact f5 _ (by rw[em,u,m]<;>rfl)
        ·exact⟨0,0,rfl,by rw[fd,em,m];simp,a4 (oD l)⟩
       ·simp only[bZ,cZ,if_false]
        exact⟨0,0,rfl,by rw[fd,em,u];simp,a4 (oD l)⟩
section
variable{H:List Obj}{S m1 m2 m3:Nat}{lv fv pv rv dv:AV}{n1 n2 n3:gn}{PD PL PF PP F:aN}
theorem EX(a:aN):bh S m1 m2 m3 lv fv pv rv dv n1 n2 n3 PD PL PF PP (a++F)=bh S m1 m2 m3 lv fv pv rv dv n1 n2 n3 PD PL PF PP []++(a++F):=by simp[bh]
theorem bh.out{a:aN}(b:w H (bh S m1 m2 m3 lv fv pv rv dv n1 n2 n3 PD PL PF PP (a++F))):w H (a++bh S m1 m2 m3 lv fv pv rv dv n1 n2 n3 PD PL PF PP F):=by
 rw[EX]at b;have c:=b.swap;grind[bh]
theorem bh.EY{a:aN}(b:w H (a++bh S m1 m2 m3 lv fv pv rv dv n1 n2 n3 PD PL PF PP F)):w H (bh S m1 m2 m3 lv fv pv rv dv n1 n2 n3 PD PL PF PP (a++F)):=by
 have c:bh S m1 m2 m3 lv fv pv rv dv n1 n2 n3 PD PL PF PP F=bh S m1 m2 m3 lv fv pv rv dv n1 n2 n3 PD PL PF PP []++F:=EX [];rw[c]at b;rw[EX];exact b.swap
theorem bh.Rf(a:w H (bh S m1 m2 m3 lv fv pv rv dv n1 n2 n3 PD PL PF PP (hz::F))):w H (hz::bh S m1 m2 m3 lv fv pv rv dv n1 n2 n3 PD PL PF PP F):=bh.out (a:=[hz]) a
theorem bh.agq(a:w H (hz::bh S m1 m2 m3 lv fv pv rv dv n1 n2 n3 PD PL PF PP F)):w H (bh S m1 m2 m3 lv fv pv rv dv n1 n2 n3 PD PL PF PP (hz::F)):=bh.EY (a:=[hz]) a
end
structure EZ(p:aj)(lv fv pv:AV)(n1 n2 n3:gn)(PL PF PP:aN):Prop where
 gl:bA lv (bn aa) 4 p.m PL
 gf:bA fv (b8 aa) 7 (p.aW.map (eQ p)) PF
 gp:bA pv (bF aa) 7 (p.d.map (en p)) PP
 k2:mO Fn.ar p.aW n2
 k3:mO cD.ar p.d n3
theorem Rg(a:z->cn)(c:cn->Bool)(b:List z):bN c (b.map a)=bN (λd=>c (a d)) b:=by
 unfold bN;rw[ald]<;>rfl
variable{ir lr:aN}
theorem EZ.SC{e f:gn}(b:EZ M Y E aL hy e f p bm gA)
 (a:w N (bh U O y c2 Y E aL cJ jd hy e f ir p bm gA lr)):SC (dT M []) U N:=
 ⟨Y,E,aL,cJ,O,y,c2,jd,e,f,bh.sc a,b.gl.gr (bh.pl a),b.gf.gr (bh.pf a),b.gp.gr (bh.pp a),bh.afU a,bh.afV a,
  λc=>by rw[b.k2 c];exact(Rg (eQ M) (λg=>g.ar==c) M.aW).symm,
  λc=>by rw[b.k3 c];exact(Rg (en M) (λg=>g.ar==c) M.d).symm⟩
theorem agr(a:ic b3=ab)(b:b3.aB=[]):0<b3.const.ty:=by
 grind[ic,qX]
theorem ags(a:bV bH=ab):bH≠[]:=by
 rintro rfl;have:bV []=false:=by decide
 grind
theorem agt(a:mC P=ab):(P.ak=3\/P.ak=4)<->P.af≠[]:=by
 unfold mC at a;simp only[bG]at a;grind[ags]
theorem agu(a:l6 u=ab):∀b∈u.ae,mC b=true:=by
 unfold l6 at a;simp only[bG]at a;exact(sx a.2).2
theorem agv(n:∀k∈M.d,Z k.bb<=4/\∀j∈k.bb,j=1\/j=2)(g:EM u)(l:fU M u=ab)(i:u.ae.all (gH M)=ab):I8 M (eH M u):=by
 have m:=QC n g l i;rw[fi]at i;have h:∀c∈(eH M u).ae,∃a∈u.ae,c=g9 M a:=by
  intro c b;simp only[eH,du]at b;obtain⟨a,e,rfl⟩:=b;exact⟨a,e,rfl⟩
 refine{toBG:=m,EU:=g.ad,Rc:=?_,s5:=λc b=>?_,bf:=λk v j f=>?_,Re:=λc b q o p=>?_,k5:=λc b f=>?_,kn:=λc b f=>?_}
 ·have:=g.ae
  grind[eH]
 ·obtain⟨a,e,rfl⟩:=h c b
  exact(g.lit a e).ad
 ·grind
 ·obtain⟨a,e,rfl⟩:=h c b
  exact agr ((g.lit a e).BI q o) p
 ·obtain⟨a,e,rfl⟩:=h c b
  have f:a.ak=5:=f;show mg M a<0;grind[mg]
 ·obtain⟨a,e,rfl⟩:=h c b
  have f:a.ak≠5:=f;obtain⟨r,t,s,-⟩:=EN (i a e) f;show 0<=mg M a;grind[mg]
theorem agw(a:List z)(e d:z)(c:List z)(b:Nat)(f:Z a=b):(a++e::c).set b d=a++d::c:=by
 simp_all
def rr(a:aG)(b c:Int)(d:List Lit):aG:=⟨a.ar,b,a.ad,⟨a.af.ak,a.af.ar,a.af.aB,c⟩,d,a.bf⟩
theorem agx(b:aG)(id g a:Nat):dh 9 (.agg (eI b (.q id g 0 a)))=T (eI b (.q id g 0 a)):=gS rfl rfl
theorem Rh(b d:List (Int×Int))(c a:Int):mN (b++d) c a=b++mN d c a:=by
 grind[mN]
section
variable{H:List Obj}{S m1 m2 m3:Nat}{lv fv pv rv dv:AV}{n1 n2 n3:gn}{PD PL PF PP F:aN}
theorem bh.agy{a:Nat×Obj}(d:w H (bh S m1 m2 m3 lv fv pv rv dv n1 n2 n3 PD PL PF PP (hz::a::F))):w H (a::bh S m1 m2 m3 lv fv pv rv dv n1 n2 n3 PD PL PF PP (hz::F)):=by
 have b:=(bh.out (a:=[hz,a]) d).perm (List.Perm.swap a hz _);have f:w H ([a]++(hz::bh S m1 m2 m3 lv fv pv rv dv n1 n2 n3 PD PL PF PP F)):=b;have e:w H (bh S m1 m2 m3 lv fv pv rv dv n1 n2 n3 PD PL PF PP (a::hz::F)):=bh.EY (a:=[a,hz]) b;exact bh.Rf e
theorem bh.agz{a:Nat×Obj}(c:w H (a::bh S m1 m2 m3 lv fv pv rv dv n1 n2 n3 PD PL PF PP (hz::F))):w H (bh S m1 m2 m3 lv fv pv rv dv n1 n2 n3 PD PL PF PP (hz::a::F)):=by
 have d:=bh.out (a:=[a,hz]) (bh.agq c);exact bh.EY (a:=[hz,a]) (d.perm (List.Perm.swap hz a _))
end
def agA(c:aj)(d:aG)(n r s t:Nat)(p o y z:AV)(u v x:gn)(l k m i:aN)(g:List (Int×Int))(A:AV)(j:List Obj):Prop:=
 ∃a e h f b,A=.agg (eI a (.q e 0 0 (Z a.ae)))/\bA h bX 2 b f/\w j (bh n r s t p o y z h u v x f l k m ((e,.arr 0 9 (a.ae.map dL))::i))/\Z b<=Z g+10/\
  (b=[]<->g=[]/\ka (dT c []) d)/\(ka (dT c []) d->a=eH (dT c []) d)
theorem eP.agB(bv:eP C){s t:gn}(v:aj)(c:aG)(f9:dW (dT v []))(gc:EZ v Y E aL hy s t bm gA ir)
 (i6:∀gt∈v.d,Z gt.bb<=4/\∀ge∈gt.bb,ge=1\/ge=2)(f7:l6 c=ab)(d1:bA jd bX 2 gC p)(l0:Z gC<=900000)
 (fd:w N (bh U O y c2 Y E aL cJ jd hy s t p bm gA ir lr)):HR C 152 [.ptr U 0 0 0,.agg (aP V c)] N (agA v c U O y c2 Y E aL cJ hy s t bm gA ir lr gC):=by
 have X:=Qz f7;have lw:=X.ae;have i9:=QD (jT:=[]) i6;have f6:=EO v [];refine Yc.hq ?_;refine bj (dD:=.ptr (Z N) 0 0 0) (b:=N++[.arr 0 9 [aP V c]]) (by simp[mw]) ?_;have ar:=fd.alloc (.arr 0 9 [aP V c]);generalize N++[.arr 0 9 [aP V c]]=F at*;generalize Z N=o at*;have J:=bh.sc ar.tail;have au:F[o]?=T (.arr 0 9 [aP V c]):=ar.get (by simp);have a4:aR 1 aa (.ptr U 0 0 7) F=T jd:=gm J rfl
 have gh:aR 1 aa (.ptr o 0 0 2) F=T (eS V cT c.ad):=gm au rfl;have gi:aR 1 aa (.ptr o 0 0 7) F=T (eS V (a5 V) c.ae):=gm au rfl;simp only[gJ J,eb J,eb au,Q,aJ,a4,gh,gi,d1.ln];refine f (bv.QQ c.ad (by have:=X.ad;omega)) ?_;refine oZ _ (by simpa using bv.afJ c.ae (by omega) F) ?_;have H:=(ar.alloc (.arr 0 9 [])).alloc (.arr 0 9 (c.ae.map (a5 V)))
 have e2:F++[Obj.arr 0 9 [],.arr 0 9 (c.ae.map (a5 V))]=F++[Obj.arr 0 9 []]++[.arr 0 9 (c.ae.map (a5 V))]:=by simp
 rw[fb,gz]at H;rw[e2];generalize F++[Obj.arr 0 9 []]++[.arr 0 9 (c.ae.map (a5 V))]=he at*;generalize hw:Z F+1=e at*;have H:w he ((o,.arr 0 9 [aP V c])::(e,.arr 0 9 (c.ae.map (a5 V)))::bh U O y c2 Y E aL cJ jd hy s t p bm gA ir lr):=by
  refine w.perm (p:=(e,.arr 0 9 (c.ae.map (a5 V)))::(o,.arr 0 9 [aP V c])::bh U O y c2 Y E aL cJ jd hy s t p bm gA ir lr) ?_ (List.Perm.swap _ _ _);exact w.tail (H.perm (List.Perm.swap _ _ _))
 clear e2 hw ar J au a4 gh gi fd;have ex:∀(gj:List AV)(l:List Obj),w l ((o,.arr 0 9 [gj])::(e,.arr 0 9 (c.ae.map (a5 V)))::bh U O y c2 Y E aL cJ jd hy s t p bm gA ir lr)->w l ((o,.arr 0 9 ([[]].set 0 gj))::(e,.arr 0 9 (c.ae.map (a5 V)))::bh U O y c2 Y E aL cJ jd hy s t p bm gA ir lr):=λ_ _ r=>r;have W:0<Z ([[]]:List (List AV)):=by decide
 have H:=ex _ _ H;simp only[lQ H,Q,aJ];refine rB W H (by simp[aP]) rfl rfl λlm cs=>?_;simp only[lQ cs,Q,aJ];refine rB W cs (by simp[aP]) rfl rfl λhg P=>?_;have P:w hg ((o,.arr 0 9 ([[]].set 0 (eI c (.q e 0 0 (Z c.ae)))))::(e,.arr 0 9 (c.ae.map (a5 V)))::bh U O y c2 Y E aL cJ jd hy s t p bm gA ir lr):=P;have gM:∀bi ak,(eI bi ak)[8]?=T (I bi.bf):=λ_ _=>rfl;simp only[lQ P,qE W P,Q,aJ,gM];clear H cs
 have fI:∀l,w l ((e,.arr 0 9 (c.ae.map (a5 V)))::bh U O y c2 Y E aL cJ jd hy s t p bm gA ir lr)->SC (dT v []) U l:=λl m=>gc.SC m.tail;refine cY (af4 (dT v []) c f9 (by have:=X.ad;grind[Sm]) f6 W fI P) rfl λK hh x=>?_;obtain⟨ce,k,n,rfl,it,ii,R⟩:=x;simp only[lQ R,qE W R,Q,aJ,gM,j3,true_and];have go:(gZ c k n).bf=c.bf:=rfl;rw[go];simp only[j3,true_and]
 have R:w hh (bh U O y c2 Y E aL cJ jd hy s t p bm gA ir ((o,.arr 0 9 [eI (gZ c k n) (.q e 0 0 (Z c.ae))])::(e,.arr 0 9 (c.ae.map (a5 V)))::lr)):=bh.EY (a:=[(o,.arr 0 9 [eI (gZ c k n) (.q e 0 0 (Z c.ae))]),(e,.arr 0 9 (c.ae.map (a5 V)))]) R;refine cY (bh.report R ce c.bf d1 (by omega)) rfl λK d6 x=>?_;obtain⟨rfl,eq,d8,f0,dl⟩:=x;have el:∀bi ak,(eI bi ak)[7]?=T ak:=λ_ _=>rfl
 have d0:d6[o]?=T (.arr 0 9 [eI (gZ c k n) (.q e 0 0 (Z c.ae))]):=dl.get (by simp[bh]);simp only[eb d0,Q,aJ,gm d0 (el _ _),nj];clear d0 R P;have f1:bA eq bX 2 (gC++mN [] ce c.bf) d8:=by rw[<-Rh,rP];exact f0
 have f8:fU (dT v []) c=ab->k=kE (dT v []) c/\n=oA (dT v []) c:=λr=>by
  have S:=ii r;exact⟨congrArg aG.aq S,congrArg (λah=>ah.af.aQ) S⟩
 generalize fn:dT v []=h at*;have fs:∀{jd:AV}{p:aN}{lr:aN}{l:List Obj},w l (bh U O y c2 Y E aL cJ jd hy s t p bm gA ir lr)->SC h U l:=λm=>by rw[<-fn];exact gc.SC m
 clear fI go ex d1 f0;refine bB (z:=Nat×List Obj×List Lit×AV×List (Int×Int)×aN) (λj=>[I j.1,.str [],I 0,.ai,I 0,.str [],.str [],I 0,.ai,I 0]) (λj=>j.2.1) (λj=>Z c.ae -j.1) (λj=>j.1<=Z c.ae/\w j.2.1 (bh U O y c2 Y E aL cJ j.2.2.2.1 hy s t j.2.2.2.2.2 bm gA ir ((o,.arr 0 9 [eI (gZ c k n) (.q e 0 0 (Z c.ae))])::(e,.arr 0 9 (j.2.2.1.map dL++(c.ae.drop j.1).map (a5 V)))::lr))/\
  bA j.2.2.2.1 bX 2 (gC++j.2.2.2.2.1) j.2.2.2.2.2/\Z j.2.2.2.2.1<=1+j.1/\Z j.2.2.1=j.1/\(j.2.2.2.2.1=[]<->fU h c=ab/\(c.ae.take j.1).all (gH h)=ab)/\((c.ae.take j.1).all (gH h)=ab->j.2.2.1=(c.ae.take j.1).map (g9 h))) (0,d6,[],eq,mN [] ce c.bf,d8) ⟨by simp,dl,f1,zt,rfl,by simp[zs,it],by simp⟩ ?_
 clear dl f1;rintro⟨g,l,z,jd,ah,p⟩ ⟨i2,m,ax,kw,a0,aB,a3⟩ ls d4;simp only at i2 m ax kw a0 aB a3 d4⊢;simp only[G,i,A,Q,a];have ds:l[o]?=T (.arr 0 9 [eI (gZ c k n) (.q e 0 0 (Z c.ae))]):=m.get (by simp[bh]);refine b (λr=>?_) (λr=>?_)
 ·have r:g<Z c.ae:=by simpa using r
  have f4:c.ae[g]∈c.ae:=bs r;have f2:c.ae.drop g=c.ae[g]::c.ae.drop (g+1):=mQ r;have f3:∀bw:List AV,(z.map dL++(c.ae.drop g).map (a5 V)).set g bw=z.map dL++bw::(c.ae.drop (g+1)).map (a5 V):=by
   intro bw;rw[f2];exact agw _ _ _ _ _ (by simp[a0])
  have ac:g<Z (z.map dL++(c.ae.drop g).map (a5 V)):=by simp;omega
  have ke:(z.map dL++(c.ae.drop g).map (a5 V)).set g (a5 V c.ae[g])=z.map dL++(c.ae.drop g).map (a5 V):=by rw[f3,f2]<;>rfl
  have L:=bh.agy m;rw[<-ke]at L;have i7:∀hl kx,(dL (iT c.ae[g] hl kx))[8]?=T (I c.ae[g].bf):=λ_ _=>rfl;have i8:(dL c.ae[g])[8]?=T (I c.ae[g].bf):=rfl;have nl:(c.ae.take (g+1)).map (g9 h)=(c.ae.take g).map (g9 h)++[g9 h c.ae[g]]:=by
   rw[hX r,ht]<;>rfl
  have io:=IL (dG:=gH h) r;have d3:=X.lit _ f4;have i3:=agt (agu f7 _ f4);generalize ne:c.ae[g]=B at*;generalize mk:z.map dL++(c.ae.drop g).map (a5 V)=hu at*;have lc:bY 9 (.q e 0 0 (Z c.ae)) (I (g:Int)) l=T (.ptr e 0 g 0):=e3 (BS L) r;have hn:(a5 V B)[3]?=T (eS V cT B.ad):=rfl;simp only[eb ds,Q,aJ,gm ds (el _ _),lc,oC L,lQ L,qE ac L,hn];refine f (bv.QQ B.ad (by have:=d3.ad;omega)) ?_
  refine rB ac L (by simp[a5]) rfl rfl λha M=>?_;have M:w ha ((e,.arr 0 9 (hu.set g (dL B)))::bh U O y c2 Y E aL cJ jd hy s t p bm gA ir ((o,.arr 0 9 [eI (gZ c k n) (.q e 0 0 (Z c.ae))])::lr)):=M;simp only[oC M,lQ M,qE ac M,Q,aJ,i8];refine cY (af5 h B f9 (by have:=d3.ad;grind[Sm]) f6 d3.cmp i3 ac (λl m=>fs m) M) rfl λK br x=>?_;obtain⟨ci,hm,le,rfl,i0,mt,u⟩:=x
  simp only[oC u,lQ u,qE ac u,Q,aJ,i7,j3,true_and];rw[f3]at u;have u:=bh.agz u;refine cY (bh.report u ci B.bf ax (by grind)) rfl λK d5 x=>?_;obtain⟨rfl,es,d9,d2,h3⟩:=x;rw[Rh]at d2;rw[ba,Q];have ok:=zt (gC:=ah) (aU:=ci) (c1:=B.bf);refine d4 (g+1,d5,z++[iT B hm le],es,mN ah ci B.bf,d9) ⟨r,?_,d2,by simp only;omega,by simp[a0],?_,?_⟩ (by simp;omega)
  ·grind
  ·rw[zs,aB,io,i0,and_assoc]
  grind
 ·have:g=Z c.ae:=by simp at r;omega
  subst this;clear d4;rw[dB]at aB a3;rw[nU,oL,rP]at m;have id:ka h c<->(fU h c=ab/\c.ae.all (gH h)=ab)/\tv h (eH h c):=by unfold ka;rw[and_assoc]
  refine nQ (λK gN=>∃em d7 b4,bA em bX 2 b4 d7/\w gN (bh U O y c2 Y E aL cJ em hy s t d7 bm gA ir ((o,.arr 0 9 [eI (gZ c k n) (.q e 0 0 (Z c.ae))])::(e,.arr 0 9 (z.map dL))::lr))/\Z b4<=Z gC+10/\(b4=[]<->gC=[]/\ka h c)) (λol ms=>?_) ?_
  ·have J:=bh.sc m
   have a4:aR 1 aa (.ptr U 0 0 7) l=T jd:=gm J rfl;simp only[gJ J,eb J,Q,aJ,a4,ax.ln,c9,kV ds (show([eI (gZ c k n) (.q e 0 0 (Z c.ae))])[0]?=T _ from rfl) (show Z (eI (gZ c k n) (.q e 0 0 (Z c.ae)))=9 from rfl)];refine b (λco=>?_) (λco=>?_)
   ·have kl:ah=[]:=by
     rw[beq_iff_eq]at co;rw[fb]at co;exact wF (by omega)
    subst kl;obtain⟨a9,be⟩:=aB.1 rfl;obtain⟨rfl,rfl⟩:=f8 a9;have i4:=a3 be;have jp:eI (gZ c (kE h c) (oA h c)) (.q e 0 0 (Z c.ae))=eI (eH h c) (.q e 0 0 (Z (eH h c).ae)):=by
     have:Z (eH h c).ae=Z c.ae:=by simp[eH]
     rw[this]<;>rfl
    have i5:z.map dL=(eH h c).ae.map dL:=by rw[i4]<;>rfl
    rw[jp];refine cY (agp (U:=e) (O:=0) h (eH h c) (agv i9 X a9 be) (λl m=>fs m) (λl m=>?_) m) rfl λK br x=>?_
    ·rw[<-i5];exact m.get (by simp[bh])
    ·obtain⟨S,k,rfl,md,u⟩:=x
     simp only[ef,cv,dk,Q];refine cY (bh.report u S k ax (by grind)) rfl λK d5 x=>?_;obtain⟨rfl,es,d9,d2,h3⟩:=x;grind[zt,zs]
   grind
  ·rintro K br ⟨hs,hj,ho,i1,u,ip,mp⟩
   have h4:br[o]?=T (.arr 0 9 [eI (gZ c k n) (.q e 0 0 (Z c.ae))]):=u.get (by simp[bh]);simp only[kV h4 (show([eI (gZ c k n) (.q e 0 0 (Z c.ae))])[0]?=T _ from rfl) (show Z (eI (gZ c k n) (.q e 0 0 (Z c.ae)))=9 from rfl),Q,agx];refine⟨rr c k n z,e,hs,hj,ho,?_,i1,(bh.Rf u).tail,ip,by grind,λf5=>?_⟩
   ·have:Z (rr c k n z).ae=Z c.ae:=a0
    rw[this]<;>rfl
   ·rw[fn]at f5⊢
    obtain⟨⟨a9,be⟩,-⟩:=id.1 f5;obtain⟨rfl,rfl⟩:=f8 a9;rw[a3 be]<;>rfl
def sC(a:aG×Nat):List AV:=eI a.1 (.q a.2 0 0 (Z a.1.ae))
def E1(a:aG×Nat):Nat×Obj:=(a.2,.arr 0 9 (a.1.ae.map dL))
@[simp] theorem agC(a:aG×Nat):Z (sC a)=9:=rfl
section
variable{H:List Obj}{S m1 m2 m3:Nat}{lv fv pv rv dv:AV}{n1 n2 n3:gn}{PD PL PF PP PR PB:aN}
theorem bh.vU(l:w H (bh S m1 m2 m3 lv fv pv rv dv n1 n2 n3 PD PL PF PP (hz::(PR++PB)))){b:List (aG×Nat)}(s:bA rv sC 9 b PR)(a:aG×Nat)(z:Z b<1000000)
 (f:∀n k i,bA n sC 9 (b++[a]) k->w i (bh S m1 m2 m3 lv fv pv n dv n1 n2 n3 PD PL PF PP (k++(hz::PB)))->hB i):
 cc (cx 9 128 rv (.sl aa [sC a]) H) λt c=>bd (hP (.ptr S 0 0 0) c) λu=>bd (dw 0 u c) λv=>bd (dw 3 v c) λx=>bd (df 1 x t c) λr=>hB r:=by
 let d:=PD++((m1,b7 n1)::(m2,b7 n2)::(m3,b7 n3)::(PL++(PF++PP)));have eq:∀rv h,bh S m1 m2 m3 lv fv pv rv dv n1 n2 n3 PD PL PF PP h=(S,fg lv fv pv rv m1 m2 m3 dv)::(d++h):=by grind[bh]
 rw[eq]at l;simp only[eq]at f;clear eq;have p:w H (((S,fg lv fv pv rv m1 m2 m3 dv)::(d++[hz]))++(PR++PB)):=by simpa using l
 obtain⟨id,g,j,o,m⟩:=s.app (bytes:=128) p.swap a (agC a) (by omega);refine bj o ?_;have e:=m.get (U:=S) (iX:=fg lv fv pv rv m1 m2 m3 dv) (by simp);simp only[gJ e,eb e,Q,aJ,fo];refine aD (k1 e rfl (by omega) rfl rfl) (f _ [(id,.arr g 9 ((b++[a]).map sC))] _ bA.of ?_);have y:w j (((S,fg lv fv pv rv m1 m2 m3 dv)::d)++(id,.arr g 9 ((b++[a]).map sC))::(hz::PB)):=by
  refine w.front ?_;simpa using m
 change w (j.set S (fg lv fv pv (.q id g 0 (Z (b++[a]))) m1 m2 m3 dv)) _;grind[w.set,sC,fg]
end
theorem agD{a:aG×Nat}(b:N[a.2]?=T (.arr 0 9 (a.1.ae.map dL))):bR N .res (sC a) (aP aa a.1):=
 .ck (.str _ _) (.ck (.int _ _ _) (.ck cy (.ck (.int _ _ _) (.ck (.str _ _) (.ck (.str _ _) (.ck (.int _ _ _) (.ck (fx (a2:=a5 aa) b (by simp)) (.ck (.int _ _ _) (.nil _)))))))))
theorem agE{c:List (aG×Nat)}(a:Gr N Y sC 9 c)(f:∀b∈c,N[b.2]?=T (.arr 0 9 (b.1.ae.map dL))):aI N .res Y (eS aa (aP aa) (c.map Prod.fst)):=by
 rcases a with⟨d,a⟩|⟨id,g,a,e⟩
 ·rw[d,a];exact .ai _ _
 ·rw[a]
  refine .na id g 0 _ 9 _ _ e (by simp) ?_;rw[jR,fW (by simp)];exact IN λb h=>agD (f b h)
theorem agF:ko [.ai,.ai,.ai,.ai] []=T [.ai,.ai,.ai,.ai]:=rfl
def agG(c:aj)(d:AV):Prop:=∃a b,d=.aE [.agg a,eS aa bX b]/\Z a=4/\a.all AV.bP=ab/\(b=[]<->uY c)/\(b=[]->a=cP aa aa (qC c))
theorem I9(a b:Int):pU [I a,I b]=T (I (min a b)):=by
 have:(if b<a then b else a)=min a b:=by split<;>omega
 show T (AV.int .i64 (if b<a then b else a))=_;rw[this]
theorem agH{id g len:Nat}(a:N[id]?=T (.arr g O bS))(b:Z bS=len)(c:U<=len):dV (.sl O) (.q id g 0 len) D (T (I (U:Int))) N=T (.q id g 0 U):=by
 simp_all[cQ,dV]
theorem eP.agI(ci:eP C)(c:aj)(a9:dW c):∃R,PR C 94 [.agg (cP V F c)] R/\agG c R:=by
 refine YI.ex ?_;simp only[dS,Q,fQ];refine f (ci.acz c a9) ?_;simp only[bD,Q];have e2:∀ce:List Obj,aI ce .res (.agg [.ai,.ai,.ai,.ai]) (.agg [.sl aa [],.sl aa [],.sl aa [],.sl aa []]):=λce=>.agg _ _ _ (.ck (.ai _ _) (.ck (.ai _ _) (.ck (.ai _ _) (.ck (.ai _ _) (.nil _)))));refine c8 (λy=>?_) (λy=>?_)
 ·refine aD (dD:=[.ai,.ai,.ai,.ai]) rfl (aD (dD:=[I 1,I 0]) rfl (aD (dD:=.sl aa [[I 1,I 0]]) rfl (aD (dD:=[.ai,.ai,.ai,.ai]) rfl ?_)))
  refine⟨.aE [.agg [.sl aa [],.sl aa [],.sl aa [],.sl aa []],eS aa bX [(1,0)]],.aE _ _ _ (.ck (e2 _) (.ck ?_ (.nil _))),_,_,rfl,rfl,rfl,?_,by simp⟩
  ·exact Im.snap (kP (a2:=bX) (by simp) aa [((1:Int),(0:Int))])
  ·constructor
   ·grind
   ·intro f9;have:=f9.1;grind
 ·have W:=BJ y
  have em:Z c.ah<=40/\∀h∈c.ah,l6 h=true:=by
   unfold p8 at y;simp only[bG]at y;have:=sx y.2;exact⟨by omega,this.2⟩
  refine cY (ci.af2 (V:=V) (F:=F) (N:=[]) (p:=[]) c a9 ⟨by simp,by simp⟩ (by have:=W.m;omega) (by have:=W.aW;omega) (by have:=W.d;omega) (λd5 f5=>(W.fn d5 f5).1)) rfl λR fI d3=>?_;obtain⟨t,be,bi,br,O,H,P,k,bv,bw,b4,s,au,U,ax,hs,j,rfl,cs,p,ds,d1,d0,d2,io,gi,gj,d7,d8⟩:=d3;have hw:∀h∈c.ah,oh h:=a9.hG;have ha:dW (dT c []):=QE a9 (by simp[Sm]) (by simp)
  have ge:∀{o:List Obj}{k:AV}{d4:List AV},o[t]?=T (.arr 0 8 [d4])->d4[7]?=T k->aR 1 aa (.ptr t 0 0 7) o=T k:=λu r=>gm u r;have ii:=em.1;refine nQ (λR o=>∃k j s x B PR,bA k bX 2 j s/\bA x sC 9 B PR/\w o (bh t be bi br O H P x k bv bw b4 s au U ax (PR++B.reverse.map E1))/\Z j<=2000/\(j=[]<->uY c)/\(j=[]->B.map Prod.fst=c.ah.map (eH (dT c [])))) (λi0 el=>?_) ?_
  ·have n:=bh.sc cs
   simp only[gJ n,eb n,Q,aJ,ge n (show(ER O H P .ai be bi br k)[7]?=T k from rfl),p.ln,c9,a6,aH,mz,a8];refine b (λu=>?_) (λu=>?_)
   ·have v:j=[]:=by
     rw[beq_iff_eq]at u;exact wF (by omega)
    subst v;have K:po c=true:=d7.1 rfl;have he:EZ c O H P bv bw b4 au U ax:=by
     refine⟨d1,?_,d2,gi,gj⟩;have a4:=d8 K;rcases d0 with⟨a3,J,co⟩|⟨id,g,a3,J⟩
     ·refine .inl ⟨?_,J,co⟩
      simp_all
     ·refine .inr ⟨id,g,?_,?_⟩
      ·grind
      ·rw[J,a4];simp
    refine bB (z:=Nat×List Obj×AV×List (Int×Int)×aN×AV×List (aG×Nat)×aN) (λe=>[I e.1,.ai,.ai,.ai,.ai]) (λe=>e.2.1) (λe=>Z c.ah -e.1) (λe=>e.1<=Z c.ah/\bA e.2.2.1 bX 2 e.2.2.2.1 e.2.2.2.2.1/\bA e.2.2.2.2.2.1 sC 9 e.2.2.2.2.2.2.1 e.2.2.2.2.2.2.2/\w e.2.1 (bh t be bi br O H P e.2.2.2.2.2.1 e.2.2.1 bv bw b4 e.2.2.2.2.1 au U ax (e.2.2.2.2.2.2.2++e.2.2.2.2.2.2.1.reverse.map E1))/\
     Z e.2.2.2.1<=10*e.1/\Z e.2.2.2.2.2.2.1=e.1/\(e.2.2.2.1=[]<->∀h∈c.ah.take e.1,ka (dT c []) h)/\((∀h∈c.ah.take e.1,ka (dT c []) h)->e.2.2.2.2.2.2.1.map Prod.fst=(c.ah.take e.1).map (eH (dT c [])))) (0,fI,k,[],s,.ai,[],[]) ⟨by simp,p,bA.nil _ _,by simpa using cs,by simp,rfl,by simp,by simp⟩ ?_
    clear p cs n;rintro⟨Y,o,k,j,s,x,B,PR⟩ ⟨gc,p,L,l,ds,eq,M,N⟩ ho es;simp only at gc p L l ds eq M N es⊢;simp only[G,i,A,Q,a];refine b (λr=>?_) (λr=>?_)
    ·have r:Y<Z c.ah:=by simpa using r
     have gM:c.ah[Y]∈c.ah:=bs r;have n:=bh.sc l;have hh:aR 1 aa (.ptr t 0 0 3) o=T x:=gm n rfl;have f4:∀h:aG,(AV.agg [.str h.ar,I h.aq,eS V cT h.ad,I h.af.ak,.str h.af.ar,.str h.af.aB,I h.af.aQ,eS V (a5 V) h.ae,I h.bf])=.agg (aP V h):=λ_=>rfl;simp only[aC r (kQ _ _),Q,kR,uc,o4,qg,o5,o6,o7,o8,qh,o9,om,f4,gJ n,eb n,aJ,hh]
     refine cY (ci.agB (V:=V) c c.ah[Y] ha he W.bb (em.2 _ gM) p (by omega) l) rfl λR fd d3=>?_;obtain⟨ac,S,f3,f0,f2,rfl,f6,d6,h3,h4,gt⟩:=d3;have dl:=bh.sc d6;have hj:aR 1 aa (.ptr t 0 0 3) fd=T x:=gm dl rfl;simp only[gJ dl,eb dl,Q,aJ,hj,j3,true_and];rw[tx (U:=9) (row:=eI ac (.q S 0 0 (Z ac.ae))) rfl rfl,Q];refine bh.vU (hz:=E1 (ac,S)) d6 L (ac,S) (by omega) λhm f1 fs f8 hu=>?_;rw[ba,Q]
     refine es (Y+1,fs,f3,f2,f0,hm,B++[(ac,S)],f1) ⟨r,f6,f8,?_,by grind,by simp[eq],?_,?_⟩ (by simp;omega)
     ·grind
     ·grind[List.take_succ_eq_append_getElem,List.mem_singleton]
     ·intro E
      rw[hX r]at E⊢;have a4:=gt (E _ (c5.2 (.inr (by simp))));rw[ht,ht,N λh go=>E h (c5.2 (.inl go)),FI,FI,<-a4]
    ·have:Y=Z c.ah:=by simp at r;omega
     subst this;rw[dB]at M N;refine el _ _ ⟨k,j,s,x,B,PR,p,L,l,by omega,?_,λX=>N (M.1 X)⟩;rw[M];exact⟨λz=>⟨y,K,z⟩,λz=>z.2.2⟩
   ·have v:j≠[]:=by
     rintro rfl;simp at u
    have K:¬po c=true:=λy=>v (d7.2 y);refine el _ _ ⟨k,j,s,.ai,[],[],p,bA.nil _ _,by grind,by omega,?_,λX=>absurd X v⟩;exact⟨λX=>absurd X v,λz=>absurd z.2.1 K⟩
  ·rintro R o ⟨k,j,s,x,B,PR,p,L,l,ds,M,N⟩
   have n:=bh.sc l;have hl:aR 1 aa (.ptr t 0 0 7) o=T k:=gm n rfl;simp only[gJ n,eb n,Q,aJ,hl,p.ln,er];refine b (λu=>?_) (λu=>?_)
   ·have v:j≠[]:=by
     rintro rfl;simp at u
    rcases p with⟨a3,-,-⟩|⟨id,g,rfl,rfl⟩
    ·grind
    ·have d9:o[id]?=T (.arr g 2 (j.map bX)):=l.get (by simp[bh])
     have gh:min ((Z j:Nat):Int) 20=((min (Z j) 20:Nat):Int):=by omega
     rw[agF,Q,I9,Q,gh,agH d9 (by simp) (by omega),Q];refine aD (dD:=[.ai,.ai,.ai,.ai]) rfl ?_;simp only[Q,j3,true_and];refine⟨.aE [.agg [.sl aa [],.sl aa [],.sl aa [],.sl aa []],eS aa bX (j.take (min (Z j) 20))],.aE _ _ _ (.ck (e2 _) (.ck ?_ (.nil _))),_,_,rfl,rfl,rfl,?_,?_⟩
     ·refine .na id g 0 _ 2 _ _ d9 (by simp;omega) ?_
      rw[jR,<-Ks];exact BH λE _=>bO.snap (by simp)
     ·simp_all
     simp_all
   ·have v:j=[]:=by simpa using u
    have z:=M.1 v;have K:=z.2.1;have hg:aR 4 ab (.ptr t 0 0 0) o=T (.agg [O,H,P,x]):=by simp[aR,tY,n,fg,ER,nY]
    rw[hg,Q,gS (U:=4) rfl (by simp[d1.cell,d0.cell,d2.cell,L.cell]),Q];simp only[G,i];have f7:bA H (b8 aa) 7 (c.aW.map (eQ c)) U:=by
     have a4:=d8 K;rcases d0 with⟨a3,J,co⟩|⟨id,g,a3,J⟩
     ·refine .inl ⟨?_,J,co⟩
      simp_all
     ·refine .inr ⟨id,g,?_,?_⟩
      ·grind
      simp_all
    have gN:w o (PR++(bh t be bi br O H P x k bv bw b4 s au U ax []++B.reverse.map E1)):=by
     rw[EX]at l;exact l.swap
    refine⟨.aE [.agg (cP aa aa (qC c)),eS aa bX []],.aE _ _ _ (.ck (.agg _ _ _ (.ck ((d1.gr (bh.pl l)).res (by simp)) (.ck ((f7.gr (bh.pf l)).res (by simp)) (.ck ((d2.gr (bh.pp l)).res (by simp)) (.ck ?_ (.nil _)))))) (.ck (.ai _ _) (.nil _))),_,_,rfl,rfl,rfl,⟨λ_=>z,λ_=>rfl⟩,λ_=>rfl⟩;have:=agE (L.gr gN) λE ip=>l.get (U:=E.2) (iX:=.arr 0 9 (E.1.ae.map dL)) (by
     simp only[bh,cf,c5]
     right;right;right;right;right;right;right;right;right
     exact du.2 ⟨E,by grind,rfl⟩)
    rw[N v]at this;exact this
theorem agJ:u=eH M u<->(u.aq=kE M u/\u.af={u.af with aQ:=oA M u})/\u.ae=u.ae.map (g9 M):=by
 constructor
 ·intro a
  exact⟨⟨congrArg aG.aq a,congrArg aG.af a⟩,congrArg aG.ae a⟩
 ·rintro⟨⟨b,c⟩,d⟩
  have a:eH M u=⟨u.ar,kE M u,u.ad,{u.af with aQ:=oA M u},u.ae.map (g9 M),u.bf⟩:=rfl;rw[a,<-b,<-c,<-d]
theorem agK:tA P (g9 M P)=ab<->P=g9 M P:=by
 simp only[tA,bG,beq_iff_eq];constructor
 ·rintro⟨b,c⟩
  have a:g9 M P=⟨P.ak,P.ar,(g9 M P).aq,P.ad,P.bind,P.af,(g9 M P).gN,P.op,P.bf⟩:=rfl;rw[a,<-b,<-c]
 ·intro a
  exact⟨congrArg Lit.aq a,congrArg Lit.gN a⟩
theorem E2{b:z->z}:o=o.map b<->∀a∈o,a=b a:=by
 constructor
 ·intro c a d
  obtain⟨e,h,rfl⟩:=Cv d;grind
 ·intro c
  refine sH (by simp) λe f g=>?_;grind
theorem Ri{b:z->z}{c:z->z->Bool}(f:∀a(e:a<Z o),b9 a=c o[a] (b o[a])):(List.range (Z o)).all b9=ab<->∀d∈o,c d (b d)=true:=by
 grind[List.getElem_of_mem]
theorem Rj:uZ u (eH M u)=ab<->u=eH M u:=by
 rw[agJ,E2];simp only[uZ,bG,beq_iff_eq,decide_eq_true_eq];have c:(eH M u).ae=u.ae.map (g9 M):=rfl;rw[c];constructor
 ·rintro⟨a,-,b⟩
  exact⟨a,λe d=>agK.1 ((Ri (c:=tA) (b:=g9 M) (by grind)).1 b e d)⟩
 ·rintro⟨a,g⟩
  exact⟨a,by simp,by grind[tA,g9]⟩
theorem agL:BM jT (jT.map (eH M))=ab<->jT=jT.map (eH M):=by
 rw[E2,BM,bG];constructor
 ·rintro⟨-,a⟩
  exactλc b=>Rj.1 ((Ri (c:=uZ) (b:=eH M) (by grind)).1 a c b)
 grind[Rj]
theorem Rk:M=qC M<->(∀b∈M.aW,b=eQ M b)/\(∀c∈M.d,c=en M c)/\M.ah=M.ah.map (eH (dT M [])):=by
 rw[<-E2,<-E2];constructor
 ·intro a
  exact⟨congrArg aj.aW a,congrArg aj.d a,congrArg aj.ah a⟩
 ·rintro⟨e,f,g⟩
  have a:qC M=⟨M.m,M.aW.map (eQ M),M.d.map (en M),M.ah.map (eH (dT M []))⟩:=rfl;rw[a,<-e,<-f,<-g]
theorem agM{a:Fn}:a=eQ M a<->a.of=(eQ M a).of/\a.gM=(eQ M a).gM:=by
 constructor
 ·grind
 ·rintro⟨c,d⟩
  have b:eQ M a={a with of:=(eQ M a).of,gM:=(eQ M a).gM}:=rfl;rw[b,<-c,<-d]
theorem Rl:pK=en M pK<->pK.of=(en M pK).of:=by
 constructor
 ·grind
 ·intro b
  have a:en M pK={pK with of:=(en M pK).of}:=rfl;rw[a,<-b]
open Classical in
theorem eP.Rn(E:eP C)(c:aj)(o:dW c):PR C 46 [.agg (cP V F c)] (.bool (iH c)):=by
 refine Zm.pr ?_;obtain⟨a4,ac,a3,H,rfl,U,M,R,X⟩:=E.agI (V:=V) (F:=F) c o;simp only[dS,Q,fQ];refine f ac ?_;simp only[ef,cv,dk,Q];rw[gS U M,Q];have x:iH c=S (uY c/\c=qC c):=by
  rw[iH,decide_eq_decide];unfold nN uY qC;constructor
  ·rintro⟨r,V,t,p⟩;exact⟨⟨r,V,t⟩,p⟩
  ·rintro⟨⟨r,V,t⟩,p⟩;exact⟨r,V,t,p⟩
 simp only[a8,er,Q];refine b (λl=>?_) (λl=>?_)
 ·grind[bE]
 ·have z:H=[]:=by simpa using l
  have K:=R.1 z;rw[X z];have x:iH c=S (c=qC c):=by
   rw[x,decide_eq_decide];exact⟨λl=>l.2,λl=>⟨K,l⟩⟩
  have J:cP aa aa (qC c)=[eS aa (bn aa) c.m,eS aa (b8 aa) (c.aW.map (eQ c)),eS aa (bF aa) (c.d.map (en c)),eS aa (aP aa) (c.ah.map (eH (dT c [])))]:=rfl;have W:¬c=qC c->iH c=false:=by grind
  rw[Rk]at W;simp only[J,G,i,a6,Q,aH,sT,iy,mz,aJ,a8];refine bB (z:=Nat) (λk=>[ff,I k,eS aa (bn aa) c.m,eS aa (b8 aa) (c.aW.map (eQ c)),eS aa (bF aa) (c.d.map (en c)),eS aa (aP aa) (c.ah.map (eH (dT c [])))]) (λ_=>[]) (λk=>Z c.aW -k) (λk=>k<=Z c.aW/\∀j(w:j<Z c.aW),j<k->c.aW[j]=eQ c c.aW[j]) 0 ⟨by simp,λj _ l=>by omega⟩ ?_;rintro g ⟨B,v⟩ y q;have O:=o.aW;have aB:=o.d;simp only[G,i,A,Q,a]
  refine b (λe=>?_) (λe=>?_)
  ·have e:g<Z c.aW:=by simpa using e
   have u:g<Z (c.aW.map (eQ c)):=by simpa using e
   have P:c.aW[g]∈c.aW:=bs e;simp only[aC e (p3 _ _),aC u (p3 _ _),Q,AH,Dd,DP,DQ,NN,DR,DS,NO,DT,wH,a6,aH,Mh,GH,aJ,cd];have ae:c.aW[g]=eQ c c.aW[g]->bd (aS .s .add (I g) (I 1)) λak=>y [ff,ak,eS aa (bn aa) c.m,eS aa (b8 aa) (c.aW.map (eQ c)),eS aa (bF aa) (c.d.map (en c)),eS aa (aP aa) (c.ah.map (eH (dT c [])))] []:=by
    intro N;rw[ba (by unfold Sm at O;omega),Q];refine q (g+1) ⟨e,λj w ax=>?_⟩ (by omega);by_cases p:j=g
    ·subst p;exact N
    ·exact v j w (by omega)
   have L:=(o.fn _ P).2.2;generalize c.aW[g]=h at*;rw[agM]at ae;have ad:¬(h.of=(eQ c h).of/\h.gM=(eQ c h).gM)->iH c=false:=by grind
   rw[bo];refine dx (λn=>?_) (λn=>?_)
   ·have n:h.of=(eQ c h).of:=by simpa using n
    refine f (afA h.gM (eQ c h).gM L) ?_;simp only[bD,Q,G,i];refine c8 (λar=>bE (ad λl=>?_)) (by grind);grind
   simp_all
  ·have:g=Z c.aW:=by simp at e;omega
   subst this;clear q;have au:∀h∈c.aW,h=eQ c h:=by grind[List.getElem_of_mem]
   refine bB (z:=Nat) (λk=>[ff,I k,eS aa (bn aa) c.m,eS aa (b8 aa) (c.aW.map (eQ c)),eS aa (bF aa) (c.d.map (en c)),eS aa (aP aa) (c.ah.map (eH (dT c [])))]) (λ_=>[]) (λk=>Z c.d -k) (λk=>k<=Z c.d/\∀j(w:j<Z c.d),j<k->c.d[j]=en c c.d[j]) 0 ⟨by simp,λj _ l=>by omega⟩ ?_;clear v B e;rintro g ⟨B,v⟩ y q;simp only[G,i,A,Q,a];refine b (λe=>?_) (λe=>?_)
   ·have e:g<Z c.d:=by simpa using e
    have u:g<Z (c.d.map (en c)):=by simpa using e
    have a0:c.d[g]∈c.d:=bs e;simp only[aC e (hD _ _),aC u (hD _ _),Q,ub,vD,q2,wH,a6,aH,yO,aJ,cd];refine b (λn=>?_) (λn=>?_)
    ·grind[bE,Rl]
    ·have n:c.d[g].of=(en c c.d[g]).of:=by simpa using n
     grind[ba,Sm,Q,Rl]
   ·have:g=Z c.d:=by simp at e;omega
    subst this;clear q;have aQ:∀h∈c.d,h=en c h:=by grind[List.getElem_of_mem]
    refine f (afF c.ah (c.ah.map (eH (dT c []))) o.ah λaf Y=>(o.hG af Y).2.1) ?_;refine gU ?_;rw[x,hY,decide_eq_true_eq,agL,Rk];grind
theorem Ro(b:aj)(a:Int):PR C 169 [.agg (cP V F b),I a] (.bool (ep b a)):=by
 refine Yf.pr ?_;simp only[dS,Q,a6,aH,iy,aJ,a8,gF,A,bo,G];exact aZ (by simp_all[ep]) (by grind[bE,ep])
theorem Rp(a:Lit):PR C 109 [.agg (a5 V a)] (.bool (pc a)):=by
 refine Zw.pr ?_;simp only[nm,Q,a6,aH,oY,aJ,c9,bo,G];exact dx (by simp_all[pc]) (by simp_all[pc])
theorem Rq(a:aj)(c:aG)(d:Lit):PR C 108 [.agg (cP V F a),.agg (aP bp c),.agg (a5 b2 d)] (.bool (qs a c d)):=by
 refine Wx.pr ?_;simp only[dS,l3,nm,Q,a6,aH,fQ,xh,oY,uf,aJ,cd,bo,G];refine aZ (λe=>?_) (by simp_all[qs]);refine f (Ro a _) (aZ (λb=>?_) (λb=>bE (by rw[qs,b]<;>rfl)));exact f (Ro a _) (gU (by rw[qs,b,e];simp))
def rE(id:Nat)(a:List Edge):AV:=.q id (Z a) 0 (Z a)
def lS(a:List Edge):List Obj:=[.arr 0 2 [],.arr 0 1 [],.arr (Z a) 2 (a.map mH),.arr (Z a) 1 (a.map qt)]
theorem agN(a:List Edge)(b:Edge)(n:Z a<1099511627776):∃f,cx 2 16 (rE 2 a) (.sl aa [bX b.1]) (lS a)=T (rE 2 (a++[b]),f)/\cx 1 1 (rE 3 a) (.sl aa [cB b.2]) f=T (rE 3 (a++[b]),lS (a++[b])):=by
 have c:=mE (N:=lS a) (id:=2) (U:=2) (bytes:=16) (O:=Z a) (a2:=mH) (o:=a) b (by simp[lS]) rfl (by omega);have h:aY (lS a) 2 2 mH (Z a) a=lS a:=rfl;rw[h]at c;have e:Z (a++[b])=Z a+1:=by simp
 have d:=mE (N:=aY (lS a) 2 2 mH (Z a+1) (a++[b])) (id:=3) (U:=1) (bytes:=1) (O:=Z a) (a2:=qt) (o:=a) b (by simp[lS,aY]) rfl (by omega);have i:aY (aY (lS a) 2 2 mH (Z a+1) (a++[b])) 3 1 qt (Z a) a=aY (lS a) 2 2 mH (Z a+1) (a++[b]):=rfl;rw[i]at d;rw[e]at c d;refine⟨aY (lS a) 2 2 mH (Z a+1) (a++[b]),?_,?_⟩
 ·simp only[rE,e];exact c
 ·simp only[rE,lS,e];exact d
theorem agO(a:List Edge):aI (lS a) .res (.aE [(rE 2 a).pl,(rE 3 a).pl]) (.aE [eS aa bX (a.map (·.1)),eS aa cB (a.map (·.2))]):=by
 refine .aE _ _ _ (.ck ?_ (.ck ?_ (.nil _)))
 ·have:=fx (N:=lS a) (id:=2) (U:=2) (O:=Z a) (a2:=bX) (o:=a.map (·.1)) (by simp_all[lS,mH]) (by simp)
  rw[kd]at this;exact this
 ·have:=fx (N:=lS a) (id:=3) (U:=1) (O:=Z a) (a2:=cB) (o:=a.map (·.2)) (by simp_all[lS,qt]) (by simp)
  rw[kd]at this;exact this
theorem Rr(c:aj)(o:ky c):PR C 127 [.agg (cP V F c)] (.aE [eS aa bX ((kv c).map (·.1)),eS aa cB ((kv c).map (·.2))]):=by
 refine X9.pr ?_;simp only[dS,Q,dZ,eA,a6,aH,fQ,mz,aJ,a8,c3,de,fm,iJ];refine bB (z:=Nat) (λd=>[rE 2 ((c.ah.take d).foldl (pd c) []),rE 3 ((c.ah.take d).foldl (pd c) []),I d]) (λd=>lS ((c.ah.take d).foldl (pd c) [])) (λd=>Z c.ah -d) (λd=>d<=Z c.ah) 0 (by simp) ?_;intro d N J y;simp only[i,G,A,Q,a];refine b (λh=>?_) (λh=>?_)
 ·have h:d<Z c.ah:=by simpa using h
  have q:=y (d+1) h (by omega);simp only[jB h]at q;have M:=o.2.1 _ (bs h);have R:=o.1;have t:=Bu c 100 (c.ah.take d) (λB x=>o.2.1 B (qL x)) [];rw[gb,de]at t;have P:min d (Z c.ah)*100<=100*100:=k9 _ (by omega);generalize(c.ah.take d).foldl (pd c) []=k at*;simp only[aC h (kQ _ _),Q,kR,uc,o4,qg,o5,o6,o7,o8,qh,o9,om,a8]
  refine bB (z:=Nat) (λe=>rE 2 ((c.ah[d].ae.take e).foldl (jD c c.ah[d]) k)::rE 3 ((c.ah[d].ae.take e).foldl (jD c c.ah[d]) k)::I e::aP V c.ah[d]) (λe=>lS ((c.ah[d].ae.take e).foldl (jD c c.ah[d]) k)) (λe=>Z c.ah[d].ae -e) (λe=>e<=Z c.ah[d].ae) 0 (by simp) ?_;intro e O K z;simp only[i,G,o4,qg,o5,o6,o7,o8,qh,o9,om,A,Q,a];refine b (λj=>?_) (λj=>?_)
  ·have j:e<Z c.ah[d].ae:=by simpa using j
   have m:=z (e+1) j (by omega);simp only[jB j]at m;have u:=Ek c c.ah[d] (c.ah[d].ae.take e) k;rw[gb]at u;generalize(c.ah[d].ae.take e).foldl (jD c c.ah[d]) k=l at*;have w:∀g:Lit,(AV.agg [AV.int .i64 g.ak,.str g.ar,I g.aq,eS V cT g.ad,.str g.bind,.str g.af,I g.gN,I g.op,I g.bf])=.agg (a5 V g):=λ_=>rfl;simp only[aC j (h9 _ _),Q,l1,vE,uq,ur,vR,uu,uv,uw,vS,ux,uy,w,bo,uE,vW,j3,true_and]
   have v:(AV.agg [AV.str c.ah[d].ar,I c.ah[d].aq,eS V cT c.ah[d].ad,I c.ah[d].af.ak,.str c.ah[d].af.ar,.str c.ah[d].af.aB,I c.ah[d].af.aQ,eS V (a5 V) c.ah[d].ae,I c.ah[d].bf])=.agg (aP V c.ah[d]):=rfl;rw[v];refine f (Rq c c.ah[d] c.ah[d].ae[e]) (b (λn=>?_) (λn=>?_))
   ·have p:jD c c.ah[d] l c.ah[d].ae[e]=l++[((c.ah[d].aq,c.ah[d].ae[e].aq),pc c.ah[d].ae[e])]:=by rw[jD,if_pos n]
    rw[p]at m;obtain⟨H,r,s⟩:=agN l ((c.ah[d].aq,c.ah[d].ae[e].aq),pc c.ah[d].ae[e]) (by omega);refine bj r (f (Rp c.ah[d].ae[e]) ?_);refine aD (dD:=.sl aa [cB (pc c.ah[d].ae[e])]) rfl (bj s ?_);rw[ba,Q];exact m
   ·have p:jD c c.ah[d] l c.ah[d].ae[e]=l:=by rw[jD,if_neg (by rw[n];decide)]
    rw[p]at m;rw[ba,Q];exact m
  ·have:e=Z c.ah[d].ae:=by simp at j;omega
   subst this;rw[ba,Q,dB];exact q
 ·have:d=Z c.ah:=by simp at h;omega
  subst this;rw[dB];exact agO _
def x5(C:eD):Prop:=∀(c e:Bool)(a:aj),ky a->Z a.ah<=12->∃(b:List (List Nat))(of:Nat->Nat),PR C 105 [.agg (cP c e a)] (.aE [eS aa cN ((List.range (Z a.d)).map of),eS aa cG b])/\rf (Z a.d) (iF a) b of/\Z b<=Z a.d
theorem agP:eY (iF M) U O=HW M U O:=rfl
theorem agQ(a:aj)(i:aG)(e:Lit){of:Nat->Nat}(r:rf (Z a.d) (iF a) im of):
 PR C 107 [.agg (a5 b2 e),.aK ab (cP V F a) 0,.aK ab (aP bp i) 0,.aK ab [eS aa cN ((List.range (Z a.d)).map of)] 0] (.bool (kX a i e)):=by
 refine YK.pr ?_;simp only[nm,Q,a6,aH,fQ,kR,l1,xh,uf,aJ,bo,G,cv];refine f (Rq a i e) (aZ (λb=>f (Rp e) (aZ (λh=>?_) (λh=>bE (by rw[kX,h];simp)))) (λb=>bE (by rw[kX,b]<;>rfl)));have g:=b;simp only[qs,bG]at g;obtain⟨j,l,m⟩:=zi g.1.1;obtain⟨k,n,o⟩:=zi g.1.2;have s:j<Z ((List.range (Z a.d)).map of):=by simpa using m
 have t:k<Z ((List.range (Z a.d)).map of):=by simpa using o
 have q:∀c:Nat,(cN c)[0]?=T (I (c:Int)):=λ_=>rfl;have p:∀c:Nat,Z (cN c)=1:=λ_=>rfl;simp only[l,n,aC s (p _),aC t (p _),Q,aH,q,rD,wH,Fw];refine gU ?_;have u:=r.xK j k m o;rw[kX,b,h,l,n];simp only[cu,ej];grind[agP]
theorem agR(c:aj)(g:aG)(e:List Lit)(o:Sm e){of:Nat->Nat}(n:rf (Z c.d) (iF c) im of):
 PR C 106 [eS ed (a5 b2) e,.fn 107 [] [.aK ab (cP V F c) 0,.aK ab (aP bp g) 0,.aK ab [eS aa cN ((List.range (Z c.d)).map of)] 0]] (I (bN (kX c g) e)):=by
 refine MX.pr rfl ?_;simp only[cz,hZ];simp only[a8,Q];refine et (U:=Z e) (c:=λf=>[I 0,I f]) (λf=>∀j(r:j<Z e),j<f->kX c g e[j]=aa) (by simp) rfl (λf h p l s=>?_) (λp l=>?_)
 ·simp only[i,G,A,Q,a,h,decide_true,aC h (h9 _ _),l1]
  refine a7 (bj (dD:=107) (b:=[.agg (a5 b2 e[f]),.aK ab (cP V F c) 0,.aK ab (aP bp g) 0,.aK ab [eS aa cN ((List.range (Z c.d)).map of)] 0]) rfl ?_);refine⟨.c4,_,_,by decide,?_,agQ (V:=V) (F:=F) (bp:=bp) (b2:=b2) c g e[f] n,(λk=>by cases k),?_⟩
  ·simp[bO.snap]
  ·refine b (λm=>?_) (λm=>?_)
   ·grind[ig,sU]
   ·rw[o.inc h,Q]
    grind
 ·simp only[i,G,A,Q,a,ca,decide_false]
  refine bq (ig ?_);grind[nH,kX]
theorem stO_9{id:Nat}{a:List AV}(e:N[id]?=T (.arr 0 U [bg]))(c:Z bg=U)(b:Z a=U)(f:a.all AV.bP=ab):df U (.ptr id 0 0 0) (.agg a) N=T (N.set id (.arr 0 U [a])):=by
 have d:eV bg 0 a=a:=by simp[eV,c,b]
 have g:(AV.agg a).pl.cells=a:=rfl;simp[df,b,c,e,d];simpa using f
theorem Rs(au:x5 C)(c:aj)(L:ky c)(a0:Z c.ah<=12):PR C 51 [.agg (cP V F c)] (eS aa bX (se c)):=by
 refine YA.pr ?_;obtain⟨bi,of,ak,aB,-⟩:=au V F c L a0;have n:mw 4 (.agg (cP V F c)) []=T (.ptr 0 0 0 0,[.arr 0 4 [cP V F c]]):=rfl;refine bj n (bj rfl ?_);simp only[fm,c3];have a4:∀j:List Obj,j[0]?=T (.arr 0 4 [cP V F c])->aR 4 ab (.ptr 0 0 0 0) j=T (.agg (cP V F c)):=λj k=>kV k rfl rfl;rw[a4 _ rfl,Q];refine f ak ?_;simp only[ef,cv,dk,Q,km,dZ,fm,c3,iJ,de]
 refine aD (k1 (bg:=[.ai]) (N:=[.arr 0 4 [cP V F c],.arr 0 2 [],.arr 0 1 [[.ai]]]) (id:=2) rfl rfl (by omega) rfl rfl) ?_;simp only[eA,dZ,Ka,yk,fm,c3,iJ,de];have M:w [.arr 0 4 [cP V F c],.arr 0 2 [],.arr 0 1 [[eS aa cN ((List.range (Z c.d)).map of)]],.arr 0 2 []] ([(3,.arr 0 2 (([]:List (Int×Int)).map bX))]++[(0,.arr 0 4 [cP V F c]),(2,.arr 0 1 [[eS aa cN ((List.range (Z c.d)).map of)]])]):=by
  refine⟨by simp,λd0 a3=>?_⟩;simp only[fm,c3,cf,iW,or_false]at a3;grind
 have Y:(cP V F c)[3]?=T (eS F (aP V) c.ah):=rfl;rw[eb (N:=[.arr 0 4 [cP V F c],.arr 0 2 [],.arr 0 1 [[eS aa cN ((List.range (Z c.d)).map of)]],.arr 0 2 []]) (id:=0) (U:=4) (bS:=[cP V F c]) rfl,Q,aJ,gm (N:=[.arr 0 4 [cP V F c],.arr 0 2 [],.arr 0 1 [[eS aa cN ((List.range (Z c.d)).map of)]],.arr 0 2 []]) (id:=0) rfl Y,Q,a8,Q]
 have J:bA (.q 3 0 0 0) bX 2 ([]:List (Int×Int)) [(3,.arr 0 2 (([]:List (Int×Int)).map bX))]:=bA.of (o:=([]:List (Int×Int)));generalize ci:[(0,Obj.arr 0 4 [cP V F c]),(2,Obj.arr 0 1 [[eS aa cN ((List.range (Z c.d)).map of)]])]=z at*
 refine bB (z:=Nat×List Obj×AV×aN) (λh=>[h.2.2.1,I h.1]) (λh=>h.2.1) (λh=>Z c.ah -h.1) (λh=>h.1<=Z c.ah/\bA h.2.2.1 bX 2 ((c.ah.take h.1).foldl (qu c) []) h.2.2.2/\w h.2.1 (h.2.2.2++z)) (0,_,.q 3 0 0 0,_) ⟨by simp,J,M⟩ ?_;clear M J;rintro⟨m,j,a9,B⟩ ⟨aQ,l,u⟩ be N;simp only at aQ l u N⊢;simp only[i,G,A,Q,a];refine b (λk=>?_) (λk=>?_)
 ·have k:m<Z c.ah:=by simpa using k
  have x:=λP bb U=>N (m+1,P,bb,U);simp only[jB k]at x;have co:=L.2.1 _ (bs k);have ax:=HX c (c.ah.take m) [];rw[gb,de]at ax;generalize(c.ah.take m).foldl (qu c) []=y at*;simp only[bo,aC k (kQ _ _),kR,Q];generalize c.ah[m]=e at*;have E:=u.alloc (.arr 0 9 [[.str [],I 0,.ai,I 0,.str [],.str [],I 0,.ai,I 0]])
  refine aD (stO_9 (E.get (U:=Z j) (iX:=.arr 0 9 [[.str [],I 0,.ai,I 0,.str [],.str [],I 0,.ai,I 0]]) (by simp)) rfl rfl rfl) ?_;have t:=E.set (.arr 0 9 [aP V e]);generalize(j++[Obj.arr 0 9 [[AV.str [],I 0,.ai,I 0,.str [],.str [],I 0,.ai,I 0]]]).set (Z j) (.arr 0 9 [aP V e])=o at*;generalize Z j=O at*;have v:o[O]?=T (.arr 0 9 [aP V e]):=t.get (by simp)
  have af:o[0]?=T (.arr 0 4 [cP V F c]):=t.get (by grind);have aq:o[2]?=T (.arr 0 1 [[eS aa cN ((List.range (Z c.d)).map of)]]):=t.get (by grind);have ac:(aP V e)[7]?=T (eS V (a5 V) e.ae):=rfl;simp only[eb v,Q,aJ,gm v ac]
  refine ea _ (agR (V:=V) (F:=F) (bp:=V) (b2:=V) (ed:=V) c e e.ae (by grind[Sm]) aB) (.ck cy (.ck (.fn _ _ _ _ _ _ (.nil _) (.ck (.pV _ _ _ _ _ _ _ _ af rfl (bO.snap (by simp))) (.ck (.pV _ _ _ _ _ _ _ _ v rfl (bO.snap (by simp))) (.ck (.pV _ _ _ _ _ _ _ _ aq rfl (bO.snap (by simp))) (.nil _))))) (.nil _))) (.int _ _) ?_;have ar:S ((Z y:Int)<20)=true:=by simp;omega
  simp only[gF,l.ln,A,ar,Q,ba (show m<4611686018427387904 by omega)];have H:w o (B++z):=t.tail;refine aZ (λp=>?_) (λp=>?_)
  ·have p:0<=bN (kX c e) e.ae:=by simpa using p
   rcases nH (kX c e) e.ae with⟨r,K,n,s⟩|⟨n,-⟩
   ·have ad:(a5 V e.ae[r])[8]?=T (I e.ae[r].bf):=rfl
    simp only[G,bZ,if_true,n,aC K (h9 _ _),Q,a6,aH,ad,aJ,uE,vW];obtain⟨id,g,R,W,X⟩:=l.app (bytes:=16) H (90,e.ae[r].bf) rfl (by omega);refine bj W ?_;refine x R _ [(id,Obj.arr g 2 (List.map bX (y++[((90:Int),e.ae[r].bf)])))] ⟨k,?_,X⟩ (by omega);rw[qu,s];exact bA.of
   ·omega
  ·have p:¬0<=bN (kX c e) e.ae:=by simpa using p
   rcases nH (kX c e) e.ae with⟨r,K,n,s⟩|⟨n,s⟩
   ·omega
   ·simp only[G,bZ,cZ,if_false]
    refine x o a9 B ⟨k,?_,H⟩ (by omega);rw[qu,s];exact l
 ·have:m=Z c.ah:=by simp at k;omega
  subst this;rw[dB]at l;rw[l.pl];exact(l.gr u).res (by simp)
section
variable{v:AV}{f:Nat->List Nat}{n:Nat}{P F:aN}{H:List Obj}
end
variable{dH:Nat -> List Nat}
theorem Jd(e:O<U)(f:y<U):((List.range U).map (dt (λh=>h) O y)).Perm (List.range U):=by
 refine(TP ?_ Fz).2 λa=>?_
 ·show List.Pairwise _ _
  rw[TQ];refine anx ?_ (Fz);intro i j k;simp only[dt];split<;>split<;>(try split)<;>(try split)<;>omega
 ·simp only[du,la]
  constructor
  ·grind[dt]
  ·intro g
   by_cases c:a=O
   ·subst c
    refine⟨y,f,?_⟩;unfold dt;split
    ·rename_i b;exact b
    ·rw[if_pos rfl]
   ·by_cases d:a=y
    ·subst d;exact⟨O,e,by unfold dt;rw[if_pos rfl]⟩
    ·exact⟨a,g,by grind[dt]⟩
end AM
end Go
