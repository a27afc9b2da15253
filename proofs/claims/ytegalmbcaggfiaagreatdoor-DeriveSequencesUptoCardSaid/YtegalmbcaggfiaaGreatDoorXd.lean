/- The law DeriveSequencesUptoCardSaid: part 4 of 14 of the proof. No condition. -/
import Derived.Test.YtegalmbcaggfiaaGreatDoorXc
set_option maxRecDepth 100000
open List renaming length->Z,range->ay,filterMap_append->aaY,find?_cons->arP,find?_eq_some_iff_getElem->aaS,length_zip->arS,map_id'->I4,set_append_left->arQ
open Option renaming some->aa,none->ae,bind_some->Ct
open Bool renaming true->ad,false->ab
open Decidable renaming decide->y
open Int renaming ofNat->cu
open BitVec renaming eq_of_getLsbD_eq->aaQ,getLsbD_and->E4,getLsbD_not->arK,getLsbD_one->arJ,getLsbD_or->arL,getLsbD_ushiftRight->arI
open Nat renaming div_eq_of_lt->arG,le_of_lt->aaR,le_total->arE,min_eq_right->arF,pow_le_pow_right->arH
open Option.some renaming inj->yY
namespace Go
namespace AM
open Go.Law
def ml(d:Nat)(c:cA)(a b:Nat):Bool:=(a !=b&&c a b&&c b a)||y (qR d c (λe=>y ((e:Int)∈[(a:Int),(b:Int)]))<0)
def eR(a:bP):Int:=
 if p1 a≠0 then p1 a else
 if((ay (Z a.az)).any λb=>(ay (Z a.az)).any (ml (Z a.az) (dy a) b))=ad then 30 else
 if qR (Z a.az) (dy a) (λ_=>ab)<0 then 30 else 0
def vl(a:bP)(b c:Int):Bool:=eR a==0&&eA a b&&eA a c&&dy a b.toNat c.toNat
def eB(a:bP)(b:List Int):Int:=if eR a≠0 then -1 else if b.all (eA a)=ab then -1 else qR (Z a.az) (dy a) λc=>y ((c:Int)∈b)
def od(a:bP)(b:List Int):Bool:=eR a==0&&(Z b:Int)==Z a.az&&b.all (eA a)&&
 (ay (Z a.az)).all λc=>(ay (Z a.az)).all λd=> !dy a c d||dy a (b.getD c 0).toNat (b.getD d 0).toNat
variable{dL:bP}
theorem zG(h:p1 dL=0):(0<Z dL.az/\Z dL.az<=8)/\dL.eH.all (p0 dL)=true:=by
 grind[p1]
theorem BB(h:eR dL=0):p1 dL=0:=by
 grind[eR]
theorem G6(a b:Int):fQ 1 [(I 0)] 2 [(0,I a),(1,I b)]=aa (eS ab cI [a,b]):=rfl
variable{T:Bool}
theorem Lj(g:bP)(p:lO g):PR C 194 [.agg (bo T g)] (I (eR g)):=by
 refine aen.pr ?_;simp only[mN,O,jh];refine c (aiV g p) ?_;simp only[cx,O];refine b (by simp_all[eR]) (λh=>?_);have o:p1 g=0:=by simpa using h
 obtain⟨u,t⟩:=zG o;rw[eR,if_neg (by simp[o])];refine c (Li g u t p) ?_;simp only[Bx,O];generalize Z g.az=f at*;generalize dy g=j at*;refine eC (U:=f) (c:=λd=>[I 0,I d]) (λd=>∀n,n<d->∀T,T<f->ml f j n T=ab) (by simp) rfl (λd l w q J=>?_) (λw q=>?_);simp only[i,G,A,O,a,l,decide_true];refine a8 ?_
 refine eC (U:=f) (c:=λe=>[I 0,I e]) (λe=>∀T,T<e->ml f j d T=ab) (by simp) rfl (λe m x r L=>?_) (λx r=>?_);simp only[i,G,A,O,a,m,decide_true,wO l,wO m,uh l,uh m,aK,By,zq,cx,G6];refine a8 (eb (M:=[]) (ml f j d e) (λy K=>?_) ?_);have qv:(d !=e&&j d e&&j e d)=ab->cp C 208 [I f,eS ab cI [(d:Int),(e:Int)]] [] λz=>cp C 206 [eM f j,z] [] λB=>bd (aT .s .lss B (I 0)) λD=>y [D] []:=by
  intro k;refine c (U6 [(d:Int),(e:Int)] (by omega) (by simp[Sm]) (by simp;omega)) ?_;refine c (Lg (by omega) _) ?_;simp only[A,O];exact(by grind[ml])
 have v:((d:Int) !=(e:Int))=(d !=e):=by
  rw[iQ];simp;omega
 rw[v];exact aW (λF=>aW (λH=>ei (by grind) (by grind[ml])) (by grind)) (by grind);simp only[G];refine b (λk=>jR ?_) (λk=>?_);grind;rw[a6,O];grind;simp only[i,G,A,O,a,cn,decide_false];refine bz ?_;rw[a6,O];grind;simp only[i,G,A,O,a,cn,decide_false];rw[if_neg];refine bz (aY (rY (by omega) (by omega)) ?_);rw[BA];refine e4 _ (Lg (by omega) λ_=>ab) (.ck eu (.ck (U5 rfl) (.nil _))) (.int _ _) ?_
 simp only[A,O];refine b (by simp) (by simp);grind
variable{f:Int}
theorem mm(h:eA dL f=ad):∃a:Nat,f=a/\a<Z dL.az:=by
 simp only[eA,bc,decide_eq_true_eq]at h;exact⟨f.toNat,by omega,by omega⟩
variable{F:Bool}
theorem U9(d:bP)(f:List Int)(o:lO d)(m:Sm f):PR C 149 [.agg (bo T d),eS F cI f] (I (eB d f)):=by
 apply afL.pr;simp only[mN,O,jh,a1,bj,aK,o3,e];apply c (Lj d o);simp only[cx,O];refine b (by simp_all[eB]) (λh=>?_);have l:eR d=0:=by simpa using h
 rw[eB,if_neg (by simp[l])];let⟨r,q⟩:=zG (BB l);refine eC (U:=Z f) (c:=λj=>[I 0,I j]) (λj=>(f.take j).all (eA d)=ad) (by simp) rfl (λj g n p s=>?_) (λn p=>?_);simp only[i,G,A,O,a,g,decide_true,aF g (jf _),aK,lM];refine a8 (c (GP d _) ?_);simp only[bK,O];refine dw (λk=>jR (by rw[if_pos (yf g k)])) (λk=>?_);rw[m.inc g,O];grind[n5,eA];rw[dU]at n;simp only[i,G,A,O,a,cn,decide_false]
 rw[if_neg (by grind)];refine bz (c (Li d r q o) (c (U6 f (by omega) m λv t=>?_) (c (Lg (by omega) _) (jR rfl))));grind[eA]
theorem Bz(a:bP)(b:lO a):PR C 88 [.agg (bo T a)] (I (eB a [])):=by
 apply afd.pr;simp only[mN,O,jh];refine⟨.df,[.agg (bo T a),eS ab cI []],I (eB a []),by decide,?_,U9 a [] b (by simp[Sm]),by simp,by simp⟩;exact .ck eu (.ck (.aq _ _) (.nil _))
theorem aiW(f:bP)(b:List Int)(E:lO f)(t:Sm b):PR C 252 [.agg (bo T f),eS F cI b] (.bool (od f b)):=by
 refine aft.pr ?_;simp only[mN,O,jh,a1,bj,aK,o3,e,cx];refine eb (M:=[]) (!(eR f==0&&(Z b:Int)==Z f.az)) (λm r=>c (Lj f E) ?_) ?_;simp only[cx,O];exact dV (by grind) (by grind);simp only[G];refine dw (by simp_all[od]) (λh=>?_);have R:od f b=(b.all (eA f)&&(ay (Z f.az)).all λg=>(ay (Z f.az)).all λT=> !dy f g T||dy f (b.getD g 0).toNat (b.getD T 0).toNat):=by
  rw[od,h]<;>rfl
 rw[R];simp only[bc,beq_iff_eq]at h;obtain⟨Q,D⟩:=h;have D:Z b=Z f.az:=by omega
 obtain⟨X,S⟩:=zG (BB Q);refine c (Li f X S E) ?_;refine eC (U:=Z b) (c:=λd=>[ff,I d]) (λd=>(b.take d).all (eA f)=ad) (by simp) rfl (λd k p q r=>?_) (λp q=>?_);simp only[i,G,A,O,a,k,decide_true,aF k (jf _),aK,lM];refine a8 (c (GP f _) ?_);simp only[bK,O];refine dw (by grind[bJ,yf,eA]) (λn=>?_);rw[t.inc k,O];grind[n5,eA];rw[dU]at p;simp only[i,G,A,O,a,cn,decide_false];rw[p,cZ,<-D]
 have B:=λah af=>mm (eL.1 p ah af);refine bz ?_;generalize ak:dy f=l at*;have fail:∀g j,g<Z b->j<Z b->(!l g j||l (b.getD g 0).toNat (b.getD j 0).toNat)=ab->((ay (Z b)).all λg=>(ay (Z b)).all λT=> !l g T||l (b.getD g 0).toNat (b.getD T 0).toNat)=false:=by
  intro g j y z U;rw[<-yV,eL];intro V;have:=V g (by simpa using y);rw[eL]at this;have:=this j (by simpa using z);rw[U]at this;cases this
 refine eC (U:=Z b) (c:=λd=>[ff,I d]) (λd=>∀g,g<d->∀j,j<Z b->(!l g j||l (b.getD g 0).toNat (b.getD j 0).toNat)=ad) (by simp) rfl (λd k Y q r=>?_) (λY q=>?_);simp only[i,G,A,O,a,k,decide_true];refine a8 ?_;refine eC (U:=Z b) (c:=λd=>[ff,I d]) (λm=>∀j,j<m->(!l d j||l (b.getD d 0).toNat (b.getD j 0).toNat)=ad) (by simp) rfl (λm o ac w W=>?_) (λac w=>?_);obtain⟨u,H,J⟩:=B b[d] (bp k)
 obtain⟨v,K,L⟩:=B b[m] (bp o);have J:u<Z b:=by omega
 have L:v<Z b:=by omega
 have gi:b.getD d 0=u:=by rw[pz,bu k];simpa using H
 have x:b.getD m 0=v:=by rw[pz,bu o];simpa using K
 have step:(!l d m||l u v)=ad->bd (aT .s .add (I m) (I 1)) λai=>w [ff,ai] []:=by
  intro n;rw[t.inc o,O];refine W λj z=>?_;by_cases N:j=m;subst N;rw[gi,x];simpa using n;grind
 simp only[i,G,A,O,a,o,decide_true,wO k,aK,By,uh o,zq,aF k (jf _),aF o (jf _),lM,H,K,wO J,uh L,bK,bw];refine a8 (aW (λn=>dw (λP=>bJ (fail d m k o ?_)) (by grind)) (by grind[bz]));rw[gi,x,n];simpa using P;simp only[i,G,A,O,a,cn,decide_false];refine bz ?_;rw[t.inc k,O];refine r λg y=>?_;grind;simp only[i,G,A,O,a,cn,decide_false];refine bz (jj ?_);grind
def W(a:BitVec 8):AV:=.int .u8 (a.toNat:Int)
@[simp] theorem auv(a:BitVec 8):Im (W a):=.int _ _
@[simp] theorem auw(a:BitVec 8):(W a).pl=W a:=rfl
@[simp] theorem auy(a:BitVec 8):(W a).bU=true:=rfl
@[simp] theorem auz(a:BitVec 8):(W a).cells=[W a]:=rfl
theorem w0:AV.int .u8 0=W 0#8:=rfl
theorem w1:AV.int .u8 1=W 1#8:=rfl
theorem Lk(a:BitVec 8):IntKind.u8.wrap (a.toNat:Int)=(a.toNat:Int):=wraps_u8 _ (by omega) (by omega)
theorem Ll(a:BitVec 8):BitVec.ofInt IntKind.u8.bits (a.toNat:Int)=a:=by
 show BitVec.ofInt 8 (a.toNat:Int)=a;grind
theorem BC(bk:BK)(a b:BitVec 8):aT bk .and (W a) (W b)=aa (W (a&&&b)):=by
 simp only[aT,W,if_true,kE,Ll];exact congrArg (λc=>aa (AV.int .u8 c)) (Lk (a&&&b))
theorem Vb(bk:BK)(a b:BitVec 8):aT bk .or (W a) (W b)=aa (W (a|||b)):=by
 simp only[aT,W,if_true,kE,Ll];exact congrArg (λc=>aa (AV.int .u8 c)) (Lk (a|||b))
theorem aiX(bk:BK)(a b:BitVec 8):aT bk .andNot (W a) (W b)=aa (W (a&&&~~~b)):=by
 simp only[aT,W,if_true,kE,Ll];exact congrArg (λc=>aa (AV.int .u8 c)) (Lk (a&&&~~~b))
theorem Lm(bk:BK)(a b:BitVec 8):aT bk .sub (W a) (W b)=aa (W (a -b)):=by
 simp only[aT,W,if_true,kE]
 congr 2
 rw[IntKind.wrap_u8,BitVec.toNat_sub];omega
theorem G7(bk:BK)(a:BitVec 8)(b:Nat):aT bk .shl (W a) (I (b:Int))=aa (W (a<<<b)):=by
 simp only[aT,W];rw[if_neg (by omega)]
 congr 2
 rw[IntKind.wrap_u8,BitVec.toNat_shiftLeft,Nat.shiftLeft_eq];simp only[eN];show(a.toNat:Int)*2^(min b 8)%256=((a.toNat*2^b%2^8:Nat):Int);rcases arE b 8 with h|h;grind;rw[arF h];obtain⟨c,rfl⟩:=Nat.exists_eq_add_of_le h;have d:a.toNat*2^(8+c)%2^8=0:=by
  rw[Nat.pow_add,<-Nat.mul_assoc,Nat.mul_right_comm];exact Nat.mul_mod_left _ _
 omega
theorem DP(bk:BK)(a:BitVec 8)(b:Nat):aT bk .shr (W a) (I (b:Int))=aa (W (a>>>b)):=by
 simp only[aT,W];rw[if_neg (by omega)]
 congr 2
 simp only[eN,BitVec.toNat_ushiftRight,Nat.shiftRight_eq_div_pow];show(a.toNat:Int).fdiv (2^(min b 8))=((a.toNat/2^b:Nat):Int);rcases arE b 8 with h|h;grind;rw[arF h];have c:a.toNat/2^b=0:=arG (jL a.isLt (arH (by omega) h));have d:a.toNat/256=0:=arG a.isLt;grind
theorem BD(bk:BK)(a b:BitVec 8):aT bk .eql (W a) (W b)=aa (.bool (a==b)):=by
 simp only[aT,W,if_true,kE]
 congr 2
 grind[BitVec.eq_of_toNat_eq]
theorem aiY(bk:BK)(a b:BitVec 8):aT bk .neq (W a) (W b)=aa (.bool (!(a==b))):=by
 have:=BD bk a b;simp only[aT,W,if_true,kE,e1,AV.bool.injEq]at this⊢;grind
theorem DQ(a:BitVec 8)(b:Nat):(a>>>b&&&1#8==1#8)=a.getLsbD b:=by
 have h:a>>>b&&&1#8=if a.getLsbD b=ad then 1#8 else 0#8:=by
  apply aaQ;intro d e;rw[E4,arI];by_cases c:d=0;subst c;cases a.getLsbD b<;>simp
  have:(1#8).getLsbD d=false:=by
   rw[arJ];simp[c]
  rw[this,Cv];cases a.getLsbD b<;>simp[this]
 rw[h];cases a.getLsbD b<;>simp
theorem aiZ(a:BitVec 8)(b:Nat):(a>>>b&&&1#8==0#8)= !a.getLsbD b:=by
 have h:a>>>b&&&1#8=if a.getLsbD b=ad then 1#8 else 0#8:=by
  have:=DQ a b;rcases d:a.getLsbD b with _|_;apply aaQ;intro e f;rw[E4,arI];by_cases c:e=0;subst c;simp[d];have:(1#8).getLsbD e=false:=by
   rw[arJ];simp[c]
  rw[this,Cv];simp;rw[d]at this;simpa using this
 rw[h];cases a.getLsbD b<;>simp
def dz(a:Nat->BitVec 8):List AV:=[W (a 0),W (a 1),W (a 2),W (a 3),W (a 4),W (a 5),W (a 6),W (a 7)]
@[simp] theorem auA(a:Nat->BitVec 8):bS (dz a):=by simp[dz]
variable{U:Nat}
theorem Vc(a:Nat->BitVec 8)(h:U<8):(dz a)[U]?=aa (W (a U)):=by
 match U,h with
 |0,_=>rfl
 |1,_=>rfl
 |2,_=>rfl
 |3,_=>rfl
 |4,_=>rfl
 |5,_=>rfl
 |6,_=>rfl
 |7,_=>rfl
def wQ(c:Nat->BitVec 8)(b:Nat)(d:BitVec 8):Nat->BitVec 8:=λa=>if a=b then d else c a
theorem ai0(a:Nat->BitVec 8)(b:BitVec 8)(h:U<8):eV (dz a) U [W b]=dz (wQ a U b):=by
 match U,h with
 |0,_=>rfl
 |1,_=>rfl
 |2,_=>rfl
 |3,_=>rfl
 |4,_=>rfl
 |5,_=>rfl
 |6,_=>rfl
 |7,_=>rfl
def r2(c:Nat)(e:Nat->BitVec 8)(d:cA):Prop:=∀a,a<c->∀b,(e a).getLsbD b=(y (b<c)&&d a b)
def zH(d:Nat)(b:BitVec 8)(c:Nat->Bool):Prop:=∀a,b.getLsbD a=(y (a<d)&&c a)
variable{ct:Nat -> Bool}
theorem ai1{d T:BitVec 8}{h:Nat->Bool}(c:zH U d ct)(e:zH U T h):(d&&&~~~T==0#8)=(ay U).all λa=> !ct a||h a:=by
 rw[iQ,beq_iff_eq,eL];constructor;intro f a b;have b:a<U:=by simpa using b
 have:=congrArg (λg=>BitVec.getLsbD g a) f;simp only[E4,arK,c a,e a,b,decide_true,cZ]at this;rcases l:ct a with _|_;rfl;by_cases j:a<8;grind;have i:=c a;grind;intro k;apply aaQ;intro a b;simp only[E4,arK,c a,e a];grind
variable{bE:List AV}{M:List Obj}
theorem ai2(h:U<8):pN 8 1 (.aH T bE 0) (I U) M=aa (.aH T bE U):=by
 rw[U4 h];simp
variable{cX:cA}
theorem Ln(e:Nat->BitVec 8)(d:BitVec 8)(u:U<=8)(p:r2 U e cX)(l:zH U d ct):PR C 226 [.agg (dz e),W d,I U] (I (pd U cX ct)):=by
 apply ae1.pr;apply aI (tU rfl rfl);refine eC (U:=U) (c:=λc=>[I 0,I c]) (λc=>∀n,n<c->lS U cX ct n=ab) (by simp) rfl (λc g m k t=>?_) (λm k=>?_);have j:lS U cX ct c=(d.getLsbD c&&(d&&&~~~(e c)==0#8)):=by
  rw[lS,ai1 l (λo=>p c g o),l c];simp[g]
 simp only[i,G,A,O,a,g,decide_true,w1,w0,DP,BC,BD,DQ,bw,ai2 (show c<8 by omega),aK,Vc e (show c<8 by omega),aiX];have yes:lS U cX ct c=ad->aM [] .res (AV.pl (I c)) (I (pd U cX ct)):=by grind[jR,G4]
 have no:lS U cX ct c=ab->bd (aT .s .add (I c) (I 1)) λq=>k [I 0,q] []:=λh=>by
  rw[a6,O];grind
 exact a8 (aW (λh=>b (λf=>yes (by rw[j,h,f]<;>rfl)) (λf=>no (by rw[j,f];simp))) (λh=>bz (no (by rw[j,h]<;>rfl))));simp only[i,G,A,O,a,cn,decide_false];exact bz (jR (Lf m))
variable{rz:Nat -> BitVec 8}
theorem vm{id:Nat}(h:M[id]?=aa (.arr 0 8 [dz rz]))(a:U<8):pN 8 1 (.ptr id 0 0 0) (I U) M=aa (.ptr id 0 0 U):=by
 grind[U4,o8]
theorem wR{id:Nat}(h:M[id]?=aa (.arr 0 8 [dz rz]))(a:U<8):aQ 1 ab (.ptr id 0 0 U) M=aa (W (rz U)):=by
 rw[cY h (bE:=dz rz) rfl,Vc rz a]
theorem Lo{id:Nat}{a:BitVec 8}(h:M[id]?=aa (.arr 0 8 [dz rz]))(b:U<8):dp 1 (.ptr id 0 0 U) (W a) M=aa (M.set id (.arr 0 8 [dz (wQ rz U a)])):=by
 have:U+1<=Z (dz rz):=by show U+1<=8;omega
 simp_all[dp,ai0]
theorem zI{id:Nat}(h:M[id]?=aa (.arr 0 8 [dz rz])):aQ 8 ad (.ptr id 0 0 0) M=aa (.agg (dz rz)):=mi h rfl rfl
theorem BE(a:Nat->BitVec 8):dS 8 (.agg (dz a))=aa (dz a):=ji rfl rfl
def z8:List AV:=[.int .u8 0,.int .u8 0,.int .u8 0,.int .u8 0,.int .u8 0,.int .u8 0,.int .u8 0,.int .u8 0]
theorem ai3(o:Nat->BitVec 8)(T:U<=8)(M:r2 U o cX):∃g,r2 U g (kL cX U)/\PR C 323 [.agg (dz o),I U] (.agg (dz g)):=by
 have key:∃q r,C 323 [.agg (dz o),I U] [] q r/\∃g,r2 U g (kL cX U)/\q=.agg (dz g):=by
  apply ad9.hq (Q:=λq r=>∃g,r2 U g (kL cX U)/\q=.agg (dz g));refine aY (dR:=.ptr 0 0 0 0) (oK:=[.arr 0 8 [dz o]]) (by rw[nw,BE]<;>rfl) ?_;apply bG (K:=Nat×(Nat->BitVec 8)) (λd=>I d.1::z8) (λd=>[.arr 0 8 [dz d.2]]) (λd=>U -d.1) (λd=>d.1<=U/\r2 U d.2 (kL cX d.1)) (0,o) ⟨by simp,M⟩;rintro⟨e,z⟩ ⟨L,u⟩ Q D;simp only at L u D⊢;simp only[i,G,A,O,a,z8];refine b (λh=>?_) (λh=>?_)
  have h:e<U:=by simpa using h
  refine bG (K:=Nat×(Nat->BitVec 8)) (λd=>I d.1::z8) (λd=>[.arr 0 8 [dz d.2]]) (λd=>U -d.1) (λd=>d.1<=U/\r2 U d.2 (lB (kL cX e) e d.1 0)) (0,z) ⟨by simp,λc v f=>by rw[u c v f];simp[lB]⟩ ?_;rintro⟨c,k⟩ ⟨v,l⟩ R x;simp only at v l x⊢;simp only[i,G,A,O,a,z8];refine b (λm=>?_) (λK=>?_);have m:c<U:=by simpa using m
  have w:c<8:=by omega
  have B:e<8:=by omega
  have p:[Obj.arr 0 8 [dz k]][0]?=aa (.arr 0 8 [dz k]):=rfl;have H:(k c).getLsbD e=kL cX e c e:=by
   rw[l c m e,U1];simp[h]
  simp only[bw,vm p w,vm p B,wR p w,wR p B,O,w1,DP,BC,BD,DQ,Vb,Lo p w,H,yU,a6 (show c<4611686018427387904 by omega)];have E:∀s:Nat->BitVec 8,(∀j,j≠c->s j=k j)->(∀f,(s c).getLsbD f=(y (f<U)&&te (kL cX e) e c f))->r2 U s (lB (kL cX e) e (c+1) 0):=by
   intro s F S j n f;by_cases t:j=c;grind[lB];rw[F j t,l j n f];simp only[lB];grind
  refine b (λt=>?_) (λt=>?_);refine x (c+1,wQ k c (k c|||k e)) ⟨m,E _ (λj n=>by simp[wQ,n]) λf=>?_⟩ (by simp;omega);simp only[wQ,if_true,arL,l c m f,l e h f,U2];grind[lB,kL,te,decide];refine x (c+1,k) ⟨m,E _ (λ_ _=>rfl) λf=>?_⟩ (by simp;omega);rw[l c m f];grind[lB,kL,te];have:c=U:=by simp at K;omega
  subst this;rw[a6,O];refine D (e+1,k) ⟨h,λj n f=>?_⟩ (by simp;omega);rw[l j n f,Lb];simp[lB,n];have:e=U:=by simp at h;omega
  subst this;rw[zI (rz:=z) rfl,O,BE,O];exact⟨z,u,rfl⟩
 obtain⟨q,r,J,g,N,rfl⟩:=key;exact⟨g,N,_,r,J,eu⟩
theorem ai4(a:d):gJ.contains a=mO a:=rfl
theorem Vd(g:d):PR C 322 [.str g] (.bool (bY g)):=by
 apply agp.pr rfl;simp only[cK,hZ];rcases g with _|⟨e,f⟩;simp only[gT,O];apply eb (M:=[]) ad (by simp);exact a8 (bJ rfl);simp only[zn,O,eX,A,Bm,gT,Kf,Kg,a1];have o:((e::f)==([]:d))=false:=rfl;refine eb (M:=[]) (!(!y (16<(Z (e::f):Int))&& !y ((e.toNat:Int)<97)&& !y (122<(e.toNat:Int))&& !mO (e::f))) (λn j=>?_) ?_;have B:aQ 1 ab (gv G0 2) []=aa (eS ab cS gJ):=rfl;rw[o,B,O]
 refine ei (λ_=>?_) (λh=>by cases h);refine dV (by grind) (λJ=>dV (by grind) (λK=>dV (by grind) (λL=>?_)));refine c (xX gJ (e::f) (by simp[Sm,gJ])) (kB j ?_);grind[ai4];simp only[G];have s:bY (e::f)=(!y (16<(Z (e::f):Int))&& !y ((e.toNat:Int)<97)&& !y (122<(e.toNat:Int))&& !mO (e::f)&&f.all e7):=by
  rw[bY,mP,<-lP,<-lP,<-lP];have:y ((Z (e::f):Int)<=16)=y (Z (e::f)<=16):=by
   rw[iQ];simp;omega
  rw[this];generalize y (Z (e::f)<=16)=u;generalize y ((97:Int)<=e.toNat)=z;generalize y ((e.toNat:Int)<=122)=v;generalize f.all e7=w;generalize mO (e::f)=x;revert u z v w x;decide
 refine dw (by simp_all) (λh=>?_);rw[s,h,cZ];have q:e7 e=true:=by
  simp only[bc,gZ,decide_eq_false_iff_not]at h;exact Dv (by omega) (by omega)
 have r:Sm (e::f):=by
  simp only[bc,gZ,decide_eq_false_iff_not]at h;unfold Sm;omega
 have p:f.all e7=(e::f).all e7:=by rw[oz,q,cZ]
 rw[p];clear p q s h o;generalize e::f=g at*;refine Br (ea:=e7) (Q:=λH t=>aM t .res H (.bool (g.all e7))) r (λk I=>⟨λh F D=>?_,λh E=>?_⟩) (λh=>jj h) (λh=>bJ h);simp only[O,i,G,A,a,h,decide_true,aF h (F9 _),aK,Ga,la,di];refine a8 (eb (M:=[]) (e7 g[k]) (λn j=>?_) ?_);rw[e7,o5]at j;apply eb (M:=[]) (y (97<=(g[k].toNat:Int))&&y ((g[k].toNat:Int)<=122)) (λn j=>aW (by grind) (by grind));simp only[G]
 refine b (by grind) (λl=>?_);rw[l,l3]at j;apply eb (M:=[]) (y (65<=(g[k].toNat:Int))&&y ((g[k].toNat:Int)<=90)) (λn j=>aW (by grind) (by grind));simp only[G];refine b (by grind) (λl=>?_);rw[l,l3]at j;apply eb (M:=[]) (y (48<=(g[k].toNat:Int))&&y ((g[k].toNat:Int)<=57)) (λn j=>aW (by grind) (by grind));simp only[G];refine b (by grind) (λl=>?_);grind;simp only[G];refine b (λl=>?_) D;rw[r.inc h,O]
 exact F l;simp only[O,i,G,A,a];exact bz E (by simp;omega)
theorem Ve:∀b<9,∀a<8,((1#8<<<b) -1#8).getLsbD a=y (a<b):=by decide
variable{K:Type}{a7:K -> List AV}{x:List K}{N:Nat}
theorem G8(e:∀a,Z (a7 a)=U)(f:N<=Z x):fy (.sl U) (eS T a7 x) ae (aa (I N)) M=aa (eS T a7 (x.take N)):=by
 have c:eO (Z x) (Z x) (aa (I (N:Int)))=aa N:=by
  simp only[eO];rw[if_pos (by omega)];simp
 have d:∀a b,eO a b ae=aa b:=λ_ _=>rfl;simp only[fy,eS,kc,c,d,Um e x,if_true,ll,OE]
theorem G9{a:Nat->BitVec 8}{id:Nat}(h:M[id]?=aa (.arr 0 8 [dz rz])):dp 8 (.ptr id 0 0 0) (.agg (dz a)) M=aa (M.set id (.arr 0 8 [dz a])):=by
 have f:(AV.agg (dz a)).pl.cells=dz a:=rfl;have b:Z (dz a)=8:=rfl;have c:Z (dz rz)=8:=rfl;have d:(dz a).all AV.bU=true:=rfl;have e:eV (dz rz) 0 (dz a)=dz a:=rfl;simp[dp,b,c,d,e,h]
theorem Lp{h:Nat->Bool}(f:∀a,a<U->ct a=h a):pd U cX ct=pd U cX h:=by
 have l:∀a,a<U->lS U cX ct a=lS U cX h a:=by
  intro a m;rw[lS,lS,f a m]
  congr 1
  rw[iQ,eL,eL];constructor<;>intro j c d
  rw[<-f c (by simpa using d)];exact j c d;rw[f c (by simpa using d)];exact j c d
 by_cases o:∃a,a<U/\lS U cX ct a=ad;let⟨k,n⟩:∃k,(ay U).find? (lS U cX ct)=aa k:=by
  rcases p:(ay U).find? (lS U cX ct)with _|k;grind;grind
 have b:=yW.1 n;have i:k<U:=by simpa using b.2.1
 rw[G4 i b.1 (λe g=>by simpa using b.2.2 e g),G4 i (by rw[<-l k i];exact b.1) (λe g=>by rw[<-l e (by omega)];simpa using b.2.2 e g)];grind[Lf]
theorem Vf:qR U cX (λ_=>ab)=pd U cX λ_=>true:=
 Lp (by grind[lT])
variable{z:Nat}
theorem ai5(c:N<U)(d:z<U):qR U cX (λb=>y ((b:Int)∈[(N:Int),(z:Int)]))=pd U cX λa=>cX N a&&cX z a:=by
 refine Lp λa _=>?_;grind[lT]
theorem Ha(h:p1 dL=f)(a:f≠0):eR dL=f:=by grind[eR]
theorem ai6(h:p1 dL=0)(a:qR (Z dL.az) (dy dL) (λ_=>ab)<0):eR dL=30:=by
 grind[eR]
theorem ai7(h:p1 dL=0)(a:U<Z dL.az)(b:N<Z dL.az)(c:ml (Z dL.az) (dy dL) U N=ad):eR dL=30:=by
 grind[eR]
theorem chk_0(h:p1 dL=0)(c:¬qR (Z dL.az) (dy dL) (λ_=>ab)<0)(d:∀a,a<Z dL.az->∀b,b<Z dL.az->ml (Z dL.az) (dy dL) a b=ab):eR dL=0:=by
 grind[eR]
def BF(a:bP)(r:AV):Prop:=∃b,r=.aB [.agg (dz b),I (eR a)]/\(eR a=0->r2 (Z a.az) b (dy a))
theorem min2(a b:Int):tO [I a,I b]=aa (I (if b<a then b else a)):=rfl
theorem max2(a b:Int):sR [I a,I b]=aa (I (if a<b then b else a)):=rfl
theorem ai8(c a b:Int):(y ((if b<a then b else a)<0)||y (c<=if a<b then b else a))= !(y (0<=a)&&y (a<c)&&(y (0<=b)&&y (b<c))):=by
 grind
@[simp] theorem ai9(a:Int×Int):dS 2 (.agg (b2 a))=aa (b2 a):=ji rfl rfl
@[simp] theorem aja(a:Int×Int):g (b2 a) 0=I a.1:=rfl
@[simp] theorem ajb(a:Int×Int):g (b2 a) 1=I a.2:=rfl
theorem Vg(d:bP)(co:lO d):∃r,BF d r/\PR C 278 [.agg (bo T d)] r:=by
 have key:∃M N,C 278 [.agg (bo T d)] [] M N/\BF d M:=by
  refine aev.hq (Q:=λM N=>BF d M) ?_;have ret:∀(m:Nat->BitVec 8)(l:Int),eR d=l->(l=0->r2 (Z d.az) m (dy d))->bd (aQ 8 ad (.ptr 0 0 0 0) [.arr 0 8 [dz m]]) λq=>bd (dS 8 q) λj=>BF d (.aB [(AV.agg [g j 0,g j 1,g j 2,g j 3,g j 4,g j 5,g j 6,g j 7]).pl,(I l).pl]):=by
   intro m l aE v;rw[zI (rz:=m) rfl,O,BE,O];exact⟨m,by rw[aE]<;>rfl,λh=>v (aE▸h)⟩
  simp only[mN,O,lA,e3,eU,dK,bj,aK,Qt,o3,F3,e,a1,A,eX,bw];have c1:([AV.int .u8 0,.int .u8 0,.int .u8 0,.int .u8 0,.int .u8 0,.int .u8 0,.int .u8 0,.int .u8 0]:List AV)=dz λ_=>0#8:=rfl;refine c (Vd _) ?_;simp only[bK,O,G,i];have J:p1 d=if(bY d.au&& !y ((Z d.az:Int)<1)&& !y (8<(Z d.az:Int))&& !y (64<(Z d.eH:Int)))=ab then 1 else
   if d.az.all bY=ab then 1 else if d.eH.all (p0 d)=ab then 1 else if((ay (Z d.az)).any (wP d.az))=ad then 5 else 0:=rfl
  have P:(bY d.au&& !y ((Z d.az:Int)<1)&& !y (8<(Z d.az:Int))&& !y (64<(Z d.eH:Int)))=ab->eR d=1:=λh=>by simp_all[Ha]
  refine h7 (λa9=>?_) (λh=>a8 (ret (λ_=>0#8) 1 (P (by rw[h]<;>rfl)) (λh=>by cases h)));refine dV (λh=>a8 (ret (λ_=>0#8) 1 (by grind) (λh=>by cases h))) (λam=>?_);refine dV (λh=>a8 (ret (λ_=>0#8) 1 (P (by rw[h];simp)) (λh=>by cases h))) (λax=>?_);refine b (λh=>ret (λ_=>0#8) 1 (P (by rw[h];simp)) (λh=>by cases h)) (λbe=>?_);rw[a9,am,ax,be,if_neg (by decide)]at J;clear P
  have d2:1<=Z d.az:=by simp at am;omega
  have ac:Z d.az<=8:=by simp at ax;omega
  have bv:=co.2;refine bG (K:=Nat) (λf=>I 0::I f::z8) (λf=>[.arr 0 8 [dz λk=>if k<f then 1#8<<<k else 0#8]]) (λf=>Z d.az -f) (λf=>f<=Z d.az/\(d.az.take f).all bY=ad) 0 (by simp) ?_ rfl (by simp[c1]);rintro f ⟨t,af⟩ F E;simp only[z8,i,G,A,O,a];refine b (λh=>?_) (λh=>?_);have h:f<Z d.az:=by simpa using h
  have K:f<8:=by omega
  simp only[aF h (iR _),O,aK,lN];refine c (Vd _) ?_;simp only[bK,O];refine dw (λl=>ret _ 1 (Ha (by grind[yf]) (by decide)) (λh=>by cases h)) (λl=>?_);rw[w1,G7,O,vm (rz:=λk=>if k<f then 1#8<<<k else 0#8) rfl K,O,Lo (rz:=λk=>if k<f then 1#8<<<k else 0#8) rfl K,O,a6,O];have:=E (f+1) ⟨h,by rw[n5 h,af,l]<;>rfl⟩ (by omega)
  have ce:wQ (λk=>if k<f then 1#8<<<k else 0#8) f (1#8<<<f)=λk=>if k<f+1 then 1#8<<<k else 0#8:=by
   funext k
   simp only[wQ];by_cases S:k=f;grind;rw[if_neg S];by_cases z:k<f;grind;grind
  rw[ce];exact this;have:f=Z d.az:=by simp at h;omega
  subst this;rw[dU]at af;rw[af,if_neg (by decide)]at J;clear E;refine bG (K:=Nat×(Nat->BitVec 8)) (λu=>I 0::I u.1::z8) (λu=>[.arr 0 8 [dz u.2]]) (λu=>Z d.eH -u.1) (λu=>u.1<=Z d.eH/\(d.eH.take u.1).all (p0 d)=ad/\r2 (Z d.az) u.2 (qS vk (d.eH.take u.1))) (0,λk=>if k<Z d.az then 1#8<<<k else 0#8) ⟨by simp,by simp,λk B q=>?_⟩ ?_;grind[qS,vk];rintro⟨p,m⟩ ⟨aR,ah,v⟩ F E;simp only at aR ah v E⊢
  simp only[z8,i,G,A,O,a];refine b (λh=>?_) (λh=>?_);have h:p<Z d.eH:=by simpa using h
  simp only[aF h (tT _),O,Qr,ai9,aja,ajb,min2,max2,A,h0];have x:=ai8 (Z d.az) d.eH[p].1 d.eH[p].2;have aA:p0 d d.eH[p]=(y (0<=d.eH[p].1)&&y (d.eH[p].1<Z d.az)&&(y (0<=d.eH[p].2)&&y (d.eH[p].2<Z d.az))):=rfl;rw[<-aA]at x;have bad:p0 d d.eH[p]=ab->eR d=1:=λl=>Ha (by grind) (by decide);refine dV (λl=>a8 (ret _ 1 (bad (by rw[l]at x;simpa using x.symm)) (λh=>by cases h))) (λS=>?_)
  refine b (λl=>ret _ 1 (bad (by rw[l]at x;simpa using x.symm)) (λh=>by cases h)) (λz=>?_);rw[S,z]at x;have ci:p0 d d.eH[p]=true:=by simpa using x.symm
  have a0:=ci;rw[aA]at a0;simp only[bc,decide_eq_true_eq]at a0;obtain⟨q,L⟩:∃q:Nat,d.eH[p].1=q:=⟨d.eH[p].1.toNat,by omega⟩;obtain⟨Q,a4⟩:∃Q:Nat,d.eH[p].2=Q:=⟨d.eH[p].2.toNat,by omega⟩;have d3:q<Z d.az:=by omega
  have d4:Q<Z d.az:=by omega
  have ai:q<8:=by omega
  simp only[L,a4,w1,G7,vm (rz:=m) (M:=[.arr 0 8 [dz m]]) (id:=0) rfl ai,wR (rz:=m) (M:=[.arr 0 8 [dz m]]) (id:=0) rfl ai,O,Vb,Lo (rz:=m) (M:=[.arr 0 8 [dz m]]) (id:=0) rfl ai,a6 (bv.lt h)];refine E (p+1,wQ m q (m q|||1#8<<<Q)) ⟨h,by grind[n5],?_⟩ (by simp;omega);rw[<-Lh vk h L a4];intro k B j;simp only[wQ,bW];by_cases U:k=q;subst U;rw[if_pos rfl,arL,v k B j];grind;rw[if_neg U,v k B j];simp[U]
  have:p=Z d.eH:=by simp at h;omega
  subst this;rw[dU]at ah v;rw[ah,if_neg (by decide)]at J;clear E;refine eC (U:=Z d.az) (c:=λf=>I 0::I f::z8) (λf=>∀p,p<f->wP d.az p=ab) (by simp) rfl (λf t a2 F Y=>?_) (λa2 F=>?_);simp only[z8,i,G,A,O,a,t,decide_true,aF t (iR _),aK,lN,G8 iR (aaR t)];have d1:wP d.az f=(d.az.take f).contains d.az[f]:=by rw[wP,bu t]
  refine a8 (c (xX _ _ (by grind[Sm])) ?_);refine b (λl=>ret _ 5 (Ha (by
   grind) (by decide)) (λh=>by cases h)) (λl=>?_)
  rw[a6,O];refine Y λp aR=>?_;grind;have V:p1 d=0:=by
   rw[J,if_neg];rw[aiU (λq L=>a2 q (by simpa using L))];decide
  clear J;simp only[z8,i,G,A,O,a,cn,decide_false];refine bz ?_;rw[zI (rz:=m) rfl,O];obtain⟨o,w,ba⟩:=ai3 m ac v;have w:r2 (Z d.az) o (dy d):=w;refine c ba ?_;rw[G9 (rz:=m) rfl,O];simp only[yU];rw[zI (rz:=o) rfl,O,w1,G7,O,Lm,O];have ca:zH (Z d.az) ((1#8<<<(Z d.az)) -1#8) λ_=>true:=by
   intro q;by_cases L:q<8;grind[Ve];grind
  refine c (Ln o _ ac w ca) ?_;simp only[A,O];refine b (λl=>ret o 30 (ai6 V (by rw[Vf];simpa using l)) (λh=>by cases h)) (λl=>?_);have br:¬qR (Z d.az) (dy d) (λ_=>ab)<0:=by rw[Vf];simpa using l
  refine eC (U:=Z d.az) (c:=λf=>I 0::I f::z8) (λf=>∀k,k<f->∀j,j<Z d.az->ml (Z d.az) (dy d) k j=ab) (by simp) rfl (λf t a3 F Y=>?_) (λa3 F=>?_);simp only[z8,i,G,A,O,a,t,decide_true];refine a8 ?_;refine eC (U:=Z d.az) (c:=λf=>I 0::I f::z8) (λn=>∀j,j<n->ml (Z d.az) (dy d) f j=ab) (by simp) rfl (λn D cl R bD=>?_) (λcl R=>?_);have K:f<8:=by omega
  have aZ:n<8:=by omega
  have H:[Obj.arr 0 8 [dz o]][0]?=aa (.arr 0 8 [dz o]):=rfl;have cs:zH (Z d.az) (o f&&&o n) λj=>dy d f j&&dy d n j:=by
   intro q;rw[E4,w f t q,w n D q];grind
  have bi:(o f).getLsbD n=dy d f n:=by rw[w f t n];simp[D]
  have bm:(o n).getLsbD f=dy d n f:=by rw[w n D f];simp[t]
  simp only[z8,i,G,A,O,a,D,decide_true,cx,vm H K,vm H aZ,wR H K,wR H aZ,zI H,DP,BC,BD,DQ,bi,bm];have cc:((f:Int) !=(n:Int))=(f !=n):=by
   rw[iQ];simp;omega
  rw[cc];have yes:ml (Z d.az) (dy d) f n=ad->bd (aa (AV.agg (dz o))) λq=>bd (dS 8 q) λj=>BF d (.aB [(AV.agg [g j 0,g j 1,g j 2,g j 3,g j 4,g j 5,g j 6,g j 7]).pl,(I 30).pl]):=λl=>by
   have:=ret o 30 (ai7 V t D l) (λh=>by cases h);grind[zI]
  simp only[O]at yes;have no:ml (Z d.az) (dy d) f n=ab->bd (aT .s .add (I n) (I 1)) λaj=>R [I 0,aj,.int .u8 0,.int .u8 0,.int .u8 0,.int .u8 0,.int .u8 0,.int .u8 0,.int .u8 0,.int .u8 0] [.arr 0 8 [dz o]]:=λl=>by
   rw[a6,O];refine bD λj X=>?_;grind
  have qv:(f !=n&&dy d f n&&dy d n f)=ab->ml (Z d.az) (dy d) f n=y (pd (Z d.az) (dy d) (λj=>dy d f j&&dy d n j)<0):=λl=>by
   rw[ml,l,ai5 t D]<;>rfl
  have d0:(f !=n&&dy d f n&&dy d n f)=ab->cp C 226 [.agg (dz o),W (o f&&&o n),I (Z d.az)] [.arr 0 8 [dz o]] λc2=>bd (aT .s .lss c2 (I 0)) λdl=>ez dl (bd (dS 8 (.agg (dz o))) λj=>BF d (.aB [(AV.agg [g j 0,g j 1,g j 2,g j 3,g j 4,g j 5,g j 6,g j 7]).pl,(I 30).pl])) (bd (aT .s .add (I n) (I 1)) λaj=>R [I 0,aj,.int .u8 0,.int .u8 0,.int .u8 0,.int .u8 0,.int .u8 0,.int .u8 0,.int .u8 0,.int .u8 0] [.arr 0 8 [dz o]]):=λl=>by
   refine c (Ln o _ ac w cs) ?_;simp only[A,O];exact b (λz=>yes (by rw[qv l,z])) (λz=>no (by rw[qv l,z]))
  simp_all[ml];simp only[z8,i,G,A,O,a,cn,decide_false];refine bz ?_;rw[a6,O];refine Y λk B j X=>?_;grind;simp only[z8,i,G,A,O,a,cn,decide_false];exact bz (ret o 0 (chk_0 V br a3) (λ_=>w))
 obtain⟨M,N,X,B⟩:=key;obtain⟨m,rfl,v⟩:=B;exact⟨_,⟨m,rfl,v⟩,_,N,X,eu⟩
theorem ajc(a:bP)(b:lO a):PR C 266 [.agg (bo T a)] (I (eR a)):=by
 apply ad3.pr;obtain⟨r,⟨d,rfl,_⟩,h⟩:=Vg a b;simp only[mN,O,jh];apply c h;simp only[fH,de,eF,O,BE];simp
theorem Lq(a:bP)(e:lO a):∃b,(eR a=0->r2 (Z a.az) b (dy a))/\PR C 224 [.agg (bo T a)] (.aB [.agg (dz b),.bool (eR a==0)]):=by
 obtain⟨r,⟨b,rfl,d⟩,h⟩:=Vg a e;refine⟨b,d,agh.pr ?_⟩;simp only[mN,O,jh];apply c h;simp only[fH,de,eF,O,BE,di];apply aI (BE b);simp[Im.snap,dz,eR]
theorem Lr(c:bP)(b:List Int)(g:Sm b):PR C 225 [.agg (bo T c),eS F cI b] (.bool (b.all (eA c))):=by
 apply aeq.pr;simp only[mN,O,a1,bj,aK,o3,e];refine Br (Q:=λq m=>aM m .res q (.bool (b.all (eA c)))) g (λj r=>⟨λh t o=>?_,λh p=>?_⟩) (λh=>jj h) (λh=>bJ h);simp only[O,i,G,A,a,h,decide_true,aF h (jf _),aK,lM,h0,bw];have f:∀k l:Int,y (l<=k)= !y (k<l):=by grind
 have n:y (0<=b[j])= !y (b[j]<0):=f _ _;refine a8 (ei (λd=>?_) (λd=>a8 (o (by rw[eA,n,d]<;>rfl))));rw[f];refine dw (by grind[eA]) (λs=>?_);rw[g.inc h,O];grind[eA];simp only[O,i,G,A,a];exact bz p (by simp;omega)
theorem Ls:([AV.int .u8 0,.int .u8 0,.int .u8 0,.int .u8 0,.int .u8 0,.int .u8 0,.int .u8 0,.int .u8 0]:List AV)=dz λ_=>0#8:=rfl
theorem ajd(h:U<=8):zH U ((1#8<<<U) -1#8) λ_=>true:=by
 intro a;grind[Ve]
theorem Vh(d:bP)(f:List Int)(z:lO d)(t:Sm f):PR C 168 [.agg (bo T d),eS F cI f] (I (eB d f)):=by
 apply afM.pr;obtain⟨g,l,w⟩:=Lq d z;simp only[mN,O,jh,lA,e3,eU,dK,a1,bj,aK,o3,e];apply c w;simp only[fH,de,eF,O,Ls];apply aI (G9 rfl);simp only[yU];refine eb (M:=[.arr 0 8 [dz g]]) (!((eR d==0)&&f.all (eA d))) (λL y=>?_) ?_;simp only[bK,O];refine h7 (λn=>c (Lr d f t) ?_) (λn=>kB y (by rw[n]<;>rfl));simp only[bK,O];grind;simp only[G];refine dw (λh=>jR ?_) (λh=>?_);grind[eB,eR]
 simp only[bc,beq_iff_eq]at h;let⟨o,x⟩:=h;have l:=l o;let⟨u,_⟩:=zG (BB o);rw[eB,if_neg (by simp[o]),if_neg (by grind)];simp only[w1,G7,Lm,O];apply bG (K:=Nat×BitVec 8) (λj=>[W j.2,I j.1]) (λ_=>[.arr 0 8 [dz g]]) (λj=>Z f -j.1) (λj=>j.1<=Z f/\zH (Z d.az) j.2 λk=>(f.take j.1).all λm=>dy d m.toNat k) (0,(1#8<<<(Z d.az)) -1#8) ⟨by simp,by simpa using ajd u.2⟩;rintro⟨q,up⟩ ⟨K,p⟩ J E
 simp only[i,G,A,O,a];refine b (λh=>?_) (λh=>?_);have h:q<Z f:=by simpa using h
 let⟨r,B,D⟩:=mm (eL.1 x _ (bp h));have v:r<8:=by omega
 have s:[Obj.arr 0 8 [dz g]][0]?=aa (.arr 0 8 [dz g]):=rfl;simp only[aF h (jf _),O,aK,lM,B,vm s v,wR s v,BC,a6 (t.lt h)];refine E (q+1,up&&&g r) ⟨h,λk=>?_⟩ (by simp;omega);rw[E4,p k,l r D k];have n:=n5 (ea:=λm:Int=>dy d m.toNat k) h;grind;have:q=Z f:=by simp at h;omega
 subst this;rw[dU]at p;rw[zI (rz:=g) rfl,O];refine c (Ln g up u.2 l p) (jR ?_);refine(Lp λk _=>?_).symm;rw[iQ,eL,lT,eL];grind[Int.toNat_natCast,mm,List.all_eq_true]
theorem aje(a:bP)(b d:Int)(e:lO a):PR C 122 [.agg (bo T a),I b,I d] (I (eB a [b,d])):=by
 apply aeT.pr;simp only[mN,O,jh,G6];exact c (Vh a [b,d] e (by simp[Sm])) (by simp)
theorem Hb(a:bP)(b:lO a):PR C 102 [.agg (bo T a)] (I (eB a [])):=by
 apply aek.pr;simp only[mN,O,jh];refine⟨.df,[.agg (bo T a),eS ab cI []],I (eB a []),by decide,?_,Vh a [] b (by simp[Sm]),by simp,by simp⟩;exact .ck eu (.ck (.aq _ _) (.nil _))
theorem ajf(b:bP)(f g:Int)(q:lO b):PR C 276 [.agg (bo T b),I f,I g] (.bool (vl b f g)):=by
 apply afu.pr;obtain⟨l,e,n⟩:=Lq b q;simp only[mN,O,jh,lA,e3,eU,dK,G6];apply c n;simp only[fH,de,eF,O,Ls];apply aI (G9 rfl);simp only[yU,bw,G];refine aW (λd=>c (Lr b [f,g] (by simp[Sm])) (aW (λa=>?_) (λa=>bJ ?_))) (λd=>bJ (by rw[vl,d]<;>rfl));have i:eR b=0:=by simpa using d
 have e:=e i;let⟨r,_⟩:=zG (BB i);simp only[oz,AA,yP,bc]at a;rw[vl,d,a.1,a.2];obtain⟨h,rfl,o⟩:=mm a.1;obtain⟨m,rfl,p⟩:=mm a.2;have k:h<8:=by omega
 have j:[Obj.arr 0 8 [dz l]][0]?=aa (.arr 0 8 [dz l]):=rfl;simp only[vm j k,wR j k,O,w1,DP,BC,BD,DQ];exact iT (by rw[e h o m];simp[p]);grind[vl]
def sa(a:BitVec 8):Nat:=(xV[a.toNat]?.getD 0).toNat
def Vi(c:Nat):Bool:=
 let a:=BitVec.ofNat 8 c
 c==0||(y (sa a<8)&&a.getLsbD (sa a)&&y ((a&&&(a -1#8)).toNat<a.toNat)&&(ay 8).all λb=>(a&&&(a -1#8)).getLsbD b==(a.getLsbD b&& !(b==sa a)))
theorem ajg:(ay 256).all Vi=true:=by decide+kernel
theorem ajh{a:BitVec 8}(h:(a==0#8)=ab):sa a<8/\a.getLsbD (sa a)=ad/\(a&&&(a -1#8)).toNat<a.toNat/\∀b,(a&&&(a -1#8)).getLsbD b=(a.getLsbD b&& !(b==sa a)):=by
 have c:=a.isLt;have:=eL.1 ajg a.toNat (by simpa using c);grind[BitVec.ofNat,Vi]
theorem aji:Z xV=256:=by decide+kernel
theorem ajj(a:BitVec 8)(h:(a==0#8)=ab):PR C 340 [W a] (I (sa a:Nat)):=by
 apply aez.pr rfl;simp only[cK,hZ];have b:a.toNat<Z xV:=by rw[aji];exact a.isLt
 have c:mb (.str xV) (W a)=aa (.int .u8 (xV[a.toNat].toNat:Int)):=by
  simp only[mb,W,AV.pl];rw[if_pos (by omega)];simp[bu b]
 have d:(sa a:Int)=(xV[a.toNat].toNat:Int):=by
  rw[sa,bu b]<;>rfl
 have go:bd (mb (.str xV) (W a)) λe=>bd (pO (.int .i64) e) λf=>aM [] .res (AV.pl f) (I (sa a:Nat)):=by
  apply aI c;simp only[Dl,O,QI];rw[d];simp
 exact go
theorem ajk(l:bP)(b:List Int)(ax:lO l)(N:Sm b):PR C 314 [.agg (bo T l),eS F cI b] (.bool (od l b)):=by
 refine ad7.pr ?_;obtain⟨k,r,U⟩:=Lq (T:=T) l ax;simp only[mN,O,jh,lA,e3,eU,dK,a1,bj,aK,o3,e];refine c U ?_;simp only[fH,de,eF,O,Ls];refine aI (G9 (rz:=λ_=>0#8) (a:=k) rfl) ?_;simp only[yU,bK,O,cx];refine eb (M:=[.arr 0 8 [dz k]]) (!(eR l==0&&(Z b:Int)==Z l.az&&b.all (eA l))) (λbe v=>?_) ?_;refine h7 (λo=>dV (λs=>kB v ?_) (λs=>c (Lr l b N) ?_)) (λo=>kB v (by rw[o]<;>rfl));grind;simp only[bK,O]
 grind;simp only[G];refine dw (by grind[bJ,od]) (λh=>?_);rw[od,h,cZ];simp only[bc,beq_iff_eq]at h;obtain⟨⟨J,z⟩,x⟩:=h;have z:Z b=Z l.az:=by omega
 have r:=r J;obtain⟨am,_⟩:=zG (BB J);have x:=λa2 aZ=>mm (eL.1 x a2 aZ);rw[<-z];rw[<-z]at r am;generalize a5:dy l=n at*;have E:∀f(q:f<Z b),∃m:Nat,b[f]=m/\m<Z b/\b.getD f 0=m:=by
  intro f q;obtain⟨m,w,P⟩:=x b[f] (bp q);exact⟨m,w,by omega,by rw[pz,bu q];simpa using w⟩
 have fail:∀f d,f<Z b->d<Z b->(!n f d||n (b.getD f 0).toNat (b.getD d 0).toNat)=ab->((ay (Z b)).all λf=>(ay (Z b)).all λT=> !n f T||n (b.getD f 0).toNat (b.getD T 0).toNat)=false:=by
  intro f d q ac ah;rw[<-yV,eL];intro ai;have:=ai f (by simpa using q);rw[eL]at this;have:=this d (by simpa using ac);rw[ah]at this;cases this
 have u:[Obj.arr 0 8 [dz k]][0]?=aa (.arr 0 8 [dz k]):=rfl;refine eC (U:=Z b) (c:=λg=>[ff,I g]) (λg=>∀f,f<g->∀d,d<Z b->(!n f d||n (b.getD f 0).toNat (b.getD d 0).toNat)=ad) (by simp) rfl (λg p au R v=>?_) (λau R=>?_);have M:g<8:=by omega
 simp only[i,G,A,O,a,p,decide_true,vm u M,wR u M];refine a8 ?_;refine bG (K:=BitVec 8) (λj=>[ff,W j]) (λ_=>[.arr 0 8 [dz k]]) (λj=>j.toNat) (λj=>(∀d,j.getLsbD d=ad->(k g).getLsbD d=ad)/\∀d,d<Z b->(k g).getLsbD d=ad->j.getLsbD d=ab->(!n g d||n (b.getD g 0).toNat (b.getD d 0).toNat)=ad) (k g) ⟨λ_ h=>h,λd _ K t=>by rw[K]at t;cases t⟩ ?_;rintro j ⟨aA,a9⟩ a4 a0;simp only[i,G,w0,aiY,O]
 refine dw (λo=>?_) (λo=>?_);let⟨ba,X,af,Y⟩:=ajh o;have B:=aA _ X;rw[r g p]at B;simp only[bc,decide_eq_true_eq]at B;let⟨y,aj⟩:=B;let⟨m,w,P,gi⟩:=E g p;let⟨D,aE,aR,H⟩:=E (sa j) y;have Q:m<8:=by omega
 apply c (ajj j o);simp only[aF p (jf _),aF y (jf _),O,aK,lM,w,aE,vm u Q,wR u Q,DP,w1,BC,BD,aiZ,Lm];have ak:(k m).getLsbD D=n m D:=by rw[r m P D];simp[aR]
 rw[ak];refine dw (λs=>bJ (fail g (sa j) p y (by rw[gi,H,aj];simpa using s))) (λs=>?_);refine a0 (j&&&(j -1#8)) ⟨λd L=>?_,λd L K t=>?_⟩ af;grind;rw[Y d]at t;by_cases ec:d=sa j;rw[ec,gi,H];simp[s];grind;rw[N.inc p,O];refine v λf q d L=>?_;by_cases S:f=g;subst S;cases V:(k f).getLsbD d with
 |true=>
  grind
 |false=>
  rw[r f p d]at V;grind
 grind;simp only[i,G,A,O,a,cn,decide_false];refine bz (jj ?_);grind
def ep(b:D)(a:Int):Bool:=y (0<=a)&&y (a<Z b.Q)
def jF(a:Lit):Bool:=a.ax==2||a.ax==4
def nJ(a:D)(r:aD)(b:Lit):Bool:=ep a r.ai&&ep a b.ai&&b.ax !=5
abbrev Edge:=(Int×Int)×Bool
def j3(c:D)(r:aD)(b:List Edge)(a:Lit):List Edge:=if nJ c r a=ad then b++[((r.ai,a.ai),jF a)]else b
def p2(b:D)(a:List Edge)(r:aD):List Edge:=r.ah.foldl (j3 b r) a
def kM(a:D):List Edge:=a.ak.foldl (p2 a) []
theorem Vj(b:D)(a:Int):PR C 178 [.agg (cP T F b),I a] (.bool (ep b a)):=by
 apply aeW.pr;simp only[eP,O,bj,aK,kt,e,a1,h0,A,bw,G];exact aW (by simp_all[ep]) (by grind[bJ,ep])
theorem Vk(a:Lit):PR C 116 [.agg (bg T a)] (.bool (jF a)):=by
 apply afg.pr;simp only[rN,O,bj,aK,tW,e,di,bw,G];exact ei (by simp_all[jF]) (by simp_all[jF])
variable{bC c6:Bool}
theorem Vl(a:D)(r:aD)(d:Lit):PR C 115 [.agg (cP T F a),.agg (aS bC r),.agg (bg c6 d)] (.bool (nJ a r d)):=by
 apply aeP.pr;simp only[eP,o2,rN,O,bj,aK,gS,Bc,tW,zr,e,cx,bw,G];refine c (Vj a _) (aW (λh=>?_) (λh=>bJ (by rw[nJ,h]<;>rfl)));exact c (Vj a _) (aW (λb=>iT (by rw[nJ,h,b]<;>rfl)) (λb=>bJ (by rw[nJ,b];simp)))
def oe(a:Edge):List AV:=b2 a.1
def sb(a:Edge):List AV:=cB a.2
def pe(id:Nat)(a:List Edge):AV:=if Z a=0 then .dG else .q id (Z a -1) 0 (Z a)
def yl(a:List Edge):List Obj:=if Z a=0 then[.arr 0 2 [],.arr 0 1 []]else[.arr 0 2 [],.arr 0 1 [],.arr (Z a -1) 2 (a.map oe),.arr (Z a -1) 1 (a.map sb)]
theorem ajl(a:List Edge)(b:Edge)(e:Z a<1099511627776):∃d,cJ 2 16 (pe 2 a) (.sl ab [b2 b.1]) (yl a)=aa (pe 2 (a++[b]),d)/\cJ 1 1 (pe 3 a) (.sl ab [cB b.2]) d=aa (pe 3 (a++[b]),yl (a++[b])):=by
 by_cases h:Z a=0;have:a=[]:=by grind
 subst this;exact⟨[.arr 0 2 [],.arr 0 1 [],.arr 0 2 [b2 b.1]],rfl,rfl⟩;refine⟨[.arr 0 2 [],.arr 0 1 [],.arr (Z a) 2 ((a++[b]).map oe),.arr (Z a -1) 1 (a.map sb)],?_,?_⟩;simp only[pe,yl,if_neg h,gy,jW];rw[if_neg (by omega)];have c:([.arr 0 2 [],.arr 0 1 [],.arr (Z a -1) 2 (a.map oe),.arr (Z a -1) 1 (a.map sb)]:List Obj)[2]?=aa (.arr (Z a -1) 2 (a.map oe)):=rfl
 simp only[cJ,ij,oz,AA,tT,beq_self_eq_true,yP,if_true,AV.isNil,eZ,if_false,c,kc,true_and,c5,jW];rw[if_pos (by omega),gP (by simp),show Z a -1+1=Z a by omega];simp[oe];simp only[pe,yl,if_neg h,gy,jW];rw[if_neg (by omega),if_neg (by omega)];have c:([.arr 0 2 [],.arr 0 1 [],.arr (Z a) 2 ((a++[b]).map oe),.arr (Z a -1) 1 (a.map sb)]:List Obj)[3]?=aa (.arr (Z a -1) 1 (a.map sb)):=rfl
 simp only[cJ,ij,oz,AA,acP,beq_self_eq_true,yP,if_true,AV.isNil,eZ,if_false,c,kc,true_and,c5,jW];rw[if_pos (by omega),gP (by simp),show Z a -1+1=Z a by omega];simp[sb]
theorem Vm(id:Nat)(a:List Edge):(pe id a).pl=pe id a:=by unfold pe;split<;>rfl
theorem ajm(a:List Edge):aM (yl a) .res (.aB [(pe 2 a).pl,(pe 3 a).pl]) (.aB [eS ab b2 (a.map (·.1)),eS ab cB (a.map (·.2))]):=by
 rw[Vm,Vm];by_cases h:Z a=0;have:a=[]:=by grind
 subst this;exact .aB _ _ _ (.ck (.dG _ _) (.ck (.dG _ _) (.nil _)));simp only[pe,yl,if_neg h];refine .aB _ _ _ (.ck ?_ (.ck ?_ (.nil _)));have:=h8 (M:=[.arr 0 2 [],.arr 0 1 [],.arr (Z a -1) 2 (a.map oe),.arr (Z a -1) 1 (a.map sb)]) (id:=2) (U:=2) (N:=Z a -1) (a7:=b2) (x:=a.map (·.1)) (by simp_all[oe]) (by simp);grind
 have:=h8 (M:=[.arr 0 2 [],.arr 0 1 [],.arr (Z a -1) 2 (a.map oe),.arr (Z a -1) 1 (a.map sb)]) (id:=3) (U:=1) (N:=Z a -1) (a7:=cB) (x:=a.map (·.2)) (by simp_all[sb]) (by simp);grind
theorem Hc(c:D)(r:aD):∀(b:List Lit)(a:List Edge),Z (b.foldl (j3 c r) a)<=Z a+Z b
 |[],a=>by simp
 |x::b,a=>by
  have:=Hc c r b (j3 c r a x);grind[j3]
theorem DR(c:D)(d:Nat):∀(b:List aD)(_:∀r∈b,Z r.ah<=d)(a:List Edge),Z (b.foldl (p2 c) a)<=Z a+Z b*d
 |[],_,a=>by simp
 |r::b,h,a=>by
  have e:=h r (by simp);have f:=Hc c r r.ah a;have g:=DR c d b (by grind) (p2 c a r);grind[p2,List.length_cons,Nat.succ_mul]
def mn(a:D):Prop:=Z a.ak<=100/\(∀r∈a.ak,Z r.ah<=100)/\Z a.Q<=1000
theorem ajn(d:D)(o:mn d):PR C 87 [.agg (cP T F d)] (.aB [eS ab b2 ((kM d).map (·.1)),eS ab cB ((kM d).map (·.2))]):=by
 apply aeN.pr;simp only[eP,O,e3,ft,bj,aK,gS,o4,e,a1,dK,eU,hD];apply bG (K:=Nat) (λf=>[pe 2 ((d.ak.take f).foldl (p2 d) []),pe 3 ((d.ak.take f).foldl (p2 d) []),I f]) (λf=>yl ((d.ak.take f).foldl (p2 d) [])) (λf=>Z d.ak -f) (λf=>f<=Z d.ak) 0 (by simp);intro f M H y;simp only[i,G,A,O,a];refine b (λh=>?_) (λh=>?_);have h:f<Z d.ak:=by simpa using h
 have q:=y (f+1) h (by omega);simp only[mS h]at q;have L:=o.2.1 _ (bp h);have Q:=o.1;have u:=DR d 100 (d.ak.take f) (λr x=>o.2.1 r (sI x)) [];rw[hW,eU]at u;have P:min f (Z d.ak)*100<=100*100:=my _ (by omega);generalize(d.ak.take f).foldl (p2 d) []=k at*;simp only[aF h (mM _ _),O,nA,xR,vb,wG,vc,vd,ve,vf,wH,vg,ud]
 apply bG (K:=Nat) (λg=>pe 2 ((d.ak[f].ah.take g).foldl (j3 d d.ak[f]) k)::pe 3 ((d.ak[f].ah.take g).foldl (j3 d d.ak[f]) k)::I g::aS T d.ak[f]) (λg=>yl ((d.ak[f].ah.take g).foldl (j3 d d.ak[f]) k)) (λg=>Z d.ak[f].ah -g) (λg=>g<=Z d.ak[f].ah) 0 (by simp);intro g N J z;simp only[i,G,vb,wG,vc,vd,ve,vf,wH,vg,ud,a1,A,O,a];refine b (λj=>?_) (λj=>?_);have j:g<Z d.ak[f].ah:=by simpa using j
 have m:=z (g+1) j (by omega);simp only[mS j]at m;have v:=Hc d d.ak[f] (d.ak[f].ah.take g) k;rw[hW]at v;generalize(d.ak[f].ah.take g).foldl (j3 d d.ak[f]) k=l at*;simp only[aF j (jB _ _),O,o1,bj,aK,zr,e,bw,wM,yj]
 have w:(AV.agg [AV.str d.ak[f].au,I d.ak[f].ai,eS T cT d.ak[f].af,I d.ak[f].aj.ax,.str d.ak[f].aj.au,.str d.ak[f].aj.aE,I d.ak[f].aj.aR,eS T (bg T) d.ak[f].ah,I d.ak[f].ba])=.agg (aS T d.ak[f]):=rfl;rw[w];refine c (Vl d d.ak[f] d.ak[f].ah[g]) (b (λn=>?_) (λn=>?_));have p:j3 d d.ak[f] l d.ak[f].ah[g]=l++[((d.ak[f].ai,d.ak[f].ah[g].ai),jF d.ak[f].ah[g])]:=by rw[j3,if_pos n]
 rw[p]at m;let⟨E,s,t⟩:=ajl l ((d.ak[f].ai,d.ak[f].ah[g].ai),jF d.ak[f].ah[g]) (by omega);refine aY s (c (Vk d.ak[f].ah[g]) ?_);refine aI (dR:=.sl ab [cB (jF d.ak[f].ah[g])]) rfl (aY t ?_);rw[a6,O];exact m;have p:j3 d d.ak[f] l d.ak[f].ah[g]=l:=by rw[j3,if_neg (by rw[n];decide)]
 rw[p]at m;rw[a6,O];exact m;have:g=Z d.ak[f].ah:=by simp at j;omega
 subst this;rw[a6,O,dU];exact q;have:f=Z d.ak:=by simp at h;omega
 subst this;rw[dU];exact ajm _
theorem Lt(b:N<U)(c:z<U):PR C 41 [eM U cX,I N,I z] (.bool (N==z||cX N z&&cX z N)):=by
 apply aee.pr;have d:((N:Int)==(z:Int))=(N==z):=by rw[iQ];simp;omega
 simp only[di,O,d,wO b,wO c,aK,By,uh b,uh c,zq,bw,G];exact ei (λh=>aW (λa=>iT (by rw[h,a]<;>rfl)) (λa=>bJ (by rw[h,a]<;>rfl))) (λh=>jj (by rw[h]<;>rfl))
def og(id:Nat)(a:List K):AV:=if Z a=0 then .dG else .q id (Z a -1) 0 (Z a)
def oh(b:List Obj)(d:Nat)(c:K->List AV)(a:List K):List Obj:=if Z a=0 then b else b++[.arr (Z a -1) d (a.map c)]
variable{dR:K}{iy:AV -> List Obj -> Prop}
theorem Vn{bytes:Nat}(c:Z (a7 dR)=U)(b:(Z x+1)*bytes<=2^47)(a:iy (og (Z M) (x++[dR])) (oh M U a7 (x++[dR]))):
 cj (cJ U bytes (og (Z M) x) (.sl ab [a7 dR]) (oh M U a7 x)) iy:=by
 by_cases h:Z x=0;have:x=[]:=by grind
 simp_all[og,oh,cJ,ij,AV.isNil];refine aY ?_ a;have d:(M++[Obj.arr (Z x -1) U (x.map a7)])[Z M]?=aa (.arr (Z x -1) U (x.map a7)):=by simp
 grind[og,oh,cJ,ij,AV.isNil]
theorem ajo(id:Nat)(a:List K):(og id a).pl=og id a:=by unfold og;split<;>rfl
theorem ajp(b:∀a∈x,bS (a7 a)):aM (oh M U a7 x) .res (og (Z M) x).pl (eS ab a7 x):=by
 rw[ajo];by_cases h:Z x=0;have:x=[]:=by grind
 subst this;exact .dG _ _;simp_all[og,oh,h8]
@[simp] theorem ajq(id:Nat)(a:List K)(b:List Obj):gk .sl (og id a) b=aa (I (Z a)):=by
 unfold og;split;rename_i h;simp[gk,h];rfl
variable{V:D}
theorem BG:∀a∈kM V,(0<=a.1.1/\a.1.1<Z V.Q)/\0<=a.1.2/\a.1.2<Z V.Q:=by
 have e:∀(r:aD)(b:List Lit)(c:List Edge),(∀a∈c,(0<=a.1.1/\a.1.1<Z V.Q)/\0<=a.1.2/\a.1.2<Z V.Q)->∀a∈b.foldl (j3 V r) c,(0<=a.1.1/\a.1.1<Z V.Q)/\0<=a.1.2/\a.1.2<Z V.Q:=by
  intro r b;induction b with
  |nil=>grind
  |cons i b d=>
   intro c h;refine d _ λa g=>?_;grind[j3,nJ,ep]
 have f:∀(b:List aD)(c:List Edge),(∀a∈c,(0<=a.1.1/\a.1.1<Z V.Q)/\0<=a.1.2/\a.1.2<Z V.Q)->∀a∈b.foldl (p2 V) c,(0<=a.1.1/\a.1.1<Z V.Q)/\0<=a.1.2/\a.1.2<Z V.Q:=by
  intro b;induction b with
  |nil=>grind
  |cons r b d=>exactλc h=>d _ (e r r.ah c h)
 exact f V.ak [] (by simp)
def p3(a:D):cA:=qS (λ_ _=>ab) ((kM a).map (·.1))
def c4(a:D):cA:=kL (p3 a) (Z a.Q)
variable{iz:List Obj -> Prop}{E:AV}
theorem ajr(a:iz M):G3 E (I ((0:Nat):Int)) M iz:=by
 unfold G3;apply bG (K:=Unit) (λ_=>[I 0]) (λ_=>M) (λ_=>0) (λ_=>True) () trivial;intro _ _ b _;simp only[G,A,O];exact bz a
theorem Hd(f:D)(p:mn f):PR C 40 [.agg (cP T F f)] (eM (Z f.Q) (c4 f)):=by
 refine ae8.pr ?_;have U:=BG (V:=f);simp only[eP,O,e3,ft,bj,aK,gS,kt,e,a1,dK];have ax:=p.2.2;have V:Z (kM f)<=10000:=by
  have:=DR f 100 f.ak p.2.1 [];have am:Z f.ak*100<=100*100:=my _ p.1;simp only[eU]at this;unfold kM;omega
 have L:=ajn (T:=T) (F:=F) f p;rw[c4,p3];generalize Z f.Q=l at*;generalize kM f=j at*;refine bG (K:=Nat×List Obj) (λd=>[ui d.1,I d.1]) (λd=>d.2) (λd=>l -d.1) (λd=>d.1<=l/\zE l (λ_ _=>ab) d.1 d.2) (0,[.arr 0 1 []]) ⟨by simp,⟨by simp,λh=>absurd h (by simp),λv P=>absurd P (by simp)⟩⟩ ?_;rintro⟨g,r⟩ ⟨W,s⟩ ai t;simp only at W s t⊢;simp only[O,i,G,A,a];refine b (λh=>?_) (λh=>?_)
 have h:g<l:=by simpa using h
 refine aY (rY (by omega) (by omega)) ?_;rw[BA];obtain⟨k,J,K⟩:=s.grow (by omega);refine aI (dR:=.sl ab [[.q (Z r) 0 0 l]]) rfl (aY J ?_);rw[a6,O];exact t (g+1,k) ⟨h,K⟩ (by simp;omega);have:g=l:=by simp at h;omega
 subst this;clear t;refine c L ?_;simp only[fH,de,eF,O,a1];by_cases y:g=0;subst y;have N:j=[]:=by
  cases j with
  |nil=>rfl
  |cons w j=>grind
 subst N;refine bG (K:=Unit) (λ_=>[I 0]) (λ_=>r) (λ_=>0) (λ_=>True) () trivial ?_;intro _ _ H _;simp only[G,A,O,nj,eU];refine bz ?_;refine ajr (iz:=λk=>aM k .res (ui 0).pl (eM 0 _)) ?_;exact .dG _ _;have Y:=s.U8 (by omega);have ac:ui g=.q 2 (g -1) 0 g:=by rw[ui,if_neg y]
 rw[ac];have M:∀n∈j.map (λaf:Edge=>af.1),(0<=n.1/\n.1<(g:Int))/\0<=n.2/\n.2<(g:Int):=by
  intro n R;obtain⟨w,S,rfl⟩:=cy.1 R;exact U w S
 have au:Z (j.map (·.1))<=10000:=by simpa using V
 generalize j.map (·.1)=m at*;refine bG (K:=Nat×List Obj) (λd=>[I d.1]) (λd=>d.2) (λd=>Z m -d.1) (λd=>d.1<=Z m/\j2 d.2 2 (g -1) mj g (qS (λ_ _=>ab) (m.take d.1))) (0,r) ⟨by simp,Y.congr λv T _ _=>by simp[qS]⟩ ?_;rintro⟨u,ah⟩ ⟨X,o⟩ H B;simp only at X o B⊢;simp only[O,G,A,a];refine b (λh=>?_) (λh=>?_);have h:u<Z m:=by simpa using h
 have z:=M _ (bp h);simp only[aF h (tT _),O,iaaO_0,iaaO_1,aK,FZ,F0,fW,e];refine U7 o z.1 z.2 λk x=>?_;rw[a6,O];refine B (u+1,k) ⟨h,?_⟩ (by simp;omega);grind[Lh];have:u=Z m:=by simp at h;omega
 subst this;rw[dU]at o;exact U3 (by omega) o λk x=>x.snap
def He(c:D)(a b:Nat):Bool:=a==b||c4 c a b&&c4 c b a
def lf(b:D)(r:aD)(a:Lit):Bool:=nJ b r a&&jF a&&He b r.ai.toNat a.ai.toNat
def p4(b:D)(a:List (Int×Int))(r:aD):List (Int×Int):=match r.ah.find? (lf b r)with|aa c=>a++[(90,c.ba)]|ae=>a
def qT(a:D):List (Int×Int):=a.ak.foldl (p4 a) []
theorem Lu(c:D):∀(b:List aD)(a:List (Int×Int)),Z (b.foldl (p4 c) a)<=Z a+Z b
 |[],a=>by simp
 |r::b,a=>by
  have:=Lu c b (p4 c a r);grind[p4]
theorem BH(h:ep V f=ad):∃a:Nat,f=a/\a<Z V.Q:=by
 simp only[ep,bc,decide_eq_true_eq]at h;exact⟨f.toNat,by omega,by omega⟩
theorem ajs(d:D)(z:mn d)(az:Z d.ak<=20):PR C 65 [.agg (cP T F d)] (eS ab b2 (qT d)):=by
 refine afC.pr ?_;simp only[eP,O,e3,ft,bj,aK,gS,o4,e,a1,dK];refine c (Hd d z) ?_;refine bG (K:=Nat) (λg=>[og 1 ((d.ak.take g).foldl (p4 d) []),I g]) (λg=>oh [.arr 0 2 []] 2 b2 ((d.ak.take g).foldl (p4 d) [])) (λg=>Z d.ak -g) (λg=>g<=Z d.ak) 0 (by simp) ?_;intro g ac V R;simp only[i,G,A,O,a,bw,ajq];refine aW (λh=>?_) (λh=>bz ?_);have h:g<Z d.ak:=by simpa using h
 have S:=R (g+1) h (by omega);simp only[mS h]at S;have Y:=z.2.1 _ (bp h);have J:=Lu d (d.ak.take g) [];rw[hW,eU]at J;generalize(d.ak.take g).foldl (p4 d) []=l at*;have H:y ((Z l:Int)<20)=true:=by simp;omega
 refine a8 ?_ H;simp only[aF h (mM _ _),O,nA,xR,vb,wG,vc,vd,ve,vf,wH,vg,ud];generalize d.ak[g]=r at*;refine eC (U:=Z r.ah) (c:=λf=>og 1 l::I f::aS T r) (λf=>∀j(n:j<Z r.ah),j<f->lf d r r.ah[j]=ab) (by simp) rfl (λf w x v N=>?_) (λx v=>?_);simp only[i,G,vb,wG,vc,vd,ve,vf,wH,vg,ud,a1,A,O,a,w,decide_true,aF w (jB _ _),o1,xQ,wz,wA,yd,wB,wC,wD,ye,wE,wF]
 have K:(AV.agg [AV.str r.au,I r.ai,eS T cT r.af,I r.aj.ax,.str r.aj.au,.str r.aj.aE,I r.aj.aR,eS T (bg T) r.ah,I r.ba])=.agg (aS T r):=rfl;have L:(AV.agg [I r.ah[f].ax,.str r.ah[f].au,I r.ah[f].ai,eS T cT r.ah[f].af,.str r.ah[f].bind,.str r.ah[f].aj,I r.ah[f].iC,I r.ah[f].op,I r.ah[f].ba])=.agg (bg T r.ah[f]):=rfl;rw[K,L]
 have no:lf d r r.ah[f]=ab->bd (aT .s .add (I f) (I 1)) λU=>v (og 1 l::U::aS T r) (oh [.arr 0 2 []] 2 b2 l):=λp=>by
  rw[a6,O];refine N λj n am=>?_;grind
 refine a8 (c (Vl d r r.ah[f]) (aW (λm=>c (Vk r.ah[f]) (aW (λt=>?_) (λt=>bz (no (by rw[lf,t];simp))))) (λm=>bz (no (by rw[lf,m]<;>rfl)))));have q:=m;simp only[nJ,bc]at q;obtain⟨o,k,P⟩:=BH q.1.1;obtain⟨u,B,Q⟩:=BH q.1.2;have X:lf d r r.ah[f]=(o==u||c4 d o u&&c4 d u o):=by
  rw[lf,m,t,k,B,He];simp
 rw[k,B];refine c (Lt (cX:=c4 d) P Q) ?_;refine b (λp=>?_) (λp=>?_);rw[wM,O,yj,O];refine Vn (M:=[.arr 0 2 []]) (a7:=b2) rfl (by omega) ?_;rw[a6,O];have M:r.ah.find? (lf d r)=aa r.ah[f]:=by
  rw[aaS];exact(by grind)
 simp_all[p4];rw[<-k];exact no (by grind);simp only[i,G,vg,a1,A,O,a,cn,decide_false];refine bz ?_;rw[a6,O];have M:r.ah.find? (lf d r)=none:=by
  rw[E5];intro o k;obtain⟨j,n,rfl⟩:=kf.1 k;rw[x j n n];decide
 grind[p4];have:g=Z d.ak:=by simp at h;omega
 subst this;rw[dU];exact ajp (M:=[.arr 0 2 []]) (by simp)
def cm(a b:S):Int:=if a.ai<b.ai then -1 else if b.ai<a.ai then 1 else jP a.af b.af
def vn(op:Int)(a b:aG):Bool:=if op=1 then nD a b==0 else if op=2 then nD a b !=0 else if op=3 then y (nD a b<0)else y (nD a b<=0)
theorem Hf(a d:S)(f:dX a.af):PR C 39 [.agg (cF T a),.agg (cF F d)] (I (cm a d)):=by
 apply adR.pr;simp only[pR,O,bj,aK,qI,u1,e,A,eX];refine b (by simp_all[cm]) (λh=>?_);rw[cm,if_neg (by grind)];refine b (by simp_all) (λh=>?_);rw[if_neg (by grind)];exact c (mg _ _ f) (jR rfl)
def uj(d:List Int)(args:List aG)(a:Nat):Bool:=match args[a]?,d[a]? with|aa b,aa c=>nE b&&b.ty==c|_,_=>ad
def vo(d:D)(c:cO)(a:S):Bool:=if c.of<0 then a.aj== -1 else match d.aw[c.of.toNat]? with|ae=>ab|aa b=>y (0<=a.aj)&&(y (a.aj<Z b.az)&&a.aj !=eB b [])
def vq(c:D)(b:cO)(a:S):Bool:=(Z a.af:Int)==Z b.aZ&&(ay (Z a.af)).all (uj b.aZ a.af)&&vo c b a
def qU(b:D)(a:S):Bool:=y (0<=a.ai)&&match b.Q[a.ai.toNat]? with|ae=>ab|aa c=>vq b c a
def kN(a:D):Prop:=∀b∈a.Q,b.of<Z a.aw
theorem zJ(h:N<U)(a:ct N=ab):(ay U).all ct=false:=by
 grind
theorem ajt(j:D)(d:S)(t:eI j)(J:kN j)(E:Sm d.af):PR C 66 [.agg (cP T F j),.agg (cF bC d)] (.bool (qU j d)):=by
 apply aeJ.pr;simp only[eP,pR,O,bj,aK,rP,kt,qI,u1,u2,e,a1,A,h0,bw,G];refine dV (λh=>a8 (bJ ?_)) (λh=>?_);grind[decide,qU];have w:y (0<=d.ai)=true:=by simp at h⊢;omega
 rw[qU,w,cZ];let⟨m,B⟩:∃m:Nat,d.ai=m:=⟨d.ai.toNat,by grind⟩;simp only[B,eN];refine dV (λh=>a8 (bJ ?_)) (λh=>?_);grind;have o:m<Z j.Q:=by simp at h;omega
 rw[bu o];have n:=bp o;have N:=t.s7 _ n;have M:=J _ n;simp only[aF o (jg _ _),O,bj,aK,wi,e,a1,cx,wg,xP,rS,rT,rU,s9,rV,rW,rX];generalize j.Q[m]=f at*;refine b (λh=>bJ ?_) (λh=>?_);grind[vq];have L:Z d.af=Z f.aZ:=by simp at h;omega
 have z:vq j f d=((ay (Z d.af)).all (uj f.aZ d.af)&&vo j f d):=by
  rw[vq];have:((Z d.af:Int)==Z f.aZ)=true:=by simpa using h
  rw[this]<;>rfl
 rw[z];refine eC (U:=Z d.af) (c:=λg=>ff::I g::bO T f) (λg=>(ay g).all (uj f.aZ d.af)=ad) (by simp) rfl (λg l s u H=>?_) (λs u=>?_);have r:g<Z f.aZ:=by omega
 have x:uj f.aZ d.af g=(nE d.af[g]&&d.af[g].ty==f.aZ[g]):=by
  rw[uj,bu l,bu r]
 simp only[i,G,rS,rT,rU,s9,rV,rW,rX,A,O,a,l,decide_true,aF l (sY _),aF r (jf _),u0,bj,aK,Dd,lM,e,cx];refine a8 (c (wo _) ?_);simp only[bK,O];refine h7 (λv=>?_) (λk=>a8 (bJ (by rw[zJ l (by rw[x,k]<;>rfl)]<;>rfl)));refine b (λk=>bJ ?_) (λk=>?_);grind;have:(d.af[g].ty==f.aZ[g])=true:=by simpa using k
 rw[E.inc l,O];exact H (by grind);rw[s,cZ,vo];simp only[i,G,rS,rT,rU,s9,rV,rW,rX,A,O,a,cn,decide_false];refine bz (b (λk=>?_) (λk=>?_));rw[if_pos (by grind)];simp only[di,O];simp;rw[if_neg (by grind)];let⟨q,n⟩:∃q:Nat,f.of=q:=⟨f.of.toNat,by grind⟩;have p:q<Z j.aw:=by omega
 simp only[n,eN,bu p,aF p (kH _ _),O,bj,aK,o3,jh,a1,A,e];refine aW (λv=>aW (λK=>?_) (by grind[bJ])) (by grind[bJ]);apply c (Bz _ (t.aN _ (bp p)));simp only[cx,O];simp_all
def vr(a:List S):Nat->Bool
 |0=>ad
 |j+1=>match a[j]?,a[j+1]? with|aa b,aa c=>y (cm b c<0)|_,_=>ad
def mT(d:D)(a:List S)(b:Nat):Bool:=(match a[b]? with|aa c=>qU d c|ae=>ad)&&vr a b
def hP(b:D)(a:List S):Bool:=(ay (Z a)).all (mT b a)
theorem Vo(e:D)(b:List S)(v:eI e)(u:kN e)(o:Sm b)(l:∀r∈b,dX r.af):PR C 24 [.agg (cP T F e),eS c6 (cF bC) b] (.bool (hP e b)):=by
 apply aeB.pr;simp only[eP,O,a1,gS];refine eC (U:=Z b) (c:=λd=>[ff,I d]) (λd=>(ay d).all (mT e b)=ad) (by simp) rfl (λd f p k z=>?_) (λp k=>?_);simp only[i,G,A,O,a,f,decide_true,aF f (fR _ _),kr,eX];have t:mT e b d=(qU e b[d]&&vr b d):=by rw[mT,bu f]
 have no:mT e b d=ab->aM [] .res (AV.pl ff) (.bool (hP e b)):=λg=>bJ (zJ f g);have yes:mT e b d=ad->bd (aT .s .add (I d) (I 1)) λx=>k [ff,x] []:=λg=>by
  rw[o.inc f,O];grind
 refine a8 (eb (M:=[]) (!mT e b d) (λB n=>?_) ?_);rw[t]at n;apply c (ajt e b[d] v u (l _ (bp f)).1);simp only[bK,O];refine h7 (λq=>?_) (by grind);rcases d with _|j;refine aW (λh=>by simp at h) (λ_=>kB n (by rw[q]<;>rfl));have m:j<Z b:=by omega
 have w:aT .s .sub (I ((j+1:Nat):Int)) (I 1)=aa (I (j:Int)):=by
  rw[nB (by omega) (by have:=o.lt f;omega)];simp
 refine aW (λ_=>?_) (λh=>by simp at h);rw[w,O];simp only[aF m (fR _ _),O,kr];apply c (Hf b[j] b[j+1] (l _ (bp m)));simp only[h0,O];grind[vr];simp only[G];exact dw no yes;simp only[i,G,A,O,a,cn,decide_false];exact bz (jj p)
def zV:aG:=⟨0,0,[]⟩
def cD(b:bb)(a:aJ):aG×Bool:=if a.aE=[]then(a.const,ad)else match b.aA.findIdx? (λd=>d==a.aE)with|aa c=>(b.bF.getD c zV,ad)|ae=>(zV,ab)
def j4(a:bb)(b:List aJ):List aG:=b.map λc=>(cD a c).1
structure TO{α:Type}(c:α->α->Int):Prop where
 eq:∀a b,c a b=0<->a=b
 uk:∀a b,c a b<0<->0<c b a
 trans:∀a b d,c a b<0->c b d<0->c a d<0
theorem TO.int:TO fA:=by
 refine⟨λa b=>xW,λa b=>?_,λa b c=>?_⟩;grind[fA];grind[fA]
def mU(b:K->K->Int):List K->List K->Int
 |[],[]=>0
 |[],_::_=> -1
 |_::_,[]=>1
 |a::d,c::e=>if b a c=0 then mU b d e else b a c
theorem TO.lex{e:K->K->Int}(h:TO e):TO (mU e):=by
 have heq:∀c a,mU e c a=0<->c=a:=by
  intro c;induction c with
  |nil=>intro a;cases a<;>simp[mU]
  |cons d c l=>
   intro a;rcases a with _|⟨b,a⟩;simp[mU];simp only[mU,Cs];split;rename_i f;rw[l,<-h.eq d b];simp[f];rename_i f;rw[<-h.eq d b];simp[f]
 have p:∀c a,mU e c a<0<->0<mU e a c:=by
  intro c;induction c with
  |nil=>intro a;cases a<;>simp[mU]
  |cons d c l=>
   intro a;rcases a with _|⟨b,a⟩;simp[mU];simp only[mU];have q:e d b=0<->e b d=0:=by rw[h.eq,h.eq];exact eq_comm
   by_cases f:e d b=0;grind;rw[if_neg f,if_neg (λo=>f (q.2 o))];exact h.uk d b
 refine⟨heq,p,?_⟩;intro c;induction c with
 |nil=>
  intro a j g i;rcases a with _|⟨b,a⟩;omega;rcases j with _|⟨k,j⟩;grind;simp[mU]
 |cons d c l=>
  intro a j g i;rcases a with _|⟨b,a⟩;simp[mU]at g;rcases j with _|⟨k,j⟩;simp[mU]at i;simp only[mU]at g i⊢;by_cases m:e d b=0;have:=(h.eq d b).1 m;grind;rw[if_neg m]at g;by_cases n:e b k=0;have:=(h.eq b k).1 n;grind;rw[if_neg n]at i;have:=h.trans d b k g i;omega
theorem TO.of{d e:K->K->Int}(h:TO d)(c:∀a b,e a b=d a b):TO e:=
 ⟨λa b=>by rw[c];exact h.eq a b,λa b=>by rw[c,c];exact h.uk a b,λa b f=>by rw[c,c,c];exact h.trans a b f⟩
theorem TO.byte:TO (λa b:UInt8=>fA a.toNat b.toNat):=
 ⟨(by grind[xW,Gx]),λa b=>TO.int.uk _ _,λa b c=>TO.int.trans _ _ _⟩
theorem Vp:∀b c:d,nZ b c=mU (λa e:UInt8=>fA a.toNat e.toNat) b c
 |[],[]=>rfl
 |[],_::_=>rfl
 |_::_,[]=>rfl
 |a::b,e::c=>by
  rw[nZ,mU,Vp b c];simp[xW,Gx]
theorem TO.str:TO nZ:=TO.byte.lex.of Vp
theorem TO.val:TO nD:=by
 have q:∀j w:aG,nD j w=0<->j=w:=by
  rintro⟨a,b,k⟩ ⟨c,d,l⟩;simp only[nD,aG.mk.injEq];split;grind[xW];rename_i h;have h:a=c:=by simpa using h
  split;grind[xW];rename_i i;have i:b=d:=by simpa using i
  rw[TO.str.eq];simp[h,i]
 have i:∀j w:aG,nD j w<0<->0<nD w j:=by
  rintro⟨a,b,k⟩ ⟨c,d,l⟩;simp only[nD];by_cases f:a=c;subst f;by_cases g:b=d;subst g;simp only[ne_eq,not_true_eq_false,if_false];exact TO.str.uk k l;have s:¬d=b:=λh=>g h.symm;simp only[ne_eq,not_true_eq_false,if_false,g,s,not_false_eq_true,if_true];exact TO.int.uk b d;have r:¬c=a:=λh=>f h.symm;simp only[ne_eq,f,r,not_false_eq_true,if_true];exact TO.int.uk a c
 refine⟨q,i,?_⟩;rintro⟨a,b,k⟩ ⟨c,d,l⟩ ⟨o,p,t⟩;simp only[nD];intro h e;by_cases f:a=c;subst f;rw[if_neg (by simp)]at h;by_cases m:a=o;subst m;rw[if_neg (by simp)]at e⊢;by_cases g:b=d;subst g;rw[if_neg (by simp)]at h;by_cases n:b=p;subst n;rw[if_neg (by simp)]at e⊢;exact TO.str.trans _ _ _ h e;omega;rw[if_pos g]at h;by_cases n:d=p;grind;rw[if_pos n]at e;have:=TO.int.trans _ _ _ h e;grind[Tx];omega
 rw[if_pos f]at h;by_cases m:c=o;grind;rw[if_pos m]at e;have:=TO.int.trans _ _ _ h e;grind[Tx]
theorem Vq:∀b c:List aG,jP b c=mU nD b c
 |[],[]=>rfl
 |[],_::_=>rfl
 |_::_,[]=>rfl
 |a::b,d::c=>by rw[jP,mU,Vq b c]
theorem TO.aB:TO jP:=TO.val.lex.of Vq
theorem oi(a b:S):cm a b=0<->a.ai=b.ai/\a.af=b.af:=by
 unfold cm;split;simp;omega;split;simp;omega;rw[TO.aB.eq];grind
theorem wS(a b:S):cm a b<0<->0<cm b a:=by
 unfold cm;by_cases h:a.ai<b.ai;omega;by_cases c:b.ai<a.ai;omega;rw[if_neg h,if_neg c,if_neg c,if_neg h];exact TO.aB.uk _ _
theorem zK(b c d:S):cm b c<0->cm c d<0->cm b d<0:=by
 unfold cm;intro h a;split at h;omega;split at h;omega;split at a;omega;split at a;omega;rw[if_neg (by omega),if_neg (by omega)];exact TO.aB.trans _ _ _ h a
def gm(a:List S):Prop:=∀b c(d:b<Z a)(e:c<Z a),b<c->cm a[b] a[c]<0
variable{X:List S}
theorem aju(h:∀b,b<Z X->vr X b=ad):gm X:=by
 intro b a i c j;induction a with
 |zero=>omega
 |succ a f=>
  have d:a<Z X:=by omega
  have e:=h (a+1) c;simp only[vr,bu d,bu c,decide_eq_true_eq]at e;by_cases g:b=a;grind;exact zK _ _ _ (f d (by omega)) e
def e6(b:Int)(args:List aG)(a:S):Bool:=a.ai==b&&y (a.af=args)
theorem Hg(b:Int)(args:List aG)(a:S)(c:Int):e6 b args a=ad<->cm a ⟨b,args,c⟩=0:=by
 rw[oi];simp[e6]
variable{b3:S}{b9:Int}
theorem DS{args:List aG}(h:cm b3 ⟨f,args,b9⟩≠0):e6 f args b3=false:=by
 grind[Hg]
theorem sd(b:K->Bool)(a:List K):(∃i,∃h:i<Z a,b1 b a=i/\a.find? b=aa a[i])\/(b1 b a= -1/\a.find? b=ae):=by
 rcases h:a.findIdx? b with _|i;grind[b1];let⟨c,e,d⟩:=qm.1 h;refine .inl ⟨i,c,by rw[b1,h],?_⟩;grind[List.find?_eq_some_iff_getElem]
def Lv(a:D)(c:Int):Int:=match a.Q[c.toNat]? with|aa d=>(match a.aw[d.of.toNat]? with|aa b=>eB b []|ae=> -1)|ae=> -1
def ym(d:D)(c:List S)(a:Int)(args:List aG):Int:=match c.find? (e6 a args)with|aa b=>b.aj|ae=>Lv d a
def se(a:D)(e b c:Int):Bool:=match a.Q[e.toNat]? with|aa f=>(match a.aw[f.of.toNat]? with|aa d=>vl d b c|ae=>ab)|ae=>ab
def sf(d:D)(c:List S)(b:bb)(a:Lit):Bool:=
 if a.ax=1 then(match c.find? (e6 a.ai (j4 b a.af))with
  |ae=>ab
  |aa e=>a.bind==[]||(match b.aw.findIdx? (λg=>g==a.bind)with|aa f=>b.az.getD f 0==e.aj|ae=>ab))
 else if a.ax=2 then(c.find? (e6 a.ai (j4 b a.af))).isNone
 else if(a.ax==3||a.ax==4)=ad then se d a.ai a.iC (ym d c a.ai (j4 b a.af))==(a.ax==3)
 else vn a.op ((j4 b a.af).getD 0 zV) ((j4 b a.af).getD 1 zV)
def jS(a:bb)(c:d):Int:=match a.aw.findIdx? (λe=>e==c)with|aa b=>a.az.getD b 0|ae=>0
def sg(c:D)(r:aD)(a:bb):Int:=
 if r.aj.ax=1 then r.aj.aR else if r.aj.ax=2 then jS a r.aj.aE else
 if r.aj.ax=3 then(match c.aO[r.aj.aR.toNat]? with|aa b=>b.gQ.getD (jS a r.aj.aE).toNat 0|ae=>0)else -1
def kO(b:D)(r:aD)(a:bb):S:=⟨r.ai,j4 a r.af,sg b r a⟩
def jm(c:List S)(a:Int):Nat:=Z (c.filter λb=>b.ai==a)
def wT(a:List S)(b:Nat):Bool:=match a[b]? with|aa c=>y (2000<(jm (a.take (b+1)) c.ai:Int))|ae=>ab
def iL(a:List S):Bool:=(ay (Z a)).any (wT a)
theorem Vt(a:List S)(b:Int):jm a b<=Z a:=pA _ _
theorem Lw(h:U<Z X)(a:Int):jm (X.take (U+1)) a=jm (X.take U) a+if X[U].ai=a then 1 else 0:=by
 grind[List.take_succ_eq_append_getElem,jm,List.length_append]
def j5(c d:List Obj):Prop:=∀(a:Nat)(b:Obj),c[a]?=aa b->d[a]?=aa b
theorem j5.app(a b:List Obj):j5 a (a++b):=λd e c=>by
 grind
def BI(c:List Obj)(d:AV)(b:List S):Prop:=∃id a,d=.q id a 0 (Z b)/\c[id]?=aa (.arr a 3 (b.map (cF ab)))
theorem BI.pl(h:BI M E X):E.pl=E:=by
 obtain⟨id,a,rfl,b⟩:=h;rfl
def jG(b:List S)(a:S):Nat->Nat
 |0=>0
 |k+1=>match b[k]? with|aa c=>if 0<cm c a then jG b a k else k+1|ae=>k+1
def jH(a:List S)(b:S):List S:=a.take (jG a b (Z a))++b::a.drop (jG a b (Z a))
def dB(a:D)(c:Int):Option bP:=match a.Q[c.toNat]? with|aa b=>if b.of<0 then ae else a.aw[b.of.toNat]?|ae=>ae
def da(f:D)(b:List S)(a:S):List S:=
 match dB f a.ai with
 |aa e=>if a.aj=eB e []then b else(match b.findIdx? (e6 a.ai a.af)with
  |aa d=>(match b[d]? with|aa c=>b.set d ⟨c.ai,c.af,eB e [c.aj,a.aj]⟩|ae=>b)
  |ae=>jH b a)
 |ae=>if(b.findIdx? (e6 a.ai a.af)).isSome=ad then b else jH b a
theorem Vu(b:List S)(a:S):∀c,jG b a c<=c
 |0=>by simp[jG]
 |k+1=>by
  unfold jG;have:=Vu b a k;grind
variable{b0:List (List AV)}
theorem Vv{id len:Nat}(h:M[id]?=aa (.arr U N b0))(e:z<=len):fy (.sl N) (.q id U 0 len) ae (aa (I z)) M=aa (.q id U 0 z):=by
 have b:eO len len (aa (I (z:Int)))=aa z:=by
  simp only[eO];rw[if_pos (by omega)];simp
 have c:∀d a,eO d a ae=aa a:=λ_ _=>rfl;simp[fy,b,c,h]
theorem Hh{id len:Nat}(h:M[id]?=aa (.arr U N b0))(e:z<=len):fy (.sl N) (.q id U 0 len) (aa (I z)) ae M=aa (.q id U z (len -z)):=by
 have b:eO len 0 (aa (I (z:Int)))=aa z:=by
  simp only[eO];rw[if_pos (by omega)];simp
 have c:∀d a,eO d a ae=aa a:=λ_ _=>rfl;simp[fy,b,c,h]
theorem BJ{id off len:Nat}(h:M[id]?=aa (.arr U N b0))(a:off+len<=Z b0):ij M N (.q id U off len)=aa ((b0.drop off).take len):=by
 grind[ij]
theorem ajy(a:List S)(b:S):Z (jH a b)=Z a+1:=by
 grind[jH]
theorem Lx{id:Nat}(h:M[id]?=aa (.arr U 3 (X.map (cF ab))))(a:N<Z X):
 dp 1 (.ptr id U N 2) (I f) M=aa (M.set id (.arr U 3 ((X.set N ⟨X[N].ai,X[N].af,f⟩).map (cF ab)))):=by
 have d:(X.map (cF ab))[N]?=aa (cF ab X[N]):=by simp[a]
 have c:(X.map (cF ab)).set N (eV (cF ab X[N]) 2 [I f])=(X.set N ⟨X[N].ai,X[N].af,f⟩).map (cF ab):=by
  rw[List.map_set]<;>rfl
 have b:Z (cF ab X[N])=3:=rfl;simp[dp,h,b,a,c]
theorem nK:gm X<->X.Pairwise λf g=>cm f g<0:=by
 rw[arN];exact⟨λh d e a b c=>h d e a b c,λh d e a b c=>h d e a b c⟩
theorem Ly(e:gm X)(f:∀i∈X,cm i b3≠0):∀c,c<=Z X->(∀a(b:a<Z X),c<=a->0<cm X[a] b3)->
 (∀a(b:a<Z X),a<jG X b3 c->cm X[a] b3<0)/\∀a(b:a<Z X),jG X b3 c<=a->0<cm X[a] b3
 |0,_,h=>by grind[jG]
 |k+1,n,h=>by
  have d:k<Z X:=by omega
  rw[jG,bu d];simp only;split;rename_i g;refine Ly e f k (by omega) λa b l=>?_;grind;rename_i g;have o:=f _ (bp d);refine⟨λa b m=>?_,h⟩;by_cases j:a=k;grind;exact zK _ _ _ (e a k b d (by omega)) (by omega)
theorem ajB(d:gm X)(i:∀c∈X,cm c b3≠0):gm (jH X b3):=by
 let⟨j,k⟩:=Ly d i (Z X) (c5 _) (by omega);have l:=nK.1 d;rw[nK,jH];generalize jG X b3 (Z X)=n at*;rw[arO,AE];refine⟨(by grind),⟨λc a=>?_,by grind⟩,λc a o b=>?_⟩;obtain⟨g,e,rfl⟩:=kf.1 a;simp_all[OF,wS];obtain⟨g,e,rfl⟩:=kf.1 a;rw[hW]at e;have f:cm X[g] b3<0:=by grind
 rw[E6];rcases b5.1 b with rfl|b;exact f;obtain⟨m,h,rfl⟩:=kf.1 b;rw[q5]at h;rw[OF];apply zK _ _ _ f;simp_all[wS]
theorem zM{a:S}:a∈jH X b3<->a=b3\/a∈X:=by
 rw[jH,dm,b5];grind[List.mem_of_mem_take,List.mem_of_mem_drop,List.take_append_drop,jG]
theorem ajC{b a c:S}(d:b3.ai=a.ai)(e:b3.af=a.af)(f:b.ai=c.ai)(g:b.af=c.af):cm b3 b=cm a c:=by
 grind[cm]
theorem ajD(c:gm X)(h:U<Z X)(g:Int):gm (X.set U ⟨X[U].ai,X[U].af,g⟩):=by
 intro e f a b d;rw[aaB]at a b;have:=c e f a b d;grind[ajC]
theorem ajE(h:X.findIdx? (e6 b3.ai b3.af)=ae):∀a∈X,cm a b3≠0:=by
 grind[List.findIdx?_eq_none_iff,oi,e6]
theorem ajF(a:gm X):gm (da V X b3):=by
 unfold da;grind[dB,ajB,ajE,e6,List.findIdx?_eq_some_iff_getElem,List.getElem?_eq_getElem,ajD]
theorem LA{b:Int->List aG->Prop}(h:∀a∈X,b a.ai a.af)(d:b b3.ai b3.af):∀a∈da V X b3,b a.ai a.af:=by
 have e:∀a∈jH X b3,b a.ai a.af:=λa c=>by
  rcases zM.1 c with rfl|c;exact d;exact h a c
 unfold da;grind
theorem Vw:Z (da V X b3)<=Z X+1:=by
 unfold da;grind[dB,ajy,e6,List.findIdx?_eq_some_iff_getElem,List.getElem?_eq_getElem,List.length_set]
def dq(c:D)(a b:List S):List S:=b.foldl (da c) a
theorem BL{c:D}:∀(b a:List S),Z (dq c a b)<=Z a+Z b
 |[],a=>by simp[dq]
 |f::b,a=>by
  have d:=BL (c:=c) b (da c a f);grind[Vw,dq,List.length_cons]
theorem Vx(b:bP)(a:Nat):dy b a a=true:=by
 rw[dy,DL];exact .hv a a (by simp[qS,vk])
theorem LC(c:N<Z dL.az)(a:dy dL U N=ad)(b:dy dL N z=ad):dy dL U z=true:=by
 rw[dy,DL]at*;exact .via U N z a c b
theorem LD(h:eR dL=0)(a:U<Z dL.az)(b:N<Z dL.az):ml (Z dL.az) (dy dL) U N=false:=by
 grind[eR,ml,dy,ay]
theorem Hj(h:eR dL=0)(a:U<Z dL.az)(b:N<Z dL.az)(c:dy dL U N=ad)(d:dy dL N U=ad):U=N:=by
 have:=LD h a b;grind[ml]
theorem ajG(h:0<=pd U cX ct):∃a:Nat,pd U cX ct=a/\a<U/\ct a=ad/\∀b,b<U->ct b=ad->cX a b=true:=by
 unfold pd at h⊢;rcases c:(ay U).find? (lS U cX ct)with _|a;grind;rw[yW]at c;grind[lS]
theorem LF(h:0<=qR U cX ct):∃b:Nat,qR U cX ct=b/\b<U/\(∀a,a<U->ct a=ad->cX a b=ad)/\∀c,c<U->(∀a,a<U->ct a=ad->cX a c=ad)->cX b c=true:=by
 let⟨b,d,e,f,g⟩:=ajG h;have up:∀c,lT U cX ct c=ad<->∀a,a<U->ct a=ad->cX a c=true:=by
  intro c;simp only[lT,eL,iw,hX,gZ];constructor;grind;grind
 exact⟨b,d,e,(up b).1 f,by grind⟩
theorem BM(h:U<Z dL.az):eA dL (U:Int)=true:=by
 grind[eA]
theorem Vy(h:eR dL=0)(d:U<Z dL.az)(e:N<Z dL.az):
 ∃a:Nat,eB dL [(U:Int),(N:Int)]=a/\a<Z dL.az/\dy dL U a=ad/\dy dL N a=true:=by
 have b:=LD h d e;unfold ml at b;simp only[I0,decide_eq_false_iff_not,aaT]at b;let⟨a,g,f,c,_⟩:=LF b.2;refine⟨a,?_,f,c U d (by simp),c N e (by simp)⟩;simp_all[eB,BM]
theorem Vz(h:eR dL=0):∃a:Nat,eB dL []=a/\a<Z dL.az/\∀b,b<Z dL.az->dy dL a b=true:=by
 have f:=h;unfold eR at h;rw[if_neg (by omega)]at h;split at h;cases h
 split at h;cases h
 rename_i g;let⟨a,d,c,_,e⟩:=LF (by omega:0<=qR (Z dL.az) (dy dL) λ_=>ab);refine⟨a,?_,c,by grind⟩;grind[eB,decide]
def zN(a:bP)(b:Nat):Nat:=Z ((ay (Z a.az)).filter λc=>dy a c b)
theorem ajH(a:bP)(b:Nat):zN a b<=Z a.az:=by
 grind[dy,ay,zN]
variable{ea:K -> Bool}
theorem LG{b:K->Bool}:∀{a:List K}(_:∀x∈a,ea x=ad->b x=ad),Z (a.filter ea)<=Z (a.filter b)
 |[],_=>c5 _
 |x::a,h=>by
  have e:=LG (a:=a) λf d=>h f (by simp[d]);simp only[EY];rcases c:ea x with _|_;cases b x<;>simp<;>omega
  simp[h x (by simp) c,e]
theorem VA{d:K->Bool}:∀{a:List K}{b:K}(_:∀x∈a,ea x=ad->d x=ad),b∈a->d b=ad->ea b=ab->Z (a.filter ea)<Z (a.filter d)
 |x::a,b,h,c,f,e=>by
  simp only[EY];rcases b5.1 c with rfl|c;have:=LG (a:=a) λi g=>h i (by simp[g]);grind;have j:=VA (by grind) c f e;grind
theorem ajI(h:eR dL=0)(a:U<Z dL.az)(b:N<Z dL.az)(c:dy dL U N=ad)(d:U≠N):zN dL U<zN dL N:=by
 refine VA (b:=N) (by grind[LC]) (by grind) (Vx dL N) ?_;grind[dy,absurd,Hj]
def lU(b:D):Prop:=∀a∈b.aw,eR a=0
theorem vt(h:dB V f=aa dL):dL∈V.aw:=by
 grind[dB]
def gn(c:D)(a:S):Prop:=∀b,dB c a.ai=aa b->eA b a.aj=ad
def vu(c:D)(a:S):Nat:=1+match dB c a.ai with|aa b=>zN b a.aj.toNat|ae=>0
def lV(b:D)(a:List S):Nat:=(a.map (vu b)).sum
theorem ajJ:lV V (jH X b3)=lV V X+vu V b3:=by
 grind[vu,jG,List.take_append_drop,lV,jH]
theorem VB{g:S->Nat}:∀{a:List S}{b:Nat}(h:b<Z a)(c:S),((a.set b c).map g).sum+g a[b]=(a.map g).sum+g c
 |y::a,0,_,c=>by simp;omega
 |y::a,b+1,h,c=>by
  have d:b<Z a:=by simpa using h
  have:=VB (g:=g) d c;grind
theorem zO(x:lU V)(o:∀b∈X,gn V b)(n:gn V b3):
 (da V X b3=X\/lV V X<lV V (da V X b3))/\∀b∈da V X b3,gn V b:=by
 have A:lV V X<lV V (jH X b3):=by rw[ajJ];unfold vu;omega
 have B:∀b∈jH X b3,gn V b:=λb c=>by
  rcases zM.1 c with rfl|c;exact n;exact o b c
 unfold da;rcases g:dB V b3.ai with _|l;grind;simp only;split;grind;cases t:X.findIdx? (e6 b3.ai b3.af)with
 |none=>grind
 |some a=>
  let⟨f,p,_⟩:=qm.1 t;simp only[bu f];have w:X[a].ai=b3.ai:=by
   simp only[e6,bc,beq_iff_eq]at p;exact p.1
  have h:dB V X[a].ai=aa l:=by rw[w];exact g
  let⟨i,e,k⟩:=mm (o _ (bp f) l h);let⟨y,r,s⟩:=mm (n l g);have m:=x l (vt g);let⟨d,u,v,q,z⟩:=Vy m k s;rw[e,r,u];refine⟨?_,λb c=>?_⟩;by_cases j:i=d;refine .inl ?_;have:(⟨X[a].ai,X[a].af,(d:Int)⟩:S)=X[a]:=by
   rw[<-j,<-e]
  simp_all;refine .inr ?_;have F:=VB (g:=vu V) f ⟨X[a].ai,X[a].af,(d:Int)⟩;have E:=ajI m k v q j;have w1:vu V X[a]=1+zN l i:=by unfold vu;rw[h,e]<;>rfl
  have H:vu V ⟨X[a].ai,X[a].af,(d:Int)⟩=1+zN l d:=by unfold vu;rw[h]<;>rfl
  unfold lV;omega;rcases OG c with c|rfl;grind;intro G C;grind[dB,Option.some.inj,BM]
theorem Hk(e:lU V):∀(bs:List S){a:List S},(∀c∈a,gn V c)->(∀c∈bs,gn V c)->
 (dq V a bs=a\/lV V a<lV V (dq V a bs))/\∀c∈dq V a bs,gn V c
 |[],a,h,_=>⟨.inl rfl,h⟩
 |b::bs,a,h,d=>by
  have f:=zO e h (d b (by simp));have i:=Hk e bs f.2 λc g=>d c (by simp[g]);grind[dq]
theorem ajL(d:∀a∈X,0<=a.ai/\a.ai<U)(c:∀b:Nat,b<U->jm X b<=2000):Z X<=2000*U:=by
 have key:∀(U:Nat)(X:List S),(∀a∈X,0<=a.ai/\a.ai<U)->(∀b:Nat,b<U->jm X b<=2000)->Z X<=2000*U:=by
  intro U;induction U with
  |zero=>
   intro X d _;rcases X with _|⟨f,i⟩;simp;have:=d f (by simp);omega
  |succ U e=>
   intro X d c;have g:=e (X.filter λa=> !(a.ai==(U:Int))) (by grind) (λb k=>by
    have:=c b (by omega);refine iP ?_ this;simp_all[jm,I1,LG])
   have h:=c U (by omega);have j:Z X=Z (X.filter λa=>a.ai==(U:Int))+Z (X.filter λa=> !(a.ai==(U:Int))):=by
    clear g h e d c;induction X with
    |nil=>rfl
    |cons f i e=>simp only[EY];grind
   grind[jm]
 simp_all
theorem VC(h:iL X=ab)(d:Int):jm X d<=2000:=by
 have g:∀b,b<Z X->wT X b=false:=by
  intro b i;rcases e:wT X b with _|_;rfl;have:iL X=true:=by
   rw[iL,I2];exact⟨b,by simpa using i,e⟩
  rw[this]at h;cases h
 have key:∀a,a<=Z X->jm (X.take a) d<=2000:=by
  intro a;induction a with
  |zero=>grind[jm]
  |succ a j=>
   intro l;have c:a<Z X:=by omega
   have k:=j (by omega);rw[Lw c];split;rename_i e;have f:=g a c;rw[wT,bu c]at f;grind[Lw];omega
 grind[List.take_length]
theorem ajM(b:∀a∈X,ep V a.ai=ad)(h:iL X=ab):Z X<=2000*Z V.Q:=
 by simp_all[ajL,ep,bc,decide_eq_true_eq,VC]
theorem LH(b:∀c∈V.aw,Z c.az<=U):∀a:List S,lV V a<=(U+1)*Z a
 |[]=>by simp[lV]
 |f::a=>by
  have d:=LH b a;grind[vu,ajH,vt,lV,List.length_cons,Nat.mul_add]
def gL(a:bb)(b:aJ)(c:aG):bb:=⟨a.aA++[b.aE],a.bF++[c],a.aw,a.az⟩
def gM:bb->List aJ->List aG->Option bb
 |e,[],_=>aa e
 |_,_::_,[]=>ae
 |e,a::b,c::vs=>if(cD e a).2=ad then(if(cD e a).1=c then gM e b vs else ae)else gM (gL e a c) b vs
def kv(a:bb)(b:Lit)(c:Int):bb:=if b.bind=[]then a else⟨a.aA,a.bF,a.aw++[b.bind],a.az++[c]⟩
def j6(c:D)(a:Lit)(b:S):Bool:=b.ai==a.ai&&(a.ax !=3||se c a.ai a.iC b.aj)
def kP(a:bb)(d:Lit):bb:=
 match d.af with
 |[b,c]=>if(d.ax==5&&d.op==1)=ad then
  (if((cD a b).2&& !(cD a c).2)=ad then gL a c (cD a b).1 else if((cD a c).2&& !(cD a b).2)=ad then gL a b (cD a c).1 else a)else a
 |_=>a
def qV(c:bb)(b:Lit)(a:S):Option bb:=(gM c b.af a.af).map λd=>kv d b a.aj
def gb(d:D)(c:List S)(b:bb)(a:Lit):List bb:=
 if(a.ax==1||a.ax==3)=ad then(c.filter (j6 d a)).filterMap (qV b a)
 else if sf d c (kP b a) a=ad then[kP b a]else[]
def tf(f:D)(d:List S)(b:List Lit)(a:List bb)(e:Nat):List bb:=match b[e]? with|aa g=>a.flatMap λc=>gb f d c g|ae=>a
def e0:bb:=⟨[],[],[],[]⟩
def ik(c:D)(a:List S)(r:aD):List bb:=match ord r.ah []with|ae=>[]|aa b=>b.foldl (tf c a r.ah) [e0]
def kQ(d:D)(c:List S)(b:List Lit):List Nat->bb->List bb
 |[],a=>[a]
 |i::e,a=>match b[i]? with|aa f=>(gb d c a f).flatMap (kQ d c b e)|ae=>kQ d c b e a
variable{lq:List Lit}
theorem VD:∀(b:List Nat)(a:List bb),b.foldl (tf V X lq) a=a.flatMap (kQ V X lq b)
 |[],a=>by
  simp_all[kQ]
 |i::b,a=>by
  rw[ni,VD b];unfold tf;rcases h:lq[i]? with _|x;simp_all[kQ];simp_all[kQ,gb,List.flatMap_assoc]
variable{H:bb}{bQ:aJ}
theorem nL:(cD H bQ).2=known H.aA bQ:=by
 grind[cD,known]
variable{fE:bb}{p:List d}
theorem LI{w:List aG}(e:Z H.bF=Z H.aA)(b:fE.aA=H.aA++p)(c:fE.bF=H.bF++w)(a:known H.aA bQ=ad):cD fE bQ=cD H bQ:=by
 unfold cD;by_cases h:bQ.aE=[];simp[h];rw[if_neg h,if_neg h];have f:bQ.aE∈H.aA:=by
  simp only[known,hX,beq_iff_eq,decide_eq_true_eq]at a;exact a.resolve_left h
 grind[List.findIdx?_eq_some_iff_getElem]
variable{jt:aG}
theorem LJ(b:Z H.bF=Z H.aA)(a:known H.aA bQ=ab):cD (gL H bQ jt) bQ=(jt,ad):=by
 grind[known,cD,gL]
structure vv(e x:bb):Prop where
 aA:∃a,x.aA=e.aA++a
 bF:∃a,x.bF=e.bF++a
 len:Z x.bF=Z x.aA
theorem vv.get(h:vv H fE)(f:Z H.bF=Z H.aA)(e:known H.aA bQ=ad):cD fE bQ=cD H bQ:=by
 let⟨a,c⟩:=h.aA;let⟨b,d⟩:=h.bF;grind[LI]
theorem vv.known(h:vv H fE)(a:known H.aA bQ=ad):known fE.aA bQ=true:=by
 let⟨c,b⟩:=h.aA;simp only[AM.known,hX,beq_iff_eq,decide_eq_true_eq]at a⊢;rcases a with h|h;exact .inl h;exact .inr (by rw[b];simp[h])
theorem vv.trans{b:bb}(h:vv H fE)(a:vv fE b):vv H b:=by
 let⟨c,g⟩:=h.aA;let⟨d,i⟩:=h.bF;let⟨e,j⟩:=a.aA;let⟨f,k⟩:=a.bF;exact⟨(by grind),by grind,a.len⟩
theorem LL(a:known p bQ=ab):ej p bQ.aE=p++[bQ.aE]:=by
 grind[known,ej]
theorem LM(a:known p bQ=ad):ej p bQ.aE=p:=by
 grind[known,ej]
theorem zP:∀(c:List aJ)(vs:List aG){a b:bb},Z a.bF=Z a.aA->gM a c vs=aa b->
 vv a b/\b.aA=c8 a.aA c/\b.aw=a.aw/\b.az=a.az/\Z c<=Z vs/\(∀d∈b.bF,d∈a.bF\/d∈vs)/\(∀t∈c,known b.aA t=ad)/\vs.take (Z c)=c.map λt=>(cD b t).1
 |[],vs,a,b,g,h=>by
  simp only[gM,e1]at h;subst h;exact⟨⟨⟨[],by simp⟩,⟨[],by simp⟩,g⟩,rfl,rfl,rfl,by simp,λd n=>.inl n,by simp,by simp⟩
 |t::c,[],a,b,g,h=>by simp[gM]at h
 |t::c,d::vs,a,b,g,h=>by
  rw[gM]at h;split at h;rename_i f;split at h;rename_i n;let⟨e,o,j,k,s,p,u,l⟩:=zP c vs g h;rw[nL]at f;refine⟨e,?_,j,k,by grind,λw r=>?_,λx i=>?_,?_⟩;grind[c8,LM];grind;rcases b5.1 i with rfl|i;exact e.known f;grind;simp only[kD,Ov,eg,l,e.get g f,n];cases h
  rename_i f;rw[nL,yV]at f;have m:Z (gL a t d).bF=Z (gL a t d).aA:=by simp[gL,g]
  let⟨e,o,j,k,s,p,u,l⟩:=zP c vs m h;have v:vv a (gL a t d):=⟨⟨_,rfl⟩,⟨_,rfl⟩,m⟩;have q:known (gL a t d).aA t=true:=by simp[known,gL]
  refine⟨v.trans e,?_,j,k,by grind,λw r=>?_,λx i=>?_,?_⟩;rw[o];simp only[c8,ni,LL f]<;>rfl
  rcases p w r with h|h;rcases dm.1 h with h|h;exact .inl h;grind;grind;rcases b5.1 i with rfl|i;exact e.known q;grind;simp only[kD,Ov,eg,l,e.get m q,LJ g f]
structure um(V:List d)(cd:List aG)(l:List bb):Prop where
 aA:∀e∈l,e.aA=V
 bF:∀e∈l,Z e.bF=Z V
 nd:(l.map bb.bF).Nodup
 cd:∀e∈l,∀v∈e.bF,v∈cd
def wU(a:List d)(e:Lit):List d:=
 match e.af with
 |[b,c]=>if(e.ax==5&&e.op==1)=ad then(if(known a b&& !known a c)=ad then a++[c.aE]else if(known a c&& !known a b)=ad then a++[b.aE]else a)else a
 |_=>a
def vw(b:List d)(a:Lit):List d:=if(a.ax==1||a.ax==3)=ad then c8 b a.af else wU b a
structure yn(fs:List S)(l:Lit)(cd:List aG):Prop where
 dF:gm fs
 len:∀f∈fs,f.ai=l.ai->Z f.af=Z l.af
 bF:∀f∈fs,∀v∈f.af,v∈cd
 yo:∀t∈l.af,t.aE=[]->t.const∈cd
variable{aP:List aG}
theorem LN(e:Z H.bF=Z H.aA)(c:∀a∈H.bF,a∈aP)(b:bQ.aE=[]->bQ.const∈aP)(d:known H.aA bQ=ad):(cD H bQ).1∈aP:=by
 grind[nL,cD,List.findIdx?_eq_some_iff_getElem]
variable{bZ:Type}{rk:K -> List bZ}
theorem VE:∀{a:List K},a.Nodup->(∀x∈a,(rk x).Nodup)->(∀x∈a,∀c∈a,x≠c->∀e∈rk x,e∉rk c)->(a.flatMap rk).Nodup
 |[],_,_,_=>by simp
 |x::a,b,d,f=>by
  rw[kZ]at b;rw[aaV,tJ];refine⟨d x (by simp),VE b.2 (by grind) (by grind),?_⟩;grind
theorem LO(a:bb)(b:Lit)(c:Int):(kv a b c).bF=a.bF:=by grind[kv]
theorem VF(a:bb)(b:Lit)(c:Int):(kv a b c).aA=a.aA:=by grind[kv]
theorem DT(d:gm X):∀a∈X,∀g∈X,a.ai=g.ai->a.af=g.af->a=g:=by
 intro a k g l i j;obtain⟨b,e,rfl⟩:=kf.1 k;obtain⟨c,f,rfl⟩:=kf.1 l;have n:cm X[b] X[c]=0:=by rw[oi];exact⟨i,j⟩
 rcases IQ b c with h|h|h;have:=d b c e f h;omega;subst h;rfl;have m:=d c b f e h;grind[wS]
theorem BN(a:gm X):X.Nodup:=by
 have:=nK.1 a;rw[aaW];apply this.imp;grind[oi]
variable{P:Lit}
theorem ajN(g:H.aA=p)(k:Z H.bF=Z p)(j:∀b∈H.bF,b∈aP)(n:∀a∈P.af,a.aE=[]->a.const∈aP):
 (kP H P).aA=wU p P/\Z (kP H P).bF=Z (wU p P)/\(∃w,(kP H P).bF=H.bF++w)/\∀b∈(kP H P).bF,b∈aP:=by
 have s:H.aA=p/\Z H.bF=Z p/\(∃w,H.bF=H.bF++w)/\∀b∈H.bF,b∈aP:=by simp_all
 unfold kP wU;split;rename_i e f i;have l:e∈P.af:=by rw[i];simp
 have m:f∈P.af:=by rw[i];simp
 simp only[nL,g];have put:∀(a c:aJ),a∈P.af->known p a=ad->(gL H c (cD H a).1).aA=p++[c.aE]/\Z (gL H c (cD H a).1).bF=Z (p++[c.aE])/\(∃w,(gL H c (cD H a).1).bF=H.bF++w)/\∀b∈(gL H c (cD H a).1).bF,b∈aP:=by
  intro a c o r;refine⟨by rw[gL,g],by simp[gL,k],⟨_,rfl⟩,λb q=>?_⟩;rcases dm.1 q with h|h;exact j b h;simp only[l5]at h;subst h;exact LN (by rw[k,g]) j (n a o) (by grind)
 split;split;rename_i h;simp only[bc]at h;exact put e f l h.1;split;rename_i h;simp only[bc]at h;exact put f e m h.1;omega;omega;omega
theorem LP(c:yn X P aP)(e:H.aA=p)(j:Z H.bF=Z p)(z:∀b∈H.bF,b∈aP):
 (∀f∈gb V X H P,f.aA=vw p P/\Z f.bF=Z (vw p P)/\(∃w,f.bF=H.bF++w)/\∀b∈f.bF,b∈aP)/\((gb V X H P).map bb.bF).Nodup:=by
 unfold gb vw;split;refine⟨λf i=>?_,?_⟩;let⟨a,q,i⟩:=xr.1 i;obtain⟨T,v,rfl⟩:=dj.1 i;let⟨n,o,_,_,_,F,_,_⟩:=zP P.af a.af (by rw[j,e]) v;rw[LO,VF];refine⟨by rw[o,e],by rw[n.len,o,e],n.bF,λb M=>?_⟩;rcases F b M with h|h;exact z b h;exact c.bF a (by grind) b h;rw[List.map_filterMap];have u:(X.filter (j6 V P)).Nodup:=(BN c.dF).sublist IX;have k:∀a∈X.filter (j6 V P),a∈X/\a.ai=P.ai:=by grind[j6]
 generalize X.filter (j6 V P)=gs at u k;induction gs with
 |nil=>simp
 |cons a gs l=>
  rw[kZ]at u;have l:=l u.2 λg s=>k g (by simp[s]);rw[OB];rcases q:(qV H P a).map bb.bF with _|w;simpa[q]using l;simp only[];rw[kZ];refine⟨λN=>?_,l⟩;let⟨g,s,L⟩:=xr.1 N;let⟨f,i,A⟩:=dj.1 q;let⟨T,v,B⟩:=dj.1 L;obtain⟨R,O,rfl⟩:=dj.1 i;obtain⟨U,Q,rfl⟩:=dj.1 v;rw[LO]at A B;let⟨_,C,_,_,_,_,_,x⟩:=zP P.af a.af (by rw[j,e]) O;let⟨_,E,_,_,_,_,_,y⟩:=zP P.af g.af (by rw[j,e]) Q;have r:=k a (by simp)
  have t:=k g (by simp[s]);have I:=c.len a r.1 r.2;have K:=c.len g t.1 t.2;have J:∀m,cD R m=cD U m:=by
   intro m;unfold cD;rw[C,E,A,B]
  rw[<-I,dU]at x;rw[<-K,dU]at y;have G:a.af=g.af:=by
   rw[x,y];exact sM λm _=>by rw[J]
  have:=DT c.dF a r.1 g t.1 (by omega) G;grind
 let⟨n,o,W,Y⟩:=ajN (P:=P) e j z c.yo;grind
theorem um.next{c:List bb}(h:um p aP c)(n:yn X P aP):um (vw p P) aP (c.flatMap λa=>gb V X a P):=by
 have j:∀a∈c,_:=λa b=>LP (V:=V) n (h.aA a b) (h.bF a b) (h.cd a b);refine⟨λg f=>?_,λg f=>?_,?_,λg f=>?_⟩;grind;grind;rw[List.map_flatMap];have o:c.Nodup:=by
  have:=h.nd;clear j h;induction c with
  |nil=>simp
  |cons a c u=>
   grind
 refine VE o (by grind) λa b e i q w r s=>?_;obtain⟨g,f,rfl⟩:=cy.1 r;let⟨v,t,k⟩:=cy.1 s;let⟨x,l⟩:=((j a b).1 g f).2.2.1;let⟨y,m⟩:=((j e i).1 v t).2.2.1;rw[l,m]at k;have:=List.append_inj k (by rw[h.bF a b,h.bF e i]);have heq:a.bF=e.bF:=this.1.symm;have key:∀{P:List bb},(P.map bb.bF).Nodup->a∈P->e∈P->a=e:=by
  intro P;induction P with
  |nil=>grind
  |cons z P u=>
   grind
 exact q (key h.nd b i);grind
def yp(a:List aG):Nat->List (List aG)
 |0=>[[]]
 |k+1=>a.flatMap λb=>(yp a k).map (b::·)
theorem VG(a:List aG):∀k,Z (yp a k)=Z a^k
 |0=>rfl
 |k+1=>by
  have:∀b:List aG,Z (b.flatMap λd=>(yp a k).map (d::·))=Z b*Z a^k:=by
   intro b;induction b with
   |nil=>simp
   |cons e b c=>rw[aaV,gy,kc,VG a k,c,kD,q4];omega
  grind[yp]
theorem VH:∀{a:List aG},(∀v∈a,v∈aP)->a∈yp aP (Z a)
 |[],_=>by simp[yp]
 |v::a,h=>by
  simp only[kD,yp,aaX,cy];exact⟨v,h v (by simp),a,VH (by grind),rfl⟩
theorem zQ[DecidableEq K]:∀{b a:List K},b.Nodup->(∀x∈b,x∈a)->Z b<=Z a
 |[],_,_,_=>by simp
 |x::b,a,c,h=>by
  rw[kZ]at c;have f:=h x (by simp);have d:Z (a.erase x)=Z a -1:=by grind
  have e:0<Z a:=by grind
  have:=zQ (a:=a.erase x) c.2 (by grind);grind
theorem um.len{b:List bb}(h:um p aP b):Z b<=Z aP^Z p:=by
 have:=zQ (a:=yp aP (Z p)) h.nd λw e=>by
  obtain⟨a,c,rfl⟩:=cy.1 e;have:=VH (h.cd a c);rwa[h.bF a c]at this
 rw[kc,VG]at this;exact this
theorem um.start(a:List aG):um [] a [e0]:=by
 refine⟨?_,?_,by simp,?_⟩<;>simp[e0]
variable{bL:d}
theorem VI(h:p.Nodup):(ej p bL).Nodup:=by
 grind[ej]
variable{mD:d}
theorem VJ:mD∈ej p bL<->mD∈p\/(mD=bL/\bL≠[]):=by
 grind[ej]
theorem VK:∀(b:List aJ){a:List d},a.Nodup->(c8 a b).Nodup
 |[],_,h=>h
 |t::b,a,h=>VK b (VI h)
theorem Hm:∀{c:List aJ}{a:List d}{b:d},b∈c8 a c<->b∈a\/(b≠[]/\∃t∈c,t.aE=b)
 |[],a,b=>by simp[c8]
 |t::c,a,b=>by
  have:c8 a (t::c)=c8 (ej a t.aE) c:=rfl;rw[this,Hm,VJ];grind
theorem LQ:∀{c:List (List aJ)}{b:List d}{a:d},a∈c.foldl c8 b<->a∈b\/(a≠[]/\∃l∈c,∃e∈l,e.aE=a)
 |[],b,a=>by simp
 |l::c,b,a=>by
  rw[ni,LQ,Hm];grind
theorem ajO(e:p.Nodup):(wU p P).Nodup/\∀a∈wU p P,a∈p\/(a≠[]/\∃b∈P.af,b.aE=a):=by
 have i:p.Nodup/\∀a∈p,a∈p\/(a≠[]/\∃b∈P.af,b.aE=a):=by grind
 have put:∀b∈P.af,known p b=ab->(p++[b.aE]).Nodup/\∀a∈p++[b.aE],a∈p\/(a≠[]/\∃b∈P.af,b.aE=a):=by
  intro b g c;rw[<-LL c];refine⟨VI e,λa f=>?_⟩;rcases VJ.1 f with h|⟨rfl,h⟩;exact .inl h;grind
 grind[wU]
theorem ajP(c:p.Nodup):(vw p P).Nodup/\∀a∈vw p P,a∈p\/(a≠[]/\∃b∈P.af,b.aE=a):=by
 grind[vw,VK,Hm,ajO]
theorem ajQ{r:aD}(q:∀l∈r.ah,yn X l aP):∀(b:List Nat),∃a,a.Nodup/\(∀c∈a,c∈fB r)/\um a aP (b.foldl (tf V X r.ah) [e0]):=by
 have key:∀(b:List Nat)(a:List d)(e:List bb),a.Nodup->(∀c∈a,c∈fB r)->um a aP e->∃f,f.Nodup/\(∀c∈f,c∈fB r)/\um f aP (b.foldl (tf V X r.ah) e):=by
  intro b;induction b with
  |nil=>grind
  |cons j b t=>
   intro a e m n o;rw[ni];rcases g:r.ah[j]? with _|l;grind[tf];have p:l∈r.ah:=qj g;have:tf V X r.ah e j=e.flatMap λk=>gb V X k l:=by rw[tf,g]
   rw[this];have i:=ajP (P:=l) m;refine t (vw a l) _ i.1 (λc s=>?_) (o.next (q l p));rcases i.2 c s with h|⟨h,v,u,rfl⟩;exact n c h;grind[fB,LQ]
 exactλb=>key b [] [e0] xt (by simp) (um.start aP)
theorem VL(b:1<=f):∀(k:Nat){a:Int},0<=a->lQ f b9 k a<=b9->a*f^k<=b9
 |0,a,_,h=>by grind[lQ]
 |k+1,a,c,h=>by
  rw[lQ]at h;split at h;rename_i d;have:=VL b k (Int.mul_nonneg c (by omega)) h;grind[Int.mul_comm];omega
variable{dh:Nat}
theorem ajR(f:1<=N)(b:z<=dh)(h:lQ U N dh 1<=N):U^z<=N:=by
 by_cases e:U=0;grind[Nat.zero_pow];have a:=VL (f:=(U:Int)) (by omega) dh (by omega:(0:Int)<=1) h;rw[Int.one_mul]at a;have c:((U^dh:Nat):Int)<=N:=by rw[Int.natCast_pow];exact a
 have d:U^z<=U^dh:=arH (by omega) b;omega
theorem ajS{r:aD}(f:∀g∈r.ah,yn X g aP)(e:1<=U)(h:lQ (Z aP) U (Z (fB r)) 1<=U)(a:List Nat):Z (a.foldl (tf V X r.ah) [e0])<=U:=by
 let⟨i,b,c,d⟩:=ajQ (V:=V) f a;exact iP d.len (ajR e (zQ b c) h)
inductive Seq(body:List Lit):List Nat->List d->List Nat->Prop
 |nil (out:List Nat) (V:List d):Seq body out V []
 |cons (out:List Nat) (V:List d) (i:Nat) (t:List Nat) (l:Lit) (hl:body[i]?=aa l) (hn:i∉out) (hr:j1 V l=ad) (h:Seq body (out++[i]) (c8 V l.af) t):Seq body out V (i::t)
theorem VM:∀(n:Nat){out:List Nat}{a:List d}{g:List Nat},oc lq n out a=aa g->∃c,g=out++c/\Z c=n/\Seq lq out a c
 |0,out,a,g,h=>by
  simp only[oc,e1]at h;exact⟨[],by simp[h],rfl,.nil _ _⟩
 |n+1,out,a,g,h=>by
  rw[oc]at h;rcases f:yi lq out a with _|i;grind;rw[f]at h;let⟨c,k,l,j⟩:=VM n h;unfold yi at f;rw[yW]at f;let⟨e,b,_⟩:=f;have b:i<Z lq:=by simpa using b
  rw[nI,bu b]at e;simp only[bc,gZ,decide_eq_false_iff_not]at e;have m:zC lq i=lq[i].af:=by rw[zC,bu b]<;>rfl
  rw[m]at j;exact⟨i::c,by simp[k],by simp[l],.cons _ _ _ _ _ (bu b) e.1 e.2 j⟩
variable{bq:List Nat}
theorem Hn(h:ord lq []=aa bq):Seq lq [] [] bq/\Z bq=Z lq:=by
 let⟨d,a,b,c⟩:=VM _ h;grind
theorem Seq.spec{out:List Nat}(h:Seq lq out p bq):(out.Nodup->(out++bq).Nodup)/\∀a∈bq,a<Z lq:=by
 induction h with
 |nil out p=>grind
 |cons out p a i g b c e h f=>
  grind
theorem ajT(h:ord lq []=aa bq):bq.Nodup/\∀a,a<Z lq<->a∈bq:=by
 let⟨b,f⟩:=Hn h;let⟨c,d⟩:=b.spec;have e:bq.Nodup:=by simpa using c xt
 refine⟨e,λa=>⟨λi=>?_,d a⟩⟩;refine xu λg=>?_;have:=zQ (b:=a::bq) (a:=ay (Z lq)) (by grind) (by grind);grind
theorem VN:∀{b:List aJ}{a:List d},(∀t∈b,known a t=ad)->c8 a b=a
 |[],_,_=>rfl
 |t::b,a,h=>by
  have c:c8 a (t::b)=c8 (ej a t.aE) b:=rfl;rw[c,LM (h t (by simp))];exact VN (by grind)
theorem VO(h:j1 p P=ad):vw p P=c8 p P.af:=by
 unfold j1 at h;unfold vw;split;rfl;rename_i e;rw[if_neg e]at h;split at h;rename_i f;simp only[bc,beq_iff_eq]at f;let⟨a,b,c⟩:∃a b,P.af=[a,b]:=by
  match i:P.af with
  |[a,b]=>grind
  |[]=>grind
  |[_]=>grind
  |_::_::_::_=>grind
 have g:c8 p [a,b]=ej (ej p a.aE) b.aE:=rfl;simp only[wU,c];rw[if_pos (by grind),g];rw[c]at h;simp only[aaO,aaP,OC,hX]at h;grind[known,LM,LL];grind[VN,wU]
theorem VP(w:∀e∈lq,yn X e aP)(k:List Nat->bb->Prop)
 (step:∀(done:List Nat)(b:List d)(a c:bb)(g:Nat)(e:Lit),lq[g]?=aa e->g∉done->j1 b e=ad->a.aA=b->Z a.bF=Z b->(∀j∈a.bF,j∈aP)->k done a->c∈gb V X a e->k (done++[g]) c):
 ∀{done:List Nat}{b:List d}{i:List Nat},Seq lq done b i->∀a,a.aA=b->Z a.bF=Z b->(∀j∈a.bF,j∈aP)->k done a->∀c∈kQ V X lq i a,k (done++i) c/\Z c.bF=Z c.aA/\(∀j∈c.bF,j∈aP)/\∀f,f∈c.aA<->f∈b\/(f≠[]/\∃g∈i,∃e,lq[g]?=aa e/\∃n∈e.af,n.aE=f):=by
 intro done b i h;induction h with
 |nil out b=>
  grind[kQ]
 |cons out b g n e r x s h u=>
  intro a o p q v c m;rw[kQ,r]at m;let⟨f,t,m⟩:=aaX.1 m;have l:=(LP (V:=V) (by grind) o p q).1 f t;rw[VO s]at l;have:=u f l.1 l.2.1 l.2.2.2 (by grind) c m;grind[List.append_assoc,Hm]
theorem DU{r:aD}(h:ord r.ah []=aa bq):ik V X r=kQ V X r.ah bq e0:=by
 grind[ik,VD]
structure DV(p:D)(r:aD)(l:Lit):Prop where
 ax:1<=l.ax/\l.ax<=5
 cmp:l.ax=5->Z l.af=2/\l.ai= -1
 ai:l.ax≠5->∃a:Nat,∃h:a<Z p.Q,l.ai=a/\Z l.af=Z p.Q[a].aZ
 iC:l.ax=3\/l.ax=4->∃q,dB p l.ai=aa q/\eA q l.iC=ad
 bind:l.bind≠[]->l.ax=1/\l.bind=r.aj.aE/\∃q,dB p l.ai=aa q/\dB p r.ai=aa q
structure zR(p:D)(r:aD):Prop where
 lits:∀l∈r.ah,DV p r l
 one:∀(i j:Nat)(l m:Lit),r.ah[i]?=aa l->r.ah[j]?=aa m->l.bind≠[]->m.bind≠[]->i=j
 head:0<=r.ai->∃a:Nat,∃h:a<Z p.Q,r.ai=a/\Z r.af=Z p.Q[a].aZ
 none:0<=r.ai->(r.aj.ax=0<->dB p r.ai=Option.none)
 const:0<=r.ai->r.aj.ax=1->∃q,dB p r.ai=aa q/\eA q r.aj.aR=ad
 aE:r.aj.ax=2\/r.aj.ax=3->r.aj.aE≠[]/\∃l∈r.ah,l.bind=r.aj.aE
 fn:0<=r.ai->r.aj.ax=3->∃a:Nat,∃h:a<Z p.aO,r.aj.aR=a/\∃q,dB p r.ai=aa q/\Z p.aO[a].gQ=Z q.az/\p.aO[a].gQ.all (eA q)=ad
 kinds:0<=r.aj.ax/\r.aj.ax<=3
structure vx(p:D)(r:aD)(done:List Nat)(e:bb):Prop where
 len:Z e.az=Z e.aw
 aw:e.aw=done.filterMap λi=>match r.ah[i]? with|aa l=>if l.bind=[]then ae else aa l.bind|ae=>ae
 az:∀x∈e.az,∃q,dB p r.ai=aa q/\eA q x=ad
theorem ajU(a:bb)(b:Lit):(kP a b).aw=a.aw/\(kP a b).az=a.az:=by
 unfold kP;split;split;split;exact⟨rfl,rfl⟩;split;exact⟨rfl,rfl⟩;grind;grind;grind
theorem vx.step{r:aD}(m:zR V r)(o:∀b∈X,gn V b){done:List Nat}(s:r.ah[U]?=aa P)(u:Z H.bF=Z H.aA)(h:vx V r done H)(a:fE∈gb V X H P):vx V r (done++[U]) fE:=by
 have k:P∈r.ah:=qj s;unfold gb at a;split at a;let⟨b,p,a⟩:=xr.1 a;obtain⟨c,v,rfl⟩:=dj.1 a;let⟨_,_,f,g,_,_,_,_⟩:=zP P.af b.af u v;have l:=l4.1 p;by_cases e:P.bind=[];have d:kv c P b.aj=c:=by unfold kv;rw[if_pos e]
 rw[d];refine⟨by rw[g,f,h.len],?_,by rw[g];exact h.az⟩;rw[f,h.aw,aaY];grind;have d:kv c P b.aj=⟨c.aA,c.bF,c.aw++[P.bind],c.az++[b.aj]⟩:=by unfold kv;rw[if_neg e]
 rw[d];refine⟨by simp[g,f,h.len],?_,λw i=>?_⟩;simp only;rw[f,h.aw,aaY];grind;simp only[g,dm,l5]at i;rcases i with i|rfl;exact h.az w i;let⟨_,_,n,y,t⟩:=(m.lits P k).bind e;have x:b.ai=P.ai:=by
  have:=l.2;simp only[j6,bc,beq_iff_eq]at this;exact this.1
 exact⟨n,t,o b l.1 n (by grind)⟩;rename_i q;split at a;simp only[l5]at a;subst a;let⟨d,j⟩:=ajU H P;have e:P.bind=[]:=by
  refine xu λe=>?_;have:=((m.lits P k).bind e).1;simp[this]at q
 refine⟨by rw[d,j,h.len],?_,by rw[j];exact h.az⟩;rw[d,h.aw,aaY];grind;cases a
structure yq(p:D)(cd:List aG)(f:S):Prop where
 fG:∃a:Nat,∃h:a<Z p.Q,f.ai=a/\Z f.af=Z p.Q[a].aZ
 cd:∀v∈f.af,v∈cd
 aj:gn p f
 none:dB p f.ai=Option.none->f.aj= -1
structure VQ(p:D)(r:aD)(cd:List aG)(e:bb):Prop where
 len:Z e.bF=Z e.aA
 cd:∀v∈e.bF,v∈cd
 aA:∀t∈r.af,known e.aA t=ad
 zS:Z e.az=Z e.aw
 aw:r.aj.ax=2\/r.aj.ax=3->r.aj.aE∈e.aw
 az:∀x∈e.az,∃q,dB p r.ai=aa q/\eA q x=ad
theorem ajV{r:aD}:bL∈gw r<->bL≠[]/\∃a∈r.ah,∃b∈a.af,b.aE=bL:=by
 have:gw r=(r.ah.map Lit.af).foldl c8 []:=by
  unfold gw;rw[aaZ]
 grind[LQ]
theorem DW{r:aD}(t:zR V r)(g:uf r=ad)(s:∀i∈r.ah,yn X i aP)(z:∀l∈X,gn V l):∀a∈ik V X r,VQ V r aP a:=by
 intro a k;simp only[uf,bc]at g;let⟨A,f⟩:=sH.1 g.1.1;let⟨u,_⟩:=Hn f;let⟨_,p⟩:=ajT f;rw[DU f]at k;have key:=VP (V:=V) s (λdone a=>vx V r done a) (by grind[vx.step]) u e0 rfl rfl (by simp[e0]) ⟨rfl,rfl,by simp[e0]⟩ a k;rw[dK]at key;let⟨c,m,n,o⟩:=key;refine⟨m,n,λx v=>?_,c.len,λq=>?_,c.az⟩;have:=g.1.2;rw[eL]at this;have:=this x v;simp only[known,hX,beq_iff_eq,decide_eq_true_eq]at this⊢
 rcases this with h|h;exact .inl h;refine .inr ((o _).2 (.inr ?_));let⟨j,i,e,y,w,a⟩:=ajV.1 h;obtain⟨b,d,rfl⟩:=kf.1 e;exact⟨j,b,(p b).1 d,r.ah[b],bu d,y,w,a⟩;let⟨j,i,e,a⟩:=t.aE q;obtain⟨b,d,rfl⟩:=kf.1 e;rw[c.aw,xr];grind
theorem DX(a:Z H.az=Z H.aw)(b:bL∈H.aw):jS H bL∈H.az:=by
 grind[jS,List.findIdx?_eq_none_iff,List.findIdx?_eq_some_iff_getElem,List.getElem?_eq_getElem,List.getElem_mem]
theorem ajW{r:aD}(c:zR V r)(e:0<=r.ai)(n:∀g∈r.af,g.aE=[]->g.const∈aP)(a:VQ V r aP H):yq V aP (kO V r H):=by
 let⟨p,y,w,x⟩:=c.head e;refine⟨(by grind[kO,j4]),λC l=>?_,λm f=>?_,λh=>?_⟩;simp only[kO,j4,cy]at l;obtain⟨g,k,rfl⟩:=l;exact LN a.len a.cd (n g k) (a.aA g k);have f:dB V r.ai=aa m:=f;show eA m (sg V r H)=ad;have o:r.aj.ax≠0:=λH=>by rw[(c.none e).1 H]at f;cases f
 let⟨A,B⟩:=c.kinds;unfold sg;split;rename_i b;let⟨i,j,d⟩:=c.const e b;grind;split;rename_i b;let⟨i,j,d⟩:=a.az _ (DX a.zS (a.aw (.inl b)));grind;split;rename_i b;let⟨q,z,j,i,d,s,t⟩:=c.fn e b;rw[f]at d;simp only[e1]at d;subst d;let⟨i,u,v⟩:=a.az _ (DX a.zS (a.aw (.inr b)));grind[Option.some.injEq,mm,Int.toNat_natCast,List.getElem?_eq_getElem,List.all_eq_true,List.getElem_mem];omega
 have h:dB V r.ai=none:=h;have o:=(c.none e).2 h;show sg V r H= -1;grind[sg]
def lC(a:D)(b:List S)(r:aD):List S:=(ik a b r).map (kO a r)
def il(a:List Int)(r:aD):Bool:=y (0<=r.ai)&&a.contains r.ai
def ky(a:D)(b:List Int)(c out:List S)(r:aD):List S:=if il b r=ad then dq a out (lC a c r)else out
def fC(a:D)(b:List Int)(c:List S):List S:=a.ak.foldl (ky a b c) []
def im(b:D)(c:List Int)(a:List S):List S:=dq b a (fC b c a)
inductive p5(p:D)(c:List Int):Nat->List S->Option (List S)->Prop
 |over (n:Nat) (fs:List S) (h:iL (im p c fs)=ad):p5 p c n fs ae
 |stop (n:Nat) (fs:List S) (h:iL (im p c fs)=ab) (e:im p c fs=fs):p5 p c n fs (aa fs)
 |next (n:Nat) (fs:List S) (r:Option (List S)) (h:iL (im p c fs)=ab) (e:im p c fs≠fs) (t:p5 p c n (im p c fs) r):p5 p c (n+1) fs r
inductive j7(p:D):List (List Int)->List S->Option (List S)->Prop
 |nil (fs:List S):j7 p [] fs (aa fs)
 |none (c:List Int) (cs:List (List Int)) (n:Nat) (fs:List S) (h:p5 p c n fs Option.none):j7 p (c::cs) fs Option.none
 |cons (c:List Int) (cs:List (List Int)) (n:Nat) (fs gs:List S) (r:Option (List S)) (h:p5 p c n fs (aa gs)) (t:j7 p cs gs r):j7 p (c::cs) fs r
structure bH(p:D)(cd:List aG)(fs:List S):Prop where
 dF:gm fs
 ok:∀f∈fs,yq p cd f
structure e9(p:D)(cd:List aG):Prop where
 aN:lU p
 VR:∀l∈p.aw,Z l.az<=8
 iS:∀r∈p.ak,zR p r
 safe:∀r∈p.ak,uf r=ad
 yo:∀r∈p.ak,(∀t∈r.af,t.aE=[]->t.const∈cd)/\∀l∈r.ah,∀t∈l.af,t.aE=[]->t.const∈cd
 ak:Z p.ak<=20
 Q:Z p.Q<=24
 nG:∀r∈p.ak,lQ (Z cd) (3000:Nat) (Z (fB r)) 1<=(3000:Nat)
theorem yq.VS(h:yq V aP b3):ep V b3.ai=true:=by
 let⟨a,c,b,_⟩:=h.fG;grind[ep]
theorem bH.meet(f:e9 V aP)(h:bH V aP X){r:aD}(g:r∈V.ak):∀a∈r.ah,yn X a aP:=by
 intro a e;have i:=(f.iS r g).lits a e;refine⟨h.dF,λb c l=>?_,λb c=>(h.ok b c).cd,(f.yo r g).2 a e⟩;let⟨j,q,m,n⟩:=(h.ok b c).fG;by_cases d:a.ax=5;have:=(i.cmp d).2;omega;let⟨k,s,o,p⟩:=i.ai d;grind
theorem VT(o:lU V)(h:bH V aP X)(c:yq V aP b3):bH V aP (da V X b3):=by
 have m:=zO o (λb a=>(h.ok b a).aj) c.aj;have f:=LA (V:=V) (X:=X) (b3:=b3) (b:=λk e=>(∃d:Nat,∃h:d<Z V.Q,k=d/\Z e=Z V.Q[d].aZ)/\∀s∈e,s∈aP) (λb a=>⟨(h.ok b a).fG,(h.ok b a).cd⟩) ⟨c.fG,c.cd⟩;have n:∀b∈da V X b3,dB V b.ai=ae->b.aj= -1:=by
  intro b a j;have q:b∈X\/b=b3\/∃l,dB V b.ai=aa l:=by
   have u:∀{y},y∈jH X b3->y∈X\/y=b3:=by grind[zM]
   unfold da at a;rcases r:dB V b3.ai with _|l;grind;rw[r]at a;simp only at a;split at a;grind;cases g:X.findIdx? (e6 b3.ai b3.af)with
   |none=>
    grind
   |some d=>
    rw[g]at a;let⟨p,v,_⟩:=qm.1 g;simp only[bu p]at a;rcases OG a with a|rfl;grind;grind[e6,dB]
  rcases q with i|rfl|⟨l,i⟩;exact(h.ok b i).none j;exact c.none j;grind
 exact⟨ajF h.dF,λb a=>⟨(f b a).1,(f b a).2,m.2 b a,n b a⟩⟩
theorem wV(d:lU V):∀(bs:List S){a:List S},bH V aP a->(∀c∈bs,yq V aP c)->bH V aP (dq V a bs)
 |[],_,h,_=>h
 |b::bs,a,h,e=>wV d bs (by grind[VT]) (by grind)
theorem uo(a:e9 V aP)(h:bH V aP X){r:aD}(b:r∈V.ak)(f:0<=r.ai):∀c∈lC V X r,yq V aP c:=by
 intro c d;obtain⟨e,g,rfl⟩:=cy.1 d;exact ajW (a.iS r b) f (a.yo r b).1 (DW (a.iS r b) (a.safe r b) (h.meet a b) (λc d=>(h.ok c d).aj) e g)
theorem VU(a:e9 V aP)(h:bH V aP X){r:aD}(b:r∈V.ak):Z (lC V X r)<=3000:=by
 rw[lC,kc,ik];split;simp;exact ajS (h.meet a b) (by omega) (a.nG r b) _
theorem Ho(c:e9 V aP)(h:bH V aP X)(b:List Int):∀(a:List aD)(_:∀r∈a,r∈V.ak){out:List S},bH V aP out->
 bH V aP (a.foldl (ky V b X) out)/\Z (a.foldl (ky V b X) out)<=Z out+Z a*3000
 |[],_,out,d=>⟨d,by simp⟩
 |r::a,f,out,d=>by
  have g:=f r (by simp);have i:bH V aP (ky V b X out r)/\Z (ky V b X out r)<=Z out+3000:=by
   unfold ky;split;rename_i e;simp only[il,bc,decide_eq_true_eq]at e;have j:=VU c h g;have m:=BL (c:=V) (lC V X r) out;exact⟨wV c.aN _ d (uo c h g e.1),by omega⟩;grind
  have j:=Ho c h b a (λl k=>f l (by simp[k])) i.1;grind
theorem bH.nil(c:D)(a:List aG):bH c a []:=⟨λd e b=>by simp at b,by simp⟩
theorem om(c:e9 V aP)(h:bH V aP X)(a:List Int):bH V aP (fC V a X)/\Z (fC V a X)<=60000:=by
 have b:=Ho c h a V.ak (λ_ h=>h) (bH.nil V aP);refine⟨b.1,?_⟩;have d:=b.2;have e:=my 3000 c.ak;grind[fC]
theorem zT(b:e9 V aP)(h:bH V aP X)(a:List Int):bH V aP (im V a X)/\Z (im V a X)<=Z X+60000:=by
 have c:=om b h a;have d:=BL (c:=V) (fC V a X) X;exact⟨wV b.aN _ h c.1.ok,by unfold im;omega⟩
theorem bH.small(d:e9 V aP)(h:bH V aP X)(c:iL X=ab):Z X<=48000:=by
 have:=ajM (V:=V) (λa b=>(h.ok a b).VS) c;have:=d.Q;omega
theorem ajX(c:e9 V aP)(b:List Int):∀(d:Nat){a:List S},bH V aP a->iL a=ab->9*48000+1 -lV V a<=d->
 ∃r,p5 V b d a r/\∀gs,r=aa gs->bH V aP gs/\iL gs=false:=by
 intro d;induction d with
 |zero=>
  intro a h l n;have j:=h.small c l;have k:=LH (V:=V) c.VR a;omega
 |succ d p=>
  intro a h l n;cases e:iL (im V b a)with
  |true=>exact⟨ae,.over _ _ e,by simp⟩
  |false=>
   have j:=zT c h b;by_cases f:im V b a=a;exact⟨aa a,.stop _ _ e f,by grind⟩
   ·have k:=(Hk c.aN (fC V b a) (λi g=>(h.ok i g).aj) (λi g=>((om c h b).1.ok i g).aj)).1
    have q:lV V a<lV V (im V b a):=k.resolve_left f;let⟨r,o,m⟩:=p j.1 e (by omega);exact⟨r,.next _ _ _ e f o,m⟩
theorem VV(e:e9 V aP):∀(b:List (List Int)){a:List S},bH V aP a->iL a=ab->
 ∃r,j7 V b a r/\∀gs,r=aa gs->bH V aP gs/\iL gs=ab
 |[],a,h,d=>⟨aa a,.nil a,by grind⟩
 |c::b,a,h,d=>by
  let⟨r,f,j⟩:=ajX e c _ h d (c5 _);rcases r with _|gs;exact⟨ae,.none c b _ a f,by simp⟩;let⟨g,i⟩:=j gs rfl;let⟨r,l,k⟩:=VV e b g i;exact⟨r,.cons c b _ a gs r f l,k⟩
theorem VW(h:Z X<=2000):iL X=false:=by
 unfold iL;rw[<-yV,I2];rintro⟨c,a,b⟩;have a:c<Z X:=by simpa using a
 rw[wT,bu a]at b;grind[Vt]
def VX(b c:Bool)(a:bb):List AV:=[eS b cS a.aA,eS b cV a.bF,eS c cS a.aw,eS c cI a.az]
@[simp] theorem auH(a c:Bool)(b:bb):(VX a c b)[0]?=aa (eS a cS b.aA):=rfl
@[simp] theorem auI(a c:Bool)(b:bb):(VX a c b)[1]?=aa (eS a cV b.bF):=rfl
@[simp] theorem auL(a:Bool)(b:bb):g (cE a b) 0=eS a cS b.aA:=rfl
@[simp] theorem auM(a:Bool)(b:bb):g (cE a b) 1=eS a cV b.bF:=rfl
@[simp] theorem auN(a:Bool)(b:bb):g (cE a b) 2=eS a cS b.aw:=rfl
@[simp] theorem auO(a:Bool)(b:bb):g (cE a b) 3=eS a cI b.az:=rfl
variable{rA:List AV -> List Obj -> Prop}
theorem yr{a:(List AV->List Obj->Prop)->Prop}(c:Bool)(r:List AV)(d:∀b:List AV->List Obj->Prop,b (.bool c::r) M->a b)(e:rA (.bool c::r) M):jn a rA:=d rA e
theorem DY{r:List AV}(a:rA (.bool T::r) M)(h:T=F):rA (.bool F::r) M:=h▸a
theorem Hq(e:∀a,Z (a7 a)=U)(f:N<=Z x):fy (.sl U) (eS T a7 x) (aa (I N)) ae M=aa (eS T a7 (x.drop N)):=by
 have c:eO (Z x) 0 (aa (I (N:Int)))=aa N:=by
  simp only[eO];rw[if_pos (by omega)];simp
 have d:∀a b,eO a b ae=aa b:=λ_ _=>rfl;simp only[fy,eS,kc,c,d,Um e x,if_true,IZ];rw[gP (by simp)]
structure qW(p:D)(cd:List aG):Prop where
 v:e9 p cd
 Hr:eI p
 LS:kN p
 D0:∀v∈cd,Sm v.s
 Hs:∀r∈p.ak,lR r
 auZ:∀r∈p.ak,∀l∈r.ah,∀t∈l.af,Sm t.const.s
 aZ:∀q∈p.Q,Z q.aZ<=1000
theorem bH.BO(c:qW V aP)(h:∀a∈X,yq V aP a):∀a∈X,dX a.af:=by
 intro a b;let⟨g,e,i,j⟩:=(h a b).fG;have:=c.aZ _ (bp e);exact⟨by grind[Sm],λd f=>c.D0 d ((h a b).cd d f)⟩
end AM
namespace Law
variable{K:Type}{dt:Nat -> Int}{U N z:Nat}{ct rh:Nat -> Bool}{cX:cA}
section
def Hp(b:Nat->Int)(c:Nat):Prop:=∀a,0<a->a<c->b ((a -1)/2)<=b a
structure uq(a:Nat->Int)(n j:Nat):Prop where
 h1:∀i,0<i->i<n->i≠j->a ((i -1)/2)<=a i
 h2:∀i,0<i->i<n->(i -1)/2=j->0<j->a ((j -1)/2)<=a i
structure ur(a:Nat->Int)(n j:Nat):Prop where
 h1:∀i,0<i->i<n->(i -1)/2≠j->a ((i -1)/2)<=a i
 h2:∀i,0<i->i<n->(i -1)/2=j->0<j->a ((j -1)/2)<=a i
def swp(a:Nat->K)(c d:Nat):Nat->K:=λb=>if b=c then a d else if b=d then a c else a b
theorem Hp.root(h:Hp dt U):∀a,a<U->dt 0<=dt a:=by
 intro a;induction a using Nat.strongRecOn with
 |_ a d=>
  intro b;by_cases c:a=0;grind;exact Int.le_trans (by grind) (h a (by omega) b)
theorem uq.push(h:Hp dt U):uq dt (U+1) U:=
 ⟨λb a c d=>h b a (by omega),by omega⟩
theorem uq.stop(h:uq dt U N)(e:N=0\/dt ((N -1)/2)<=dt N):Hp dt U:=by
 intro a c d;by_cases b:a=N;grind;exact h.h1 a c d b
theorem uq.step(h:uq dt U N)(l:N<U)(j:0<N)(m:dt N<dt ((N -1)/2)):uq (swp dt ((N -1)/2) N) U ((N -1)/2):=by
 generalize o:(N -1)/2=f at*;refine⟨λc b a n=>?_,λc b a k e=>?_⟩;have d:=h.h1 c b a;have g:=h.h2 c b a;grind[swp];have d:=h.h1 c b a;have i:=h.h1 f e (by omega) (by omega);grind[swp]
theorem ur.pop(h:Hp dt (U+1)):ur (swp dt 0 U) U 0:=by
 refine⟨λa b c d=>?_,by omega⟩;unfold swp;rw[if_neg (by omega:¬(a -1)/2=0),if_neg (by omega:¬(a -1)/2=U),if_neg (by omega:¬a=0),if_neg (by omega:¬a=U)];exact h a b (by omega)
theorem ur.stop(h:ur dt U N)(e:∀a,0<a->a<U->(a -1)/2=N->dt N<=dt a):Hp dt U:=by
 intro a c d;by_cases b:(a -1)/2=N;grind;exact h.h1 a c d b
theorem ur.step(h:ur dt U N)(i:0<z)(g:z<U)(e:(z -1)/2=N)(m:dt z<dt N)(n:∀a,0<a->a<U->(a -1)/2=N->dt z<=dt a):ur (swp dt N z) U z:=by
 refine⟨λa b c j=>?_,λa b c l _=>?_⟩;unfold swp;by_cases d:(a -1)/2=N;grind;rw[if_neg d,if_neg j];have k:=h.h1 a b c d;by_cases f:a=N;subst f;rw[if_pos rfl];have:=h.h2 z i g e b;exact this;omega;unfold swp;rw[if_pos e,if_neg (by omega:¬a=N),if_neg (by omega:¬a=z)];have:=h.h1 a b c (by omega);grind
def cQ(c:cA)(a b:Nat):Bool:=a==b||c a b&&c b a
def mV(d:Nat)(c:cA)(done:Nat->Bool)(a:Nat):Bool:= !done a&&(ay d).all λb=> !c a b||done b||cQ c a b
def kz(b:Nat)(a:cA):Nat->(Nat->Bool)->List (List Nat)
 |0,_=>[]
 |k+1,done=>match(ay b).find? (mV b a done)with
  |ae=>[]
  |aa c=>(ay b).filter (cQ a c)::kz b a k (λd=>done d||cQ a c d)
def fa(a:Nat)(b:cA):List (List Nat):=kz a b a λ_=>ab
theorem VZ:∀{a:List Nat},(∀x∈a,ct x=rh x)->a.find? ct=a.find? rh
 |[],_=>rfl
 |x::a,h=>by
  rw[arP,arP,h x (by simp),VZ λc b=>h c (by simp[b])]
theorem V0:∀(k:Nat){b c:Nat->Bool},(∀a,a<U->b a=c a)->kz U cX k b=kz U cX k c
 |0,_,_,_=>rfl
 |k+1,b,c,h=>by
  have g:(ay U).find? (mV U cX b)=(ay U).find? (mV U cX c):=by
   refine VZ λe d=>?_;have d:e<U:=by simpa using d
   unfold mV;rw[h e d]
   congr 1
   rw[iQ,eL,eL];constructor;grind;grind
  unfold kz;rw[g];split;rfl;rw[V0 k λa f=>by rw[h a f]]
theorem LU:∀{a b:List Nat},a.Pairwise (· <·)->b.Pairwise (· <·)->(∀x,x∈a<->x∈b)->a=b
 |[],[],_,_,_=>rfl
 |[],c::b,_,_,h=>by have:=(h c).2 (by simp);cases this
 |x::a,[],_,_,h=>by have:=(h x).1 (by simp);cases this
 |x::a,c::b,d,e,h=>by
  rw[AE]at d e;have f:x=c:=by
   have h1:=(h x).1 (by simp);have i:=(h c).2 (by simp);rcases b5.1 h1 with h1|h1;exact h1;grind
  subst f
  congr 1
  refine LU d.2 e.2 λj=>⟨λg=>?_,λg=>?_⟩;grind;grind
structure tg(n:Nat)(D:cA)(L:List (List Nat))(of:Nat->Nat):Prop where
 pg:∀a,a<n->of a<Z L
 mem:∀i(h:i<Z L) a,a∈L[i]<->a<n/\of a=i
 th:∀a b,a<n->b<n->(of a=of b<->cQ D a b=ad)
 gh:∀g∈L,g.Pairwise (· <·)
 ne:∀g∈L,g≠[]
theorem aj1(a:Nat):(ay a).Pairwise (· <·):=aaK
variable{n:Nat}{D d:cA}{L:List (List Nat)}{of:Nat->Nat}
theorem tg.filter(g:tg n D L of)(c:U<n):(ay n).filter (cQ D U)=L[of U]'(g.pg U c):=by
 refine LU (by grind[aj1]) (g.gh _ (bp _)) λd=>?_;rw[g.mem,l4,iw];constructor;rintro⟨a,b⟩;exact⟨a,((g.th U d c a).2 b).symm⟩;rintro⟨a,b⟩;exact⟨a,(g.th U d c a).1 b.symm⟩
def qX(L:List (List Nat))(a:Nat):Nat:=((L[a]?).bind List.head?).getD 0
theorem tg.hd(g:tg n D L of)(a:U<Z L):qX L U∈L[U]/\∀e∈L[U],qX L U<=e:=by
 have h:=g.ne _ (bp a);have c:=g.gh _ (bp a);unfold qX;rw[bu a];generalize L[U]=d at*;rcases d with _|⟨e,d⟩;grind;simp only[Ct,List.head?_cons,nR];rw[AE]at c;refine⟨by simp,λf b=>?_⟩;rcases b5.1 b with rfl|b;exact c5 _;exact aaR (c.1 f b)
def BP(d:cA)(L:List (List Nat))(of:Nat->Nat)(e:Nat->Bool)(a:Nat):Prop:=
 a<Z L/\e a=ab/\∀c b,d c b=ad->of c=a->of b≠a->e (of b)=ad
def D1(d:cA)(of:Nat->Nat)(c:Nat->Bool):Prop:=∀a b,d a b=ad->c (of a)=ad->c (of b)=ad
theorem D1.plus(h:D1 d of ct)(e:pb d U N)(b:ct (of U)=ad):ct (of N)=true:=by
 induction e with
 |hv U N a=>exact h U N a b
 |step U c N a _ f=>exact f (h U c a b)
theorem LV(g:tg n D L of)(x:∀U a,d U a=ad->U<n/\a<n)(k:∀U a,D U a=ad<->pb d U a)(w:D1 d of ct)(f:U<n):
 mV n D (λb=>ct (of b)) U=ad<->BP d L of ct (of U):=by
 have A:∀{b c:Nat},pb d b c->b<n/\c<n:=by
  intro b c h;induction h with
  |hv U a h=>grind
  |step U i a h _ u=>grind
 simp only[mV,bc,gZ,eL,iw,hX];constructor;rintro⟨q,j⟩;refine⟨g.pg U f,q,λb a o m l=>?_⟩;have p:=x b a o;have t:=(g.th U b f p.1).1 m.symm;have r:D U a=true:=by
  rw[k];simp only[cQ,hX,bc,beq_iff_eq]at t;rcases t with e|e;subst e;exact .hv U a o;exact((k U b).1 e.1).trans (.hv b a o)
 rcases j a p.2 with(h|h)|h;grind;exact h;exact absurd ((g.th U a f p.2).2 h).symm l;rintro⟨q,j,v⟩;refine⟨j,λa l=>?_⟩;rcases r:D U a with _|_;grind;have y:=(k U a).1 r;have key:∀{b c:Nat},pb d b c->of b=of U->ct (of c)=ad\/of c=of U:=by
  intro b c h;induction h with
  |hv b c s=>
   grind
  |step b i c s z u=>
   intro m;by_cases e:of i=of U;exact u e;exact .inl (w.plus z (v b i s m e))
 rcases key y rfl with h|h;grind;exact .inr ((g.th U a f l).1 h.symm)
inductive wW(d:cA)(L:List (List Nat))(of:Nat->Nat):(Nat->Bool)->List (List Nat)->Prop
 |done (em:Nat->Bool) (h:∀i,¬BP d L of em i):wW d L of em []
 |step (em:Nat->Bool) (i:Nat) (g:List Nat) (out:List (List Nat)) (h:BP d L of em i) (hg:L[i]?=aa g) (hm:∀j,BP d L of em j->qX L i<=qX L j) (t:wW d L of (λj=>em j||j==i) out):wW d L of em (g::out)
def Ht(L:List (List Nat))(a:Nat->Bool):Nat:=Z ((ay (Z L)).filter λb=> !a b)
theorem LW(h:∀b,ct b=ad->rh b=ad):∀{a:List Nat}{c:Nat},c∈a->rh c=ad->ct c=ab->Z (a.filter ct)<Z (a.filter rh):=by
 have e:∀a:List Nat,Z (a.filter ct)<=Z (a.filter rh):=by
  intro a;induction a with
  |nil=>grind
  |cons b a d=>
   grind
 intro a;induction a with
 |nil=>grind
 |cons b a d=>
  grind
theorem aj2(d:U<Z L)(b:ct U=ab):Ht L (λa=>ct a||a==U)<Ht L ct:=by
 refine LW (λf e=>?_) (c:=U) (by grind) (by simp[b]) (by simp);grind
theorem aj3(g:tg n D L of)(u:∀a b,d a b=ad->a<n/\b<n)(r:∀a b,D a b=ad<->pb d a b){out:List (List Nat)}(o:wW d L of ct out):
 D1 d of ct->∀k,Ht L ct<=k->kz n D k (λe=>ct (of e))=out:=by
 induction o with
 |done ct h=>
  intro l k _;rcases k with _|k;rfl;have:(ay n).find? (mV n D λe=>ct (of e))=none:=by
   rw[E5];intro a c o;exact h _ ((LV g u r l (by simpa using c)).1 o)
  rw[kz,this]
 |step ct f q out h z B K E=>
  intro l k I;have m:=h.1;have J:=aj2 m h.2.1;rcases k with _|k;omega;let⟨w,F⟩:=g.hd m;have i:=(g.mem f m (qX L f)).1 w;have y:(ay n).find? (mV n D λe=>ct (of e))=aa (qX L f):=by
   rw[yW];refine⟨?_,by grind,λa c=>?_⟩;grind[LV];have t:a<n:=by omega
   rcases j:mV n D (λe=>ct (of e)) a with _|_;rfl;have p:=(LV g u r l t).1 j;have G:=B _ p;have H:=(g.hd p.1).2 a ((g.mem _ p.1 a).2 ⟨t,rfl⟩);omega
  rw[kz,y];simp only;have A:(ay n).filter (cQ D (qX L f))=q:=by
   rw[g.filter i.1];have:L[of (qX L f)]?=aa q:=by rw[i.2];exact z
   rw[bu (g.pg _ i.1)]at this;exact yY this
  rw[A]
  congr 1
  have x:D1 d of (λv=>ct v||v==f):=by
   intro a b s c;simp only[hX,beq_iff_eq]at c⊢;rcases c with c|c;exact .inl (l a b s c);by_cases j:of b=f;exact .inr j;exact .inl (h.2.2 a b s c j)
  rw[<-E x k (by omega)];refine V0 k λe C=>?_
  congr 1
  rw[iQ,<-g.th _ e i.1 C,i.2,beq_iff_eq];omega
theorem aj4(g:tg n D L of)(s:∀e f,d e f=ad->e<n/\f<n)(r:∀e f,D e f=ad<->pb d e f){out:List (List Nat)}(t:wW d L of (λ_=>ab) out):fa n D=out:=by
 have y:Z L<=n:=by
  have key:∀c,c<=Z L->∃a:List Nat,Z a=c/\a.Nodup/\(∀b∈a,b<n/\of b<c):=by
   intro c;induction c with
   |zero=>simp
   |succ c k=>
    intro i;let⟨a,l,m,o⟩:=k (by omega);have x:=(g.mem c i _).1 (g.hd i).1;refine⟨qX L c::a,by simp[l],?_,λb j=>?_⟩;grind;grind
  let⟨a,l,m,o⟩:=key (Z L) (c5 _);have u:∀(n:Nat)(a:List Nat),a.Nodup->(∀b∈a,b<n)->Z a<=n:=by
   intro n;induction n with
   |zero=>
    intro a _ h;rcases a with _|⟨b,a⟩;simp;have:=h b (by simp);omega
   |succ n k=>
    intro a p h;have v:=k (a.filter λb=>b !=n) (p.sublist IX) (λb j=>by
     have i:=l4.1 j;have:=h b i.1;have q:=i.2;simp at q;omega)
    have w:Z a<=Z (a.filter λb=>b !=n)+1:=by
     induction a with
     |nil=>simp
     |cons b a k=>
      rw[kZ]at p;grind[List.filter_eq_self]
    omega
  have:=u n a m λb j=>(o b j).1;omega
 apply aj3 g s r t (λ_ _ _ h=>by cases h) n;grind[Ht]
end
end Law
namespace AM
variable{M:List Obj}{E:AV}{fk:List (List Nat)}{b0:List (List AV)}{c9:Md}{U:Nat}{bq:List Nat}{iy:AV -> List Obj -> Prop}{ct:Nat -> Bool}{K:Type}{a7:K -> List AV}{x:List K}{N:Nat}{hL:Obj}{T F:Bool}
section
open Go.Law
variable{n:Nat}
def cG(g:List Nat):List AV:=[eS ab cN g]
@[simp] theorem aj5(g:List Nat):bS (cG g):=by simp[cG]
@[simp] theorem au0(a:Bool)(b:List (List Nat)):Im (eS a cG b):=ny aj5 a b
@[simp] theorem D2(g:List Nat):Z (cG g)=1:=rfl
@[simp] theorem zU(g:List Nat):(cG g)[0]?=aa (eS ab cN g):=rfl
structure uu(H:List Obj)(v:AV)(L:List (List Nat))(rows:List (List AV)):Prop where
 len:Z rows=Z L
 each:∀i(h:i<Z L),∃id gg,rows[i]?=aa [.q id gg 0 (Z L[i])]/\H[id]?=aa (.arr gg 1 (L[i].map cN))/\2<=id/\∀io go k,v=.q io go 0 k->id≠io
 v:(L=[]/\v=.dG)\/∃io go,v=.q io go 0 (Z L)/\H[io]?=aa (.arr go 1 rows)/\2<=io
theorem uu.mono{H':List Obj}(h:uu M E fk b0)(e:∀(d:Nat)(f:Obj),2<=d->M[d]?=aa f->H'[d]?=aa f):uu H' E fk b0:=by
 refine⟨h.len,λk j=>?_,?_⟩;let⟨id,g,a,c,b,i⟩:=h.each k j;exact⟨id,g,a,e _ _ b c,b,i⟩;rcases h.v with a|⟨io,go,a,c,b⟩;exact .inl a;exact .inr ⟨io,go,a,e _ _ b c,b⟩
theorem uu.pl(h:uu M E fk b0):E.pl=E:=by
 rcases h.v with⟨-,a⟩|⟨io,go,a,-⟩<;>rw[a]<;>rfl
theorem V1:∀{c b:List (List AV)},Z c=Z b->(∀a(h:a<Z c)(i:a<Z b),b6 M c9 c[a] b[a])->fF M c9 c b
 |[],[],_,_=>.nil _
 |r::c,g::b,f,h=>.ck (h 0 (by simp) (by simp)) (V1 (by simpa using f) λa d e=>by
  have:=h (a+1) (by simpa using d) (by simpa using e);simpa using this)
theorem uu.res(h:uu M E fk b0):aM M .res E.pl (eS ab cG fk):=by
 rw[h.pl];rcases h.v with⟨e,a⟩|⟨io,go,a,f,k⟩;rw[a,e];exact .dG _ _;rw[a];refine .pE io go 0 _ 1 b0 _ f (by simp[h.len]) ?_;rw[ll,gP (by simp[h.len])];refine V1 (by simp[h.len]) λc b l=>?_;have g:c<Z fk:=by rw[<-h.len];exact b
 let⟨id,j,d,i,_,_⟩:=h.each c g;rw[bu b,e1]at d;rw[d,xq];exact .ck (h8 i (by simp)) (.nil _)
theorem uu.app(h:uu M E fk b0)(u:2<=Z M){id:Nat}(k:M[id]?=aa (.arr U 1 (bq.map cN)))(s:2<=id)(H:∀io go e,E=.q io go 0 e->id≠io)(Q:Z fk<1000000)
 (e:∀y g O,uu g y (fk++[bq]) O->(∀(d:Nat),d<2->g[d]?=M[d]?)->2<=Z g->iy y g):cj (cJ 1 24 E (.sl ab [[.q id U 0 (Z bq)]]) M) iy:=by
 rcases h.v with⟨r,b⟩|⟨io,go,b,t,D⟩;have I:b0=[]:=I3.1 (by rw[h.len,r]<;>rfl);subst I;subst r;rw[b];apply aY (pX (a7:=λf:List AV=>f) (x:=[[.q id U 0 (Z bq)]]) rfl rfl (by simp));have F:id<Z M:=(fM.1 k).1;refine e _ _ [[.q id U 0 (Z bq)]] ⟨rfl,λc l=>?_,.inr ⟨Z M,0,rfl,by simp,u⟩⟩ (λd G=>by rw[oA (by omega)]) (by simp;omega);have:c=0:=by simp at l;omega
 subst this;refine⟨id,U,rfl,by rw[oA F];exact k,s,λio go e a=>?_⟩;injection a with p;omega;have x:io<Z M:=(fM.1 t).1;have a:aX M io 1 (λf:List AV=>f) go b0=M:=by
  simp only[aX,I4];let⟨n,o⟩:=fM.1 t;rw[<-o];exact yX n
 have w:=pW (M:=M) (id:=io) (U:=1) (bytes:=24) (N:=go) (a7:=λf:List AV=>f) (x:=b0) [.q id U 0 (Z bq)] x rfl (by rw[h.len];omega);rw[a,h.len]at w;rw[b];apply aY w;simp only[aX,I4];refine e _ _ (b0++[[.q id U 0 (Z bq)]]) ⟨by simp[h.len],λc l=>?_,.inr ⟨io,go+1,by simp[h.len],by rw[IY x],D⟩⟩ (λd G=>by rw[vR (by omega)]) (by simpa using u);by_cases i:c<Z fk;let⟨z,A,n,o,L,N⟩:=h.each c i
 have m:=N io go _ b;refine⟨z,A,?_,?_,L,λJ C K j=>?_⟩;rw[oA (by rw[h.len];exact i),aaL i];exact n;rw[vR (λa=>m a.symm),aaL i];exact o;injection j with p;omega;have:c=Z fk:=by simp at l;omega
 subst this;have m:=H io go _ b;refine⟨id,U,?_,?_,s,λJ C K j=>?_⟩;rw[OH (by rw[h.len];exact c5 _)];simp[h.len];rw[vR (λa=>m a.symm)];simpa using k;injection j with p;omega
theorem aj6(a:Nat):(ay (a+1)).all ct=((ay a).all ct&&ct a):=DN a
theorem aj7(b:cA)(a:Nat):cQ b a a=true:=by simp[cQ]
theorem aj8(h:N<Z M):(oh M U a7 x).set N hL=oh (M.set N hL) U a7 x:=by
 unfold oh;split;rfl;rw[arQ _ _ h]
theorem aj9(h:N<Z M):(oh M U a7 x)[N]?=M[N]?:=by
 unfold oh;split;rfl;rw[oA h]
theorem zW(H:D)(a3:mn H):PR C 10 [.agg (cP T F H)] (eS ab cG (fa (Z H.Q) (c4 H))):=by
 refine ae6.pr ?_;simp only[eP,O,e3,ft,gS,dK,eU];refine c (Hd H a3) ?_;have ge:=a3.2.2;simp only[Bx,O];generalize c4 H=f at*;generalize Z H.Q=n at*;refine aY (rY (by omega) (by omega)) ?_;rw[BA];simp only[hD,dK,jW]
 refine bG (K:=Nat×AV×List (List AV)×List (List Nat)×(Nat->Bool)×List Obj×AV) (λk=>[k.2.2.2.2.2.2,k.2.1,I k.1]) (λk=>k.2.2.2.2.2.1) (λk=>n -k.1) (λk=>k.1<=n/\Z k.2.2.2.1=k.1/\k.2.2.2.2.2.1[1]?=aa (fz n k.2.2.2.2.1)/\uu k.2.2.2.2.2.1 k.2.1 k.2.2.2.1 k.2.2.1/\fa n f=k.2.2.2.1++kz n f (n -k.1) k.2.2.2.2.1) (0,.dG,[],[],(λ_=>ab),[.arr 0 1 [],fz n λ_=>ab],.q 0 0 0 0) ⟨by simp,rfl,rfl,⟨rfl,by simp,.inl ⟨rfl,rfl⟩⟩,by simp[fa]⟩ ?_
 rintro⟨J,S,g0,bm,done,l,a5⟩ ⟨c2,aA,E,N,t⟩ az a4;simp only at c2 aA E N t a4⊢;simp only[i,G,A,O,a];have M:1<Z l:=(fM.1 E).1;refine b (λh=>?_) (λh=>?_)
 ·have h:J<n:=by simpa using h
  have d2:n -J=(n -(J+1))+1:=by omega
  rw[d2,kz]at t;have eq:∀d,(ay n).find? (mV n f done)=aa d->d<n->jA (λu K em=>
   bd (gk .sl (eM n f) K) λfd=>
   bd (aT .s .lss (g u 1) fd) λfn=>
   ez fn (
   jn (λwo=>
   cp C 41 [eM n f,I d,(g u 1)] K λfx=>
   ez fx (
   bd (fQ 1 [(I 0)] 1 [(0,(g u 1))]) λf0=>
   cj (cJ 1 8 (g u 0) f0 K) λam L=>
   bd (bT 1 (.q 1 0 0 n) (g u 1) L) λau=>
   bd (dp 1 au tt L) λah=>
   wo [am] ah) (
   wo [(g u 0)] K)) λbr bD=>
   bd (aT .s .add (g u 1) (I 1)) λax=>
   em [(g br 0),ax] bD) (
   bd (fQ 1 [.aq] 1 [(0,(g u 0))]) λf1=>
   cj (cJ 1 24 S f1 K) λf2 ca=>
   bd (aT .s .add (I J) (I 1)) λf3=>
   az [a5,f2,f3] ca)) [.dG,(I 0)] l:=by
   intro d cs r;rw[cs]at t;simp only at t;refine bG (K:=Nat) (λT=>[og (Z l) ((ay T).filter (cQ f d)),I T]) (λT=>oh (l.set 1 (fz n λe=>done e||(y (e<T)&&cQ f d e))) 1 cN ((ay T).filter (cQ f d))) (λT=>n -T) (λT=>T<=n) 0 (by simp) ?_ (by simp[og]) ?_
   rotate_left
   have:fz n (λe=>done e||(y (e<0)&&cQ f d e))=fz n done:=zD λm _=>by simp
   simp only[List.range_zero,List.filter_nil,oh,eU,if_true,this];obtain⟨bv,j⟩:=fM.1 E;rw[<-j];exact yX bv;intro T co U d9;have Y:Z (l.set 1 (fz n λe=>done e||(y (e<T)&&cQ f d e)))=Z l:=by simp
   have f9:Z ((ay T).filter (cQ f d))<=T:=by
    have:=pA (cQ f d) (ay T);simpa using this
   simp only[Bx,O,i,G,A,a];refine b (λj=>?_) (λj=>?_);have j:T<n:=by simpa using j
   have R:=d9 (T+1) j (by omega);refine c (Lt r j) ?_;have d7:(d==T||f d T&&f T d)=cQ f d T:=rfl;rw[d7];have a2:(ay (T+1)).filter (cQ f d)=(ay T).filter (cQ f d)++if cQ f d T=ad then[T]else[]:=by
    rw[uK,yS]
    congr 1
    cases d5:cQ f d T<;>simp[d5]
   refine b (λo=>?_) (λo=>?_);rw[a2,if_pos o]at R;rw[Bv,O];have:=Vn (M:=l.set 1 (fz n λe=>done e||(y (e<T)&&cQ f d e))) (U:=1) (bytes:=8) (a7:=cN) (x:=(ay T).filter (cQ f d)) (dR:=T) (iy:=λam L=>bd (bT 1 (.q 1 0 0 n) (I T) L) λau=>bd (dp 1 au tt L) λah=>bd (aT .s .add (I T) (I 1)) λax=>U [am,ax] ah) rfl (by omega) ?_;rw[Y]at this;exact this;rw[Y]
   have aE:(oh (l.set 1 (fz n λe=>done e||(y (e<T)&&cQ f d e))) 1 cN ((ay T).filter (cQ f d)++[T]))[1]?=aa (fz n λe=>done e||(y (e<T)&&cQ f d e)):=by
    rw[aj9 (by rw[Y];exact M),IY M]
   refine aI (fu aE j) (aI (DO aE j) ?_);rw[a6,O,aj8 (by rw[Y];exact M),IV];have P:fz n (λm=>if m=T then ad else done m||(y (m<T)&&cQ f d m))=fz n (λe=>done e||(y (e<T+1)&&cQ f d e)):=zD λm _=>by
    by_cases p:m=T;subst p;simp[o];rw[if_neg p];have:y (m<T+1)=y (m<T):=by rw[decide_eq_decide];omega
    rw[this]
   rw[P];exact R;rw[a2,if_neg (by rw[o];decide),sO]at R;rw[a6,O];have P:fz n (λe=>done e||(y (e<T+1)&&cQ f d e))=fz n (λe=>done e||(y (e<T)&&cQ f d e)):=zD λm _=>by
    by_cases p:m=T;subst p;simp[o];have:y (m<T+1)=y (m<T):=by rw[decide_eq_decide];omega
    rw[this]
   rw[P]at R;exact R;have:T=n:=by simp at j;omega
   subst this;have P:fz T (λe=>done e||(y (e<T)&&cQ f d e))=fz T (λe=>done e||cQ f d e):=zD λm c1=>by simp[c1]
   rw[P];have d0:Z ((ay T).filter (cQ f d))≠0:=by
    intro p;have:=I3.1 p;have a0:d∈(ay T).filter (cQ f d):=by rw[l4];exact⟨by simpa using r,aj7 f d⟩
    rw[this]at a0;cases a0
   generalize gc:(ay T).filter (cQ f d)=x at*;simp only[og,oh,if_neg d0];refine aI (dR:=.sl ab [[.q (Z l) (Z x -1) 0 (Z x)]]) rfl ?_;have X:Z (l.set 1 (fz T λe=>done e||cQ f d e))=Z l:=by simp
   generalize V:l.set 1 (fz T λe=>done e||cQ f d e)++[Obj.arr (Z x -1) 1 (x.map cN)]=ac;have d3:∀(w:Nat)(ak:Obj),2<=w->l[w]?=aa ak->ac[w]?=aa ak:=by
    intro w ak W aZ;have:=(fM.1 aZ).1;rw[<-V,oA (by rw[X];exact this),vR (by omega)];exact aZ
   have cl:=N.mono d3;have d1:ac[Z l]?=aa (.arr (Z x -1) 1 (x.map cN)):=by
    rw[<-V,OH (by rw[X];exact c5 _),X];simp
   have ce:ac[1]?=aa (fz T λe=>done e||cQ f d e):=by
    rw[<-V,oA (by rw[X];exact M),IY M]
   refine cl.app (by rw[<-V];simp;omega) d1 (by omega) (λio go gQ p=>?_) (by omega) λes be eo ci dl f8=>?_;rcases N.v with⟨-,B⟩|⟨gt,f7,B,cc,-⟩;rw[B]at p;cases p;rw[B]at p;injection p with f5;have:=(fM.1 cc).1;omega;rw[a6,O];refine a4 (J+1,es,eo,bm++[x],(λe=>done e||cQ f d e),be,a5) ⟨h,by simp[aA],by rw[dl 1 (by omega)];exact ce,ci,?_⟩ (by simp;omega);rw[t,gY]<;>rfl
  refine UJ n (mV n f done) rfl (λd U r d8 ds=>?_) (λd U r d4 aj=>?_) (λaj U=>?_);simp only[bw,O,i,G,A,a,r,decide_true];refine aW (λ_=>a8 ?_) (λh=>by cases h);refine aI (fu E r) (aI (dR:=.bool (done d)) (by rw[cY E (G5 r)]<;>rfl) ?_);simp only[bK,O];refine bG (K:=Nat) (λT=>[.bool (!done d&&(ay T).all λT=> !f d T||done T||cQ f d T),I T]) (λ_=>l) (λT=>n -T) (λT=>T<=n) 0 (by simp) ?_ (by simp) rfl
  intro T co bi el;simp only[O,i,G,A,a];refine b (λj=>?_) (λj=>?_);have j:T<n:=by simpa using j
  have a9:=el (T+1) j (by omega);rw[aj6,<-aaM]at a9;have z:∀S:Bool,((!done d&&(ay T).all λT=> !f d T||done T||cQ f d T)&&(!f d T||done T||cQ f d T))=S->bd (aT .s .add (I T) (I 1)) λex=>bi [.bool S,ex] l:=by
   rintro S rfl;rw[a6,O];exact a9
  refine aW (λo=>?_) (λo=>z _ (by rw[o]<;>rfl));rw[o,cZ]at z;simp only[wO r,O,aK,By,uh j,zq,bK];refine h7 (λaf=>?_) (λaf=>z _ (by rw[af]<;>rfl));rw[af,sN,l3]at z;refine aI (fu E j) (aI (dR:=.bool (done T)) (by rw[cY E (G5 j)]<;>rfl) ?_);refine ei (λB=>?_) (λB=>z _ (by rw[B]<;>rfl));rw[B,l3]at z;exact c (Lt r j) (z _ rfl);have:T=n:=by simp at j;omega
  subst this;have d6:(!done d&&(ay T).all λe=> !f d e||done e||cQ f d e)=mV T f done d:=rfl;rw[d6];refine b (λo=>?_) (λo=>?_);rw[a6,O];exact d8 o;rw[a6,O];exact ds o;have ai:(ay n).find? (mV n f done)=aa d:=by
   rw[yW];exact⟨d4,by simpa using r,λw W=>by rw[aj w W]<;>rfl⟩
  have aR:y ((d:Int)<0)=false:=by simp
  have tk:=eq d ai r;simp only[bw,O,i,G,Bx,A]at tk⊢;refine aW (λ_=>?_) (λ_=>?_);rw[aR];refine bz ?_;rw[c3,if_neg (by decide)];exact tk;rw[aR];refine bz ?_;rw[c3,if_neg (by decide)];exact tk;have ai:(ay n).find? (mV n f done)=none:=by
   rw[E5];intro w W;rw[aj w (by simpa using W)];decide
  rw[ai]at t;simp only[sO]at t;simp only[bw,O,i,G,A,a,cn,decide_false];refine aW (λh=>by cases h) (λ_=>?_);rw[c3,if_neg (by decide)];refine a8 ?_;rw[t];exact N.res
 have:n -J=0:=by simp at h;omega
 rw[this,kz,sO]at t;rw[t];exact N.res
end
inductive gU
 |ty(t:aJ)(k:Int)
 |eq(a b:aJ)
def ek(b:d->Int)(a:aJ):Int:=if a.aE=[]then a.const.ty else b a.aE
def gU.sat(a:d->Int):gU->Prop
 |.ty f e=>ek a f=e
 |.eq b c=>ek a b=ek a c
def lW(C:List gU):Prop:=∃b,∀a∈C,a.sat b
variable{mE:List gU}
theorem lW.mono{C:List gU}(h:∀a∈C,a∈mE):lW mE->lW C:=λ⟨b,c⟩=>⟨b,by grind⟩
structure w where
 aA:List d
 aZ:List Int
 ok:Bool
def w.look(a:w)(c:d):Int:=match a.aA.findIdx? (λe=>e==c)with|aa b=>a.aZ.getD b 0|ae=>0
def w.of(b:w)(a:aJ):Int:=if a.aE=[]then a.const.ty else b.look a.aE
def w.set(a:w)(t:aJ)(b:Int):w:=
 if b=0 then a else if t.aE≠[]/\t.aE∉a.aA then⟨a.aA++[t.aE],a.aZ++[b],a.ok⟩else{a with ok:=a.ok&&a.of t==b}
def w.eql(a:w)(b c:aJ):w:=(a.set b (a.of c)).set c ((a.set b (a.of c)).of b)
def w.round(a:w)(c:List (aJ×aJ)):w:=c.foldl (λa b=>a.eql b.1 b.2) a
def w.h9(a:w)(c:List (aJ×Int)):w:=c.foldl (λa b=>a.set b.1 b.2) a
def w.rounds(b:List (aJ×aJ)):Nat->w->w
 |0,a=>a
 |n+1,a=>w.rounds b n (a.round b)
structure w.Ok(s:w):Prop where
 len:Z s.aZ=Z s.aA
 nz:∀k∈s.aZ,k≠0
variable{r:w}{bL:d}
theorem LX(h:bL∉r.aA):r.look bL=0:=by
 grind[w.look]
theorem LY(b:r.Ok)(h:bL∈r.aA):r.look bL≠0:=by
 unfold w.look;rcases c:r.aA.findIdx? (λf=>f==bL)with _|i;grind;have e:=(qm.1 c).1;have a:i<Z r.aZ:=by rw[b.len];exact e
 simp only[pz,bu a,nR];exact b.nz _ (bp a)
theorem LZ(a:r.Ok):r.look bL≠0<->bL∈r.aA:=
 by grind[LX,LY]
variable{p:List d}{mD:d}
theorem aka:(p++[mD]).findIdx? (λa=>a==bL)=match p.findIdx? (λa=>a==bL)with|aa b=>aa b|ae=>if mD==bL then aa (Z p)else none:=by
 grind
variable{f:Int}
theorem L0(c:r.Ok)(j:mD∉r.aA):(w.mk (r.aA++[mD]) (r.aZ++[f]) r.ok).look bL=if bL=mD then f else r.look bL:=by
 unfold w.look;simp only[aka];rcases g:r.aA.findIdx? (λk=>k==bL)with _|i;by_cases e:bL=mD;subst e;simp only[beq_self_eq_true,if_true,pz];rw[<-c.len,OH (c5 _)];simp;grind;let⟨a,b,_⟩:=qm.1 g;have h:bL≠mD:=by
  rintro rfl;simp only[beq_iff_eq]at b;exact j (b▸bp a)
 rw[if_neg h];have l:i<Z r.aZ:=by rw[c.len];exact a
 grind
structure w.Le(s s':w):Prop where
 aA:∀x∈s.aA,x∈s'.aA
 look:∀x∈s.aA,s'.look x=s.look x
 ok:s'.ok=ad->s.ok=ad
 len:Z s.aA<=Z s'.aA
theorem w.Le.refl(a:w):a.Le a:=⟨λ_ h=>h,λ_ _=>rfl,λh=>h,c5 _⟩
theorem w.Le.trans{d e:w}(h:r.Le d)(b:d.Le e):r.Le e:=
 ⟨λa c=>b.aA a (h.aA a c),λa c=>(b.look a (h.aA a c)).trans (h.look a c),λf=>h.ok (b.ok f),iP h.len b.len⟩
theorem w.ti(a:r.Ok)(d:aJ)(c:Int):(r.set d c).Ok/\r.Le (r.set d c):=by
 unfold w.set;split;exact⟨a,.refl r⟩;rename_i f;split;rename_i h;refine⟨⟨by simp[a.len],λe b=>?_⟩,by grind,λi g=>?_,λh=>h,by simp⟩;rcases dm.1 b with b|b;exact a.nz e b;grind;grind[L0];exact⟨⟨a.len,a.nz⟩,λ_ h=>h,λ_ _=>rfl,by grind,c5 _⟩
variable{bQ:aJ}
theorem w.of_le{a:w}(h:r.Le a)(b:bQ.aE=[]\/bQ.aE∈r.aA):a.of bQ=r.of bQ:=by
 unfold w.of;split;rfl;rename_i c;exact h.look _ (b.resolve_left c)
theorem w.akb(c:r.Ok)(b:f≠0)(a:(r.set bQ f).ok=ad):(r.set bQ f).of bQ=f/\(bQ.aE=[]\/bQ.aE∈(r.set bQ f).aA):=by
 unfold w.set at*;rw[if_neg b]at*;split;grind[w.of,L0];rename_i h;rw[if_neg h]at a;simp only[bc,beq_iff_eq]at a;refine⟨a.2,?_⟩;grind
theorem w.L1(e:r.Ok)(a b:aJ):(r.eql a b).Ok/\r.Le (r.eql a b):=by
 have c:=w.ti e a (r.of b);have d:=w.ti c.1 b ((r.set a (r.of b)).of a);exact⟨d.1,c.2.trans d.2⟩
theorem w.ys:∀(b:List (aJ×aJ)){a:w},a.Ok->(a.round b).Ok/\a.Le (a.round b)
 |[],a,c=>⟨c,.refl a⟩
 |x::b,a,c=>by
  have d:=w.L1 c x.1 x.2;have e:=w.ys b d.1;exact⟨e.1,d.2.trans e.2⟩
theorem w.zX:∀(b:List (aJ×Int)){a:w},a.Ok->(a.h9 b).Ok/\a.Le (a.h9 b)
 |[],a,c=>⟨c,.refl a⟩
 |x::b,a,c=>by
  have d:=w.ti c x.1 x.2;have e:=w.zX b d.1;exact⟨e.1,d.2.trans e.2⟩
theorem w.Hu{b:List (aJ×aJ)}:∀(n:Nat){a:w},a.Ok->(w.rounds b n a).Ok/\a.Le (w.rounds b n a)
 |0,a,c=>⟨c,.refl a⟩
 |n+1,a,c=>by
  have d:=w.ys b c;have e:=w.Hu (b:=b) n d.1;exact⟨e.1,d.2.trans e.2⟩
def w.qY(a:w)(c:d->Int):Prop:=∀b∈a.aA,a.look b=c b
variable{dO:d -> Int}
theorem w.qY.of(b:r.Ok)(h:r.qY dO)(a:r.of bQ≠0):r.of bQ=ek dO bQ:=by
 unfold w.of ek at*;split;rfl;rename_i c;rw[if_neg c]at a;exact h _ ((LZ b).1 a)
theorem w.V2(j:r.Ok)(h:r.qY dO)(c:r.ok=ad)(b:ek dO bQ=f):(r.set bQ f).qY dO/\(r.set bQ f).ok=true:=by
 unfold w.set;split;grind;rename_i m;split;rename_i e;refine⟨λk a=>?_,c⟩;rw[L0 j e.2];split;grind[ek];rename_i l;rcases dm.1 a with a|a;exact h k a;grind;rename_i e;refine⟨h,?_⟩;simp only[c,cZ,beq_iff_eq];by_cases g:bQ.aE=[];grind[ek,w.of];have i:bQ.aE∈r.aA:=by grind
 unfold ek at b;unfold w.of;rw[if_neg g]at*;rw[h _ i];exact b
theorem w.V3(c:r.Ok)(h:r.qY dO)(b:r.ok=ad)(a:f≠0->ek dO bQ=f):(r.set bQ f).qY dO/\(r.set bQ f).ok=true:=by
 grind[w.set,w.V2]
variable{rj:aJ}
theorem w.akc(c:r.Ok)(h:r.qY dO)(g:r.ok=ad)(e:ek dO bQ=ek dO rj):(r.eql bQ rj).qY dO/\(r.eql bQ rj).ok=true:=by
 have b:=w.V3 c h g (bQ:=bQ) (f:=r.of rj) (λa=>by rw[e,h.of c a]);have f:=(w.ti c bQ (r.of rj)).1;exact w.V3 f b.1 b.2 (λa=>by rw[<-e,b.1.of f a])
theorem w.V4:∀(b:List (aJ×aJ)){a:w},a.Ok->a.qY dO->a.ok=ad->(∀x∈b,ek dO x.1=ek dO x.2)->(a.round b).qY dO/\(a.round b).ok=ad
 |[],a,_,h,c,_=>⟨h,c⟩
 |x::b,a,f,h,c,g=>by
  have e:=w.akc f h c (g x (by simp));exact w.V4 b (w.L1 f x.1 x.2).1 e.1 e.2 (by grind)
theorem w.V5:∀(b:List (aJ×Int)){a:w},a.Ok->a.qY dO->a.ok=ad->(∀x∈b,ek dO x.1=x.2)->(a.h9 b).qY dO/\(a.h9 b).ok=ad
 |[],a,_,h,c,_=>⟨h,c⟩
 |x::b,a,f,h,c,g=>by
  have e:=w.V2 f h c (g x (by simp));exact w.V5 b (w.ti f x.1 x.2).1 e.1 e.2 (by grind)
theorem w.V6{b:List (aJ×aJ)}(f:∀i∈b,ek dO i.1=ek dO i.2):∀(n:Nat){a:w},a.Ok->a.qY dO->a.ok=ad->(w.rounds b n a).qY dO/\(w.rounds b n a).ok=ad
 |0,a,_,h,c=>⟨h,c⟩
 |n+1,a,g,h,c=>by
  have e:=w.V4 b g h c f;exact w.V6 f n (w.ys b g).1 e.1 e.2
def w.both(a:w)(b:aJ×aJ):Bool:=a.of b.1 !=0&&a.of b.2 !=0
def w.kn(b:w)(a:List (aJ×aJ)):Nat:=Z (a.filter b.both)
theorem w.BQ{a:w}(c:r.Ok)(h:r.Le a)(b:r.of bQ≠0):a.of bQ=r.of bQ:=by
 grind[w.of_le,w.of,LZ]
theorem w.L2{a:w}(d:r.Ok)(h:r.Le a){b:aJ×aJ}(c:r.both b=ad):a.both b=true:=by
 simp only[w.both,bc,bne_iff_ne,ne_eq]at c⊢;grind[w.BQ]
variable{ea:K -> Bool}
theorem V7{b:K->Bool}(h:∀x,ea x=ad->b x=ad):∀a:List K,Z (a.filter ea)<=Z (a.filter b)
 |[]=>c5 _
 |x::a=>by
  have c:=V7 h a;grind
theorem V8{d:K->Bool}(h:∀x,ea x=ad->d x=ad):∀{a:List K}{b:K},b∈a->d b=ad->ea b=ab->Z (a.filter ea)<Z (a.filter d)
 |x::a,b,c,f,e=>by
  simp only[EY];rcases b5.1 c with rfl|c;have:=V7 h a;grind;have g:=V8 h c f e;grind
theorem w.V9:Z (r.set bQ f).aA=Z r.aA\/(f≠0/\bQ.aE≠[]/\bQ.aE∉r.aA):=by
 grind[w.set]
theorem w.Wa(c:r.Ok)(b:f≠0)(a:bQ.aE≠[]):(r.set bQ f).of bQ≠0:=by
 unfold w.of;rw[if_neg a];grind[LY,w.ti,w.set]
theorem w.akd(j:r.Ok)(b a:aJ):Z (r.eql b a).aA=Z r.aA\/(r.both (b,a)=ab/\(r.eql b a).both (b,a)=ad):=by
 have c:=w.ti j b (r.of a);have i:=w.ti c.1 a ((r.set b (r.of a)).of b);rcases w.V9 (r:=r) (bQ:=b) (f:=r.of a)with m|⟨d,g,l⟩;rcases w.V9 (r:=r.set b (r.of a)) (bQ:=a) (f:=(r.set b (r.of a)).of b)with n|⟨d,g,l⟩;exact .inl (n.trans m);refine .inr ⟨?_,?_⟩;have:r.of a=0:=by
  unfold w.of;rw[if_neg g];exact LX λh=>l (c.2.aA _ h)
 simp[w.both,this];have e:(r.eql b a).of b≠0:=by
  rw[w.eql,w.BQ c.1 i.2 d];exact d
 have f:=w.Wa c.1 (bQ:=a) d g;simp only[w.both,bc,bne_iff_ne,ne_eq];exact⟨e,f⟩;refine .inr ⟨?_,?_⟩;simp_all[w.of,LX,w.both];have e:=w.Wa j (bQ:=b) d g;have f:(r.set b (r.of a)).of a≠0:=by rw[w.BQ j c.2 d];exact d
 simp only[w.both,bc,bne_iff_ne,ne_eq];exact⟨by rw[w.eql,w.BQ c.1 i.2 e];exact e,by rw[w.eql,w.BQ c.1 i.2 f];exact f⟩
theorem w.Wb:∀(b:List (aJ×aJ)){a:w},a.Ok->Z (a.round b).aA≠Z a.aA->∃x∈b,a.both x=ab/\(a.round b).both x=ad
 |[],a,_,h=>absurd rfl h
 |x::b,a,d,h=>by
  have c:=w.L1 d x.1 x.2;have i:=w.ys b c.1;rcases w.akd d x.1 x.2 with e|⟨f,g⟩;let⟨l,j,m,k⟩:=w.Wb b c.1 (by rw[e];exact h);refine⟨l,by simp[j],?_,k⟩;grind[w.L2];exact⟨x,by simp,f,w.L2 c.1 i.2 g⟩
theorem w.ake{a:List (aJ×aJ)}(d:r.Ok)(h:Z (r.round a).aA≠Z r.aA):r.kn a<(r.round a).kn a:=by
 let⟨f,e,b,c⟩:=w.Wb a d h;exact V8 (by grind[w.L2,w.ys]) e c b
theorem w.still{b:List (aJ×aJ)}:∀(n:Nat){a:w},a.Ok->Z b<a.kn b+n->(w.rounds b n a).ok=ad->∃c:w,c.Ok/\a.Le c/\Z (c.round b).aA=Z c.aA/\(c.round b).ok=ad
 |0,a,_,h,_=>by
  have:a.kn b<=Z b:=pA _ _;omega
 |n+1,a,e,h,g=>by
  have d:=w.ys b e;by_cases f:Z (a.round b).aA=Z a.aA;exact⟨a,e,.refl a,f,(w.Hu n d.1).2.ok g⟩;have:=w.ake e f;let⟨c,i,j,k⟩:=w.still n d.1 (by omega) g;exact⟨c,i,d.2.trans j,k⟩
theorem w.akf(b:r.Ok)(h:Z (r.set bQ f).aA=Z r.aA)(a:(r.set bQ f).ok=ad):f≠0->r.of bQ=f:=by
 grind[w.set]
theorem w.L3(h:Z (r.set bQ f).aA=Z r.aA):∀a:aJ,(r.set bQ f).of a=r.of a:=by
 intro a;unfold w.set at h⊢;split;rfl;rename_i b;rw[if_neg b]at h;split;grind;rfl
theorem w.Wc:∀(b:List (aJ×aJ)){a:w},a.Ok->Z (a.round b).aA=Z a.aA->(a.round b).ok=ad->∀f∈b,a.of f.1=a.of f.2
 |[],_,_,_,_=>by simp
 |y::b,a,m,h,d=>by
  have g:=w.ti m y.1 (a.of y.2);have c:=w.ti g.1 y.2 ((a.set y.1 (a.of y.2)).of y.1);have i:=w.ys b c.1;have e0:a.round (y::b)=(((a.set y.1 (a.of y.2)).set y.2 ((a.set y.1 (a.of y.2)).of y.1))).round b:=rfl;rw[e0]at h d;have o:=g.2.len;have p:=c.2.len;have q:=i.2.len;have k:Z (a.set y.1 (a.of y.2)).aA=Z a.aA:=by omega
  have l:Z ((a.set y.1 (a.of y.2)).set y.2 ((a.set y.1 (a.of y.2)).of y.1)).aA=Z (a.set y.1 (a.of y.2)).aA:=by omega
  have n:=i.2.ok d;have r:=c.2.ok n;have hyp:=w.Wc b c.1 (by omega) d;have s:∀e,((a.set y.1 (a.of y.2)).set y.2 ((a.set y.1 (a.of y.2)).of y.1)).of e=a.of e:=λe=>by rw[w.L3 l,w.L3 k]
  intro f j;rcases b5.1 j with rfl|j;grind[w.akf,w.L3];grind
theorem w.Wd:∀(a:List (aJ×Int)){c:w},c.Ok->(c.h9 a).ok=ad->(∀b∈a,b.2≠0)->∀b∈a,(c.h9 a).of b.1=b.2/\(c.h9 a).of b.1≠0
 |[],_,_,_,_=>by simp
 |y::a,c,g,f,j=>by
  have e:=w.ti g y.1 y.2;have h:=w.zX a e.1;intro b d;rcases b5.1 d with rfl|d;have i:=j b (by simp);have:=w.akb g i (h.2.ok f);grind[w.of,w.h9,w.of_le];exact w.Wd a e.1 f (by grind) b d
def wX(b:List (aJ×Int))(c:List (aJ×aJ)):List gU:=b.map (λa=>.ty a.1 a.2)++c.map λa=>.eq a.1 a.2
theorem akg{b:List (aJ×Int)}{d:List (aJ×aJ)}(E:Z d<U)(y:∀a∈b,a.2≠0)(D:∀a∈d,(a.1.aE=[]->a.1.const.ty≠0)/\(a.2.aE=[]->a.2.const.ty≠0)):
 (w.rounds d U (w.h9 ⟨[],[],ad⟩ b)).ok=ad<->lW (wX b d):=by
 have i:(w.mk [] [] ad).Ok:=⟨rfl,by simp⟩;have f:=w.zX b i;constructor;intro m;let⟨e,v,s,t,u⟩:=w.still U f.1 (by omega) m;have x:=w.Wc d v t u;have r:=w.Wd b i ((w.Hu U f.1).2.ok m) y;refine⟨λa=>if a∈e.aA then e.look a else 1,λz o=>?_⟩;have F:∀g:aJ,e.of g≠0->ek (λa=>if a∈e.aA then e.look a else 1) g=e.of g:=by
  intro g j;unfold ek w.of at*;split;rfl;simp_all[LZ]
 rcases dm.1 o with h|h;obtain⟨a,c,rfl⟩:=cy.1 h;let⟨B,n⟩:=r a c;have C:=w.BQ f.1 s n;show ek _ a.1=a.2;grind;obtain⟨a,c,rfl⟩:=cy.1 h;have A:=x a c;show ek _ a.1=ek _ a.2;grind[ek,w.of,LY];rintro⟨k,j⟩;have p:∀a∈b,ek k a.1=a.2:=λa c=>j (.ty a.1 a.2) (dm.2 (by grind));have q:∀a∈d,ek k a.1=ek k a.2:=λa c=>j (.eq a.1 a.2) (dm.2 (by grind));have l:=w.V5 b i (by intro a c;cases c) rfl p
 exact(w.V6 q U f.1 l.1 l.2).2
inductive Rt(aC:Nat->Nat):Nat->Nat->Nat->Prop
 |stop (i:Nat) (h:aC i=i):Rt aC 0 i i
 |up (n i r:Nat) (h:aC i≠i) (t:Rt aC n (aC i) r):Rt aC (n+1) i r
theorem Rt.root{aC:Nat->Nat}{r:Nat}(h:Rt aC U N r):aC r=r:=by
 induction h with
 |stop _ h=>exact h
 |up _ _ _ _ _ a=>exact a
def bN(b:Nat->K)(c:Nat)(d:K):Nat->K:=λa=>if a=c then d else b a
structure iM(V:List d)(C:List gU)(aC:Nat->Nat)(ty:Nat->Int):Prop where
 nd:V.Nodup
 nb:∀x∈V,x≠[]
 lt:∀i,i<Z V->aC i<Z V
 rt:∀i,i<Z V->∃n r,Rt aC n i r
 yt:∀i,i<Z V->0<=ty i
 wY:∀τ:d->Int,(∀c∈C,c.sat τ)<->(∀i(h:i<Z V),τ V[i]=τ (V[aC i]'(lt i h)))/\∀i(h:i<Z V),aC i=i->ty i≠0->τ V[i]=ty i
variable{dt:Nat -> Int}
theorem iM.zY{C:List gU}{aC:Nat->Nat}(h:iM p C aC dt){r:Nat}(b:Rt aC U N r)(a:N<Z p):r<Z p:=by
 induction b with
 |stop=>exact a
 |up U N r _ _ c=>exact c (h.lt N a)
theorem iM.tj{C:List gU}{aC:Nat->Nat}(h:iM p C aC dt)(c:∀N(a:N<Z p),dO p[N]=dO (p[aC N]'(h.lt N a))){r:Nat}(b:Rt aC U N r)(a:N<Z p):dO p[N]=dO (p[r]'(h.zY b a)):=by
 induction b with
 |stop=>rfl
 |up U N r _ f e=>grind
theorem Rt.fn{aC:Nat->Nat}{r:Nat}(h:Rt aC U N r):∀{c a:Nat},Rt aC c N a->r=a:=by
 induction h with
 |stop N h=>intro c a b;cases b with
  |stop=>rfl
  |up _ _ _ d=>omega
 |up U N r h g e=>intro c a b;cases b with
  |stop _ d=>omega
  |up _ _ _ _ f=>exact e f
theorem iM.sat{C:List gU}{aC:Nat->Nat}(h:iM p C aC dt):lW C:=by
 refine⟨λj=>if f:j∈p then
  (if dt (h.rt (p.idxOf j) (by grind)).choose_spec.choose≠0 then dt (h.rt (p.idxOf j) (by grind)).choose_spec.choose else 1)else 1,?_⟩
 rw[h.wY];have key:∀a(b:a<Z p){g r:Nat},Rt aC g a r->(if f:p[a]∈p then
  (if dt (h.rt (p.idxOf p[a]) (by grind)).choose_spec.choose≠0 then dt (h.rt (p.idxOf p[a]) (by grind)).choose_spec.choose else 1)else 1)=if dt r≠0 then dt r else 1:=by
  intro a b g r c;have f:p[a]∈p:=bp b;rw[dif_pos f];have n:p.idxOf p[a]=a:=by
   have:=h.nd;exact(by grind)
  have o:=(h.rt (p.idxOf p[a]) (arR f)).choose_spec.choose_spec;have e:(h.rt (p.idxOf p[a]) (by omega)).choose_spec.choose=r:=by
   have l:Rt aC g (p.idxOf p[a]) r:=by rw[n];exact c
   exact o.fn l
  rw[e]
 refine⟨λa b=>?_,λa b m u=>?_⟩;let⟨g,r,c⟩:=h.rt a b;let⟨q,k,i⟩:=h.rt (aC a) (h.lt a b);have s:=key a b c;have t:=key (aC a) (h.lt a b) i;have:r=k:=by
  by_cases e:aC a=a;exact c.fn (e▸i);exact c.fn (.up q a k e i)
 grind;have:=key a b (.stop a m);omega
variable{rb:gU}
theorem uv{C:List gU}:(∀a∈C++[rb],a.sat dO)<->(∀a∈C,a.sat dO)/\rb.sat dO:=by
 grind
theorem iM.set{C:List gU}{aC:Nat->Nat}(h:iM p C aC dt){t:aJ}(z:0<f){r:Nat}(e:U<Z p)(x:t.aE=p[U])(a:Rt aC N U r):
 (dt r=0->iM p (C++[.ty t f]) aC (bN dt r f))/\(dt r=f->iM p (C++[.ty t f]) aC dt)/\(dt r≠0->dt r≠f->¬lW (C++[.ty t f])):=by
 have A:t.aE≠[]:=by rw[x];exact h.nb _ (bp e)
 have m:=h.zY a e;have n:∀c,gU.sat c (.ty t f)<->c p[U]=f:=by
  intro c;show ek c t=f<->_;unfold ek;grind
 refine⟨λy=>⟨h.nd,h.nb,h.lt,h.rt,λo l=>?_,λc=>?_⟩,λk=>⟨h.nd,h.nb,h.lt,h.rt,h.yt,λc=>?_⟩,λk v=>?_⟩;unfold bN;split;omega;exact h.yt o l;rw[uv,h.wY,n];constructor;rintro⟨⟨b,i⟩,j⟩;refine⟨b,λo l w q=>?_⟩;unfold bN at q⊢;split;rename_i u;subst u;rw[<-h.tj b a e];exact j;grind;rintro⟨b,i⟩;refine⟨⟨b,λo l w q=>?_⟩,?_⟩;grind[bN];rw[h.tj b a e];have:=i r m a.root (by grind[bN]);grind[bN];rw[uv,h.wY,n]
 refine⟨λg=>g.1,λg=>⟨g,?_⟩⟩;rw[h.tj g.1 a e,g.2 r m a.root (by omega),k];rintro⟨c,s⟩;rw[uv,h.wY,n]at s;let⟨⟨b,i⟩,j⟩:=s;rw[h.tj b a e,i r m a.root k]at j;exact v j
variable{z dh:Nat}
theorem Rt.link{aC:Nat->Nat}(d:aC U=U)(i:aC N=N)(g:U≠N){r:Nat}(h:Rt aC z dh r):∃a,Rt (bN aC U N) a dh (if r=U then N else r):=by
 induction h with
 |stop dh h=>
  by_cases b:dh=U;subst b;rw[if_pos rfl];have c:bN aC dh N dh=N:=by simp[bN]
  refine⟨1,.up 0 dh N (by omega) ?_⟩;rw[c];exact .stop N (by grind[bN]);rw[if_neg b];exact⟨0,.stop dh (by grind[bN])⟩
 |up z dh r h k f=>
  let⟨a,j⟩:=f;have e:dh≠U:=by rintro rfl;exact h d
  have c:bN aC U N dh=aC dh:=by unfold bN;rw[if_neg e]
  exact⟨a+1,.up a dh _ (by omega) (by grind)⟩
variable{mH:Nat}
theorem iM.same{C:List gU}{aC:Nat->Nat}(h:iM p C aC dt){r:Nat}(j:U<Z p)(k:N<Z p)(J:bQ.aE=p[U])(K:rj.aE=p[N])(e:Rt aC z U r)(g:Rt aC dh N mH):
 (dt r≠0->dt mH≠0->dt r≠dt mH->¬lW (C++[.eq bQ rj]))/\((dt r=0\/dt mH=0\/dt r=dt mH)->iM p (C++[.eq bQ rj]) (bN aC r mH) (bN dt mH (max (dt r) (dt mH)))):=by
 have P:bQ.aE≠[]:=by rw[J];exact h.nb _ (bp j)
 have Q:rj.aE≠[]:=by rw[K];exact h.nb _ (bp k)
 have q:=h.zY e j;have s:=h.zY g k;have v:∀c,gU.sat c (.eq bQ rj)<->c p[U]=c p[N]:=by
  intro c;show ek c bQ=ek c rj<->_;unfold ek;grind
 refine⟨λG H I=>?_,λM=>?_⟩;rintro⟨c,B⟩;rw[uv,h.wY,v]at B;let⟨⟨a,l⟩,t⟩:=B;rw[h.tj a e j,h.tj a g k,l r q e.root G,l mH s g.root H]at t;exact I t;have T:=h.yt r q;have V:=h.yt mH s;by_cases m:r=mH;subst m;have D:bN aC r r=aC:=by
  funext a;unfold bN;split
  rename_i f;subst f;exact e.root.symm;rfl
 have E:bN dt r (max (dt r) (dt r))=dt:=by
  funext a;unfold bN;split
  rename_i f;subst f;omega;rfl
 rw[D,E];refine⟨h.nd,h.nb,h.lt,h.rt,h.yt,λc=>?_⟩;rw[uv,h.wY,v];refine⟨λa=>a.1,λa=>⟨a,?_⟩⟩;rw[h.tj a.1 e j,h.tj a.1 g k];have L:∀a,a<Z p->bN aC r mH a<Z p:=by
  intro a f;unfold bN;split;exact s;exact h.lt a f
 have A:∀a,a≠r->bN aC r mH a=aC a:=by grind[bN]
 have y:bN aC r mH r=mH:=by simp[bN]
 refine⟨h.nd,h.nb,L,λa f=>?_,λa f=>?_,λc=>?_⟩;let⟨R,b,i⟩:=h.rt a f;let⟨S,O⟩:=i.link e.root g.root m;grind;unfold bN;split;omega;exact h.yt a f;rw[uv,h.wY,v];constructor;rintro⟨⟨a,l⟩,t⟩;have x:c p[r]=c p[mH]:=by rw[<-h.tj a e j,<-h.tj a g k];exact t
 refine⟨λb i=>?_,λb i n o=>?_⟩;by_cases eq:b=r;grind;grind;have eq:b≠r:=by
  rintro rfl;rw[y]at n;exact m n.symm
 rw[A b eq]at n;unfold bN at o⊢;split;rename_i u;subst u;by_cases W:dt b=0;rw[if_pos rfl]at o;have:dt r≠0:=by omega
 rw[<-x,l r q e.root this];omega;grind;grind;rintro⟨a,l⟩;have x:c p[r]=c p[mH]:=by
  have:=a r q;simp only[y]at this;exact this
 have w:∀b(i:b<Z p),c p[b]=c (p[aC b]'(h.lt b i)):=by
  intro b i;by_cases eq:b=r;subst eq;simp only[e.root];grind
 have X:max (dt r) (dt mH)≠0->c p[mH]=max (dt r) (dt mH):=λo=>by
  have:=l mH s (by rw[A mH (λu=>m u.symm)];exact g.root) (by grind[bN]);grind[bN]
 refine⟨⟨w,λb i n o=>?_⟩,?_⟩;by_cases eq:b=r;subst eq;omega;by_cases F:b=mH;subst F;omega;grind[bN];rw[h.tj w e j,h.tj w g k];exact x
theorem iM.start(e:p.Nodup)(b:∀g∈p,g≠[]){aC:Nat->Nat}(c:∀a,a<Z p->aC a=a)(h:∀a,a<Z p->dt a=0):iM p [] aC dt:=by
 refine⟨e,b,by grind,λa f=>⟨0,a,.stop a (c a f)⟩,by grind,λi=>?_⟩;grind
def ed(a:D)(b:d):Int:=b1 (λc:bP=>c.au==b) a.aw
def iN(a:D)(b:d):Int:=b1 (λc:Fn=>c.au==b) a.aO
def eJ(a:D)(b:d):Int:=b1 (λc:cO=>c.au==b) a.Q
def bV(a:List d)(b:d):Int:=b1 (λc=>c==b) a
def fJ(b:bP)(a:Fn):List Int:=b.az.map λc=>bV b.az (a.dst.getD (bV a.src c).toNat [])
def fD(c:bP)(a:Fn):Bool:=
 ((ay (Z a.src)).all λb=>y (0<=bV c.az (a.src.getD b []))&&y (0<=bV c.az (a.dst.getD b [])))&&
 ((ay (Z a.src)).all λb=>bV a.src (a.src.getD b [])==(b:Int))&&
 (c.az.all λd=>y (0<=bV a.src d))&&od c (fJ c a)
def p6(c:D)(a:Nat):Bool:=match c.aw[a]? with|aa b=>eR b==0&&ed c b.au==(a:Int)|ae=>ad
def ph(a:D)(c:Nat):Bool:=match a.aO[c]? with|aa b=>(match a.aw[(ed a b.aN).toNat]? with|aa d=>y (0<=ed a b.aN)&&fD d b|ae=>ab)&&iN a b.au==(c:Int)|ae=>ad
def vy(a:D)(c:Nat):Bool:=match a.Q[c]? with|aa b=>(b.aN==[]||y (0<=ed a b.aN))&&eJ a b.au==(c:Int)|ae=>ad
def p7(a:D):Bool:=(ay (Z a.aw)).all (p6 a)&&(ay (Z a.aO)).all (ph a)&&(ay (Z a.Q)).all (vy a)
def eK(b:D)(a:Fn):Fn:={a with of:=ed b a.aN,gQ:=match b.aw[(ed b a.aN).toNat]? with|aa c=>if 0<=ed b a.aN/\fD c a=ad then fJ c a else[]|ae=>[]}
def ew(b:D)(a:cO):cO:={a with of:=if a.aN=[]then -1 else ed b a.aN}
def ee(a:D)(b:List aD):D:=⟨a.aw,a.aO.map (eK a),a.Q.map (ew a),b⟩
def vz(e:cO)(d:List aJ)(a:Nat):Bool:=match d[a]?,e.aZ[a]? with|aa b,aa c=> !(b.aE==[])||b.const.ty==c|_,_=>ad
def nM(b:cO)(a:List aJ):Bool:=(Z a:Int)==Z b.aZ&&(ay (Z a)).all (vz b a)
def fw(b:D)(c:cO)(e:d):Int:=match b.aw[c.of.toNat]? with|aa a=>bV a.az e|ae=> -1
def gN(a:D)(r:aD):Bool:=
 r.au==[]||(match a.Q[(eJ a r.au).toNat]? with
  |ae=>ab
  |aa b=>y (0<=eJ a r.au)&& !b.eo&&nM b r.af&&((r.aj.ax==0)==y (b.of<0))&&
   (!(r.aj.ax==1)||y (0<=fw a b r.aj.au))&&
   (!(r.aj.ax==3)||(y (0<=iN a r.aj.au)&&(match a.aO[(iN a r.aj.au).toNat]? with|aa c=>c.of==b.of|ae=>ab))))
def oo(a:D)(r:aD):Int:=
 if r.au=[]then -1 else if r.aj.ax=1 then(match a.Q[(eJ a r.au).toNat]? with|aa b=>fw a b r.aj.au|ae=> -1)else if r.aj.ax=3 then iN a r.aj.au else -1
def j8(a:D)(r:aD):Int:=if r.au=[]then -1 else eJ a r.au
def hQ(c:D)(b:Lit):Bool:=
 if b.ax=5 then(match b.af with|a::e::_=> !(a.aE==[]&&e.aE==[]&&a.const.ty !=e.const.ty)|_=>ad)
 else match c.Q[(eJ c b.au).toNat]? with
  |ae=>ab
  |aa d=>y (0<=eJ c b.au)&&nM d b.af&& !(y (d.of<0)&&(!(b.bind==[])||(b.ax==3||b.ax==4)))&&
   (!(b.ax==3||b.ax==4)||(y (0<=fw c d b.aj)&&(match c.aw[d.of.toNat]? with|aa f=>fw c d b.aj !=eB f []|ae=>ab)))
def nN(b:D)(a:Lit):Int:=if a.ax=5 then -1 else eJ b a.au
def zZ(b:D)(a:Lit):Int:=if a.ax=3\/a.ax=4 then(match b.Q[(eJ b a.au).toNat]? with|aa c=>fw b c a.aj|ae=> -1)else -1
def iq(b:D)(a:Lit):Lit:={a with ai:=nN b a,iC:=zZ b a}
def fh(a:D)(r:aD):aD:={r with ai:=j8 a r,aj:={r.aj with aR:=oo a r},ah:=r.ah.map (iq a)}
def lX(b:D)(c:Int)(a:List aJ):List (aJ×Int):=match b.Q[c.toNat]? with|aa d=>a.zip d.aZ|ae=>[]
def BR(a:D)(r:aD):List (aJ×Int):=if 0<=r.ai then lX a r.ai r.af else[]
def jT(b:D)(a:Lit):List (aJ×Int):=if 0<=a.ai then lX b a.ai a.af else[]
def si(b:Lit):List (aJ×aJ):=if b.ax=5 then(match b.af with|a::c::_=>[(a,c)]|_=>[])else[]
def wZ(a:D)(r:aD)(b:Nat):List (aJ×Int):=BR a r++((r.ah.take b).map (jT a)).flatten
def w2(r:aD)(a:Nat):List (aJ×aJ):=((r.ah.take a).map si).flatten
def yu(a:D)(r:aD):Prop:=lW (wX (wZ a r (Z r.ah)) (w2 r (Z r.ah)))
def hR(a:D)(b:Int):Int:=match a.Q[b.toNat]? with|aa c=>c.of|ae=> -1
def mW(b:D)(r:aD):List Lit->Bool->Option Bool
 |[],a=>aa a
 |l::c,a=>if l.bind=[]then mW b r c a else
  if(a|| !y (l.bind=r.aj.aE)||y (l.bind∈fB r)||hR b l.ai !=hR b r.ai)=ad then ae else mW b r c ad
def tm(b:D)(r:aD):Bool:=match mW b r r.ah ab with|ae=>ab|aa a=>r.aj.aE==[]||a
def vA(a:D)(r:aD):Prop:=Z (fB r)<=12/\yu a r/\tm a r=ad
def lD(a:D)(r:aD):Prop:=gN a r=ad/\r.ah.all (hQ a)=ad/\vA a (fh a r)
def iW(a:D):Prop:=rR a=ad/\p7 a=ad/\(∀r∈a.ak,lD (ee a []) r)/\a=ee a (a.ak.map (fh (ee a [])))
open Classical in
noncomputable def lg(a:D):Bool:=y (iW a)
open Go.Law
variable{oL:cO}{mC:List aJ}
theorem We(h:U<Z mC)(a:U<Z oL.aZ):vz oL mC U=(!(mC[U].aE==[])||mC[U].const.ty==oL.aZ[U]):=by
 grind[vz]
theorem Wf(d:cO)(c:List aJ)(q:Sm c):∃f:Int,PR C 253 [.agg (bO T d),eS F cT c] (I f)/\(f=0<->nM d c=ad):=by
 have key:∃o l,C 253 [.agg (bO T d),eS F cT c] [] o l/\∃f:Int,aM l .res o (I f)/\(f=0<->nM d c=ad):=by
  apply agn.hq;simp only[FY,O,a1,bj,aK,wi,e,cx];refine b (λh=>?_) (λh=>?_);refine⟨71,jR rfl,?_⟩;have:((Z c:Int)==Z d.aZ)=false:=by
   simp only[bne_iff_ne,ne_eq]at h;simpa using h
  simp[nM,this];have r:Z c=Z d.aZ:=by
   simp only[bne_eq_false_iff_eq]at h;omega
  have s:nM d c=(ay (Z c)).all (vz d c):=by
   have:((Z c:Int)==Z d.aZ)=true:=by simp[r]
   rw[nM,this,cZ]
  rw[s];refine eC (U:=Z c) (c:=λg=>[I 0,I g]) (λg=>(ay g).all (vz d c)=ad) (by simp) rfl (λg j t p w=>?_) (λt p=>?_);have m:g<Z d.aZ:=by omega
  have v:=We (oL:=d) j m;simp only[i,G,A,O,a,j,decide_true,aF j (kq _),bj,aK,rO,De,e,fW,gT,aF m (jf _),lM,cx];refine a8 (eb (M:=[]) (!vz d c g) (λx n=>aW (λk=>kB n ?_) (λk=>kB n ?_)) ?_);grind;grind;simp only[G];refine dw (λk=>⟨72,jR rfl,?_⟩) (λk=>?_);grind;rw[q.inc j,O];grind;simp only[i,G,A,O,a,cn,decide_false];exact bz (by simp_all)
 grind[Kd]
def mo(c:List Obj)(d:AV)(id:Nat)(a:List (Int×Int)):Prop:=∃b,d=.q id b 0 (Z a)/\c[id]?=aa (.arr b 2 (a.map b2))
def mq(a:List (Int×Int))(b c:Int):List (Int×Int):=if b=0\/20<=Z a then a else a++[(b,c)]
def vB(id:Nat)(c d:List Obj):Prop:=∀(a:Nat)(b:Obj),a≠id->c[a]?=aa b->d[a]?=aa b
theorem vB.refl(id:Nat)(a:List Obj):vB id a a:=λ_ _ _ h=>h
variable{gC:List Obj}
theorem vB.trans{id:Nat}{a:List Obj}(h:vB id M gC)(f:vB id gC a):vB id M a:=λc d b e=>f c d b (h c d b e)
variable{ey:List (Int × Int)}
theorem mo.pl{id:Nat}(h:mo M E id ey):E.pl=E:=by obtain⟨g,rfl,-⟩:=h;rfl
theorem mo.lt{id:Nat}(h:mo M E id ey):id<Z M:=by
 let⟨g,_,h⟩:=h;grind
theorem mo.ln{id:Nat}(h:mo M E id ey)(a:List Obj):gk .sl E a=aa (I (Z ey)):=by obtain⟨g,rfl,-⟩:=h;rfl
theorem mo.res{id:Nat}(h:mo M E id ey):aM M .res E (eS ab b2 ey):=by
 obtain⟨g,rfl,h⟩:=h;simp_all[h8]
theorem z1{id:Nat}(a:List (Int×Int))(c d:Int)(k:mo M E id a):HR C 144 [E,I c,I d] M (λr g=>mo g r id (mq a c d)/\vB id M g):=by
 have q:=k.lt;obtain⟨e,rfl,o⟩:=k;apply aeU.hq;simp only[ft,e3,o0,O,di,h0];have j:(M++[Obj.arr 0 2 []])[id]?=aa (.arr e 2 (a.map b2)):=by rw[oA q];exact o
 have n:vB id M (M++[Obj.arr 0 2 []]):=λf l _ h=>j5.app _ _ f l h;apply eb (M:=M++[.arr 0 2 []]) (c==0||y (20<=(Z a:Int))) (λf p=>ei (by grind) (by grind));simp only[G];refine b (λh=>?_) (λh=>?_);have:mq a c d=a:=by
  rw[mq,if_pos];simp only[hX,beq_iff_eq,decide_eq_true_eq]at h;omega
 rw[this];exact⟨⟨e,rfl,j⟩,n⟩;have s:¬(c=0\/20<=Z a):=by
  simp only[I0,beq_eq_false_iff_ne,ne_eq,decide_eq_false_iff_not]at h;omega
 have:mq a c d=a++[(c,d)]:=by rw[mq,if_neg s]
 rw[this];simp only[wM,O,yj];have m:aX (M++[Obj.arr 0 2 []]) id 2 b2 e a=M++[Obj.arr 0 2 []]:=by
  let⟨t,u⟩:=fM.1 j;simp only[aX];rw[<-u];exact yX t
 have i:=pW (M:=M++[Obj.arr 0 2 []]) (id:=id) (U:=2) (bytes:=16) (N:=e) (a7:=b2) (x:=a) (c,d) (by simp;omega) rfl (by omega);rw[m]at i;refine aY i ⟨⟨e+1,rfl,by grind[n9]⟩,λf l p h=>?_⟩;grind[aX]
def ib(a:w):List Obj:=if Z a.aA=0 then[.arr 0 3 [[.aq,.aq,.bool a.ok]]]else[.arr 0 3 [[.q 1 (Z a.aA -1) 0 (Z a.aA),.q 2 (Z a.aA -1) 0 (Z a.aA),.bool a.ok]],.arr (Z a.aA -1) 1 (a.aA.map cS),.arr (Z a.aA -1) 1 (a.aZ.map cI)]
def z6(a:w):List AV:=[eS ad cS a.aA,eS ad cI a.aZ,.bool a.ok]
theorem L4(d:r.Ok):aM (ib r) .cb (.ptr 0 0 0 0) (.aH ad (z6 r) 0):=by
 have c:=d.len;unfold ib;split;rename_i h;have a:r.aA=[]:=by grind
 have b:r.aZ=[]:=by grind
 rw[z6,a,b];exact .oU 0 0 0 0 3 _ _ _ rfl rfl (.ck (.aq _ _) (.ck (.aq _ _) (.ck (.bool _ _) (.nil _))));rename_i h;refine .oU 0 0 0 0 3 _ _ _ rfl rfl (.ck (o7 rfl (by simp)) (.ck ?_ (.ck (.bool _ _) (.nil _))));rw[<-c];exact o7 rfl (by simp)
theorem L5(a:aJ)(m:Sm r.aA)(o:Z r.aZ=Z r.aA):PR C 295 [.aH ad (z6 r) 0,.agg (cT a)] (I (r.of a)):=by
 apply ae3.pr;simp only[zp,O,bj,aK,rO,De,e,fW,gT];have n:∀j,iH (.aH ad (z6 r) 0) j=aa (.aH ad (z6 r) 0):=λ_=>rfl;have k:(z6 r)[0]?=aa (eS ad cS r.aA):=rfl;have l:(z6 r)[1]?=aa (eS ad cI r.aZ):=rfl;rw[w.of];refine b (λh=>?_) (λh=>?_);simp_all;rw[if_neg (by grind)];simp only[n,O,bj,aK,e,k,l];apply c (ue r.aA a.aE m);simp only[A,O];rw[w.look];rcases f:r.aA.findIdx? (λd=>d==a.aE)with _|i
 have:b1 (λd=>d==a.aE) r.aA= -1:=by rw[b1,f]
 rw[this];exact a8 (jR rfl);have:b1 (λd=>d==a.aE) r.aA=(i:Int):=by rw[b1,f]
 rw[this];have g:i<Z r.aZ:=by
  have:=(qm.1 f).1;omega
 refine bz ?_ (by simp);simp only[aF g (jf _),O,aK,lM];apply jR;rw[pz,bu g]<;>rfl
theorem Hv(a:aJ)(d:Int)(t:r.Ok)(W:Z r.aA<1000000000):C 294 [.ptr 0 0 0 0,.agg (cT a),I d] (ib r) (.aB []) (ib (r.set a d)):=by
 have j:=t.len;apply aey.hr;simp only[zp,O,bj,aK,rO,e,di,jD];let⟨v0,v1,D⟩:∃v0 v1,(ib r)[0]?=aa (.arr 0 3 [[v0,v1,.bool r.ok]])/\aM (ib r) .cb v0 (eS ad cS r.aA)/\v0.pl=v0:=by
  unfold ib;split;rename_i h;have f:r.aA=[]:=by grind
  rw[f];exact⟨.aq,.aq,rfl,.aq _ _,rfl⟩;exact⟨_,_,rfl,o7 rfl (by simp),rfl⟩
 let⟨c,M,L⟩:=D;have m:iH (.ptr 0 0 0 0) (ib r)=aa (.ptr 0 0 0 0):=by simp[iH,dD,c]
 have u:aQ 1 ab (.ptr 0 0 0 0) (ib r)=aa v0:=by rw[cY c rfl]<;>rfl
 have R:aQ 1 ab (.ptr 0 0 0 2) (ib r)=aa (.bool r.ok):=by rw[cY c rfl]<;>rfl
 rw[m,O,o8 c,O,u,O];refine e4 _ (ue r.aA a.aE (by grind[Sm])) (.ck (by rw[L];exact M) (.ck (.str _ _) (.nil _))) (.int _ _) ?_;rw[w.set];refine b (λh=>?_) (λh=>?_);grind;have H:d≠0:=by simpa using h
 rw[if_neg H];have X:(y (b1 (λU=>U==a.aE) r.aA<0))= !y (a.aE∈r.aA):=GJ;apply eb (M:=ib r) (!(a.aE==[])&& !y (a.aE∈r.aA)) (λac J=>aW (λf=>kB J (by grind)) (by grind));simp only[G];refine b (λf=>?_) (λf=>?_);simp only[bc,gZ,beq_eq_false_iff_ne,ne_eq,decide_eq_false_iff_not]at f;rw[if_pos f];simp only[m,O,o8 c,u,DG,GK,e];by_cases s:Z r.aA=0;have P:r.aA=[]:=by grind
 have N:r.aZ=[]:=by grind
 have g:ib r=[.arr 0 3 [[.aq,.aq,.bool r.ok]]]:=by unfold ib;rw[if_pos s]
 have l:v0=.aq:=by rw[g]at c;simp at c;exact c.1.symm
 subst l;have k:ib ⟨r.aA++[a.aE],r.aZ++[d],r.ok⟩=[.arr 0 3 [[.q 1 0 0 1,.q 2 0 0 1,.bool r.ok]],.arr 0 1 [cS a.aE],.arr 0 1 [cI d]]:=by
  rw[P,N]<;>rfl
 rw[k,g];exact⟨trivial,rfl⟩;have g:ib r=[.arr 0 3 [[.q 1 (Z r.aA -1) 0 (Z r.aA),.q 2 (Z r.aA -1) 0 (Z r.aA),.bool r.ok]],.arr (Z r.aA -1) 1 (r.aA.map cS),.arr (Z r.aA -1) 1 (r.aZ.map cI)]:=by unfold ib;rw[if_neg s]
 have l:v0=.q 1 (Z r.aA -1) 0 (Z r.aA):=by rw[g]at c;simp at c;exact c.1.symm
 subst l;have k:ib ⟨r.aA++[a.aE],r.aZ++[d],r.ok⟩=[.arr 0 3 [[.q 1 (Z r.aA) 0 (Z r.aA+1),.q 2 (Z r.aA) 0 (Z r.aA+1),.bool r.ok]],.arr (Z r.aA) 1 ((r.aA++[a.aE]).map cS),.arr (Z r.aA) 1 ((r.aZ++[d]).map cI)]:=by
  unfold ib;simp
 rw[k,g];have E:(Z r.aA+1)*16<=2^47:=by omega
 have F:(Z r.aZ+1)*8<=2^47:=by omega
 have o:=pW (M:=[.arr 0 3 [[.q 1 (Z r.aA -1) 0 (Z r.aA),.q 2 (Z r.aA -1) 0 (Z r.aA),.bool r.ok]],.arr (Z r.aA -1) 1 (r.aA.map cS),.arr (Z r.aA -1) 1 (r.aZ.map cI)]) (id:=1) (U:=1) (bytes:=16) (N:=Z r.aA -1) (a7:=cS) (x:=r.aA) a.aE (by simp) rfl E
 have z:aX [.arr 0 3 [[.q 1 (Z r.aA -1) 0 (Z r.aA),.q 2 (Z r.aA -1) 0 (Z r.aA),.bool r.ok]],.arr (Z r.aA -1) 1 (r.aA.map cS),.arr (Z r.aA -1) 1 (r.aZ.map cI)] 1 1 cS (Z r.aA -1) r.aA=[.arr 0 3 [[.q 1 (Z r.aA -1) 0 (Z r.aA),.q 2 (Z r.aA -1) 0 (Z r.aA),.bool r.ok]],.arr (Z r.aA -1) 1 (r.aA.map cS),.arr (Z r.aA -1) 1 (r.aZ.map cI)]:=rfl;rw[z]at o;apply aY o;rw[show Z r.aA -1+1=Z r.aA by omega]
 refine aI rfl (aI rfl (aI (dR:=[.arr 0 3 [[.q 1 (Z r.aA) 0 (Z (r.aA++[a.aE])),.q 2 (Z r.aA -1) 0 (Z r.aA),.bool r.ok]],.arr (Z r.aA) 1 ((r.aA++[a.aE]).map cS),.arr (Z r.aA -1) 1 (r.aZ.map cI)]) rfl (aI rfl (aI rfl (aI (dR:=.q 2 (Z r.aA -1) 0 (Z r.aA)) rfl ?_)))))
 have p:=pW (M:=[.arr 0 3 [[.q 1 (Z r.aA) 0 (Z (r.aA++[a.aE])),.q 2 (Z r.aA -1) 0 (Z r.aA),.bool r.ok]],.arr (Z r.aA) 1 ((r.aA++[a.aE]).map cS),.arr (Z r.aA -1) 1 (r.aZ.map cI)]) (id:=2) (U:=1) (bytes:=8) (N:=Z r.aA -1) (a7:=cI) (x:=r.aZ) d (by simp) rfl F;rw[j]at p;apply aY p;rw[show Z r.aA -1+1=Z r.aA by omega];refine aI rfl (aI rfl (aI rfl ⟨trivial,?_⟩));simp[aX,eV,j]
 have K:¬(a.aE≠[]/\a.aE∉r.aA):=by
  rintro⟨i,x⟩;simp[i,x]at f
 rw[if_neg K];simp only[m,O,o8 c,R,e];have S:∀n:Bool,dp 1 (.ptr 0 0 0 2) (.bool n) (ib r)=aa (ib {r with ok:=n}):=by
  intro n;unfold ib;split<;>rfl
 rcases Y:r.ok with _|_;simp_all;simp only[jC,if_true,lL,O,cZ];apply e4 _ (L5 (r:=r) a (by grind[Sm]) j) (.ck (L4 t) (.ck eu (.nil _))) (.int _ _);simp only[di,O,S];simp
def mX(c:D)(a:Int)(b:List aJ):List (aJ×Int):=if 0<=a then lX c a b else[]
def lY(a:List Lit):List (aJ×aJ):=(a.map si).flatten
def Wg(b:D)(a:List Lit):List (aJ×Int):=(a.map (jT b)).flatten
def sj:w:=⟨[],[],ad⟩
def BS(b:D)(c:Int)(d:List aJ)(a:List Lit):Bool:=(w.rounds (lY a) (Z a+1) (w.h9 sj (mX b c d++Wg b a))).ok
theorem w.L6(a:w)(c:aJ)(b:Int):Z (a.set c b).aA<=Z a.aA+1:=by
 grind[w.set]
theorem w.D3:∀(b:List (aJ×Int))(a:w),Z (a.h9 b).aA<=Z a.aA+Z b
 |[],a=>by simp[w.h9]
 |x::b,a=>by
  have c:=w.L6 a x.1 x.2;have d:=w.D3 b (a.set x.1 x.2);grind[w.h9]
theorem w.akh(a:w)(b c:aJ):Z (a.eql b c).aA<=Z a.aA+2:=by
 grind[w.L6,of,w.eql]
theorem w.L7:∀(b:List (aJ×aJ))(a:w),Z (a.round b).aA<=Z a.aA+2*Z b
 |[],a=>by simp[w.round]
 |x::b,a=>by
  have c:=w.akh a x.1 x.2;have d:=w.L7 b (a.eql x.1 x.2);grind[round]
theorem w.Wh(b:List (aJ×aJ)):∀(n:Nat)(a:w),Z (w.rounds b n a).aA<=Z a.aA+n*(2*Z b)
 |0,a=>by simp[w.rounds]
 |n+1,a=>by
  have c:=w.L7 b a;have d:=w.Wh b n (a.round b);grind[w.rounds]
theorem w.rounds_succ(a:List (aJ×aJ)):∀(n:Nat)(b:w),w.rounds a (n+1) b=(w.rounds a n b).round a
 |0,b=>rfl
 |n+1,b=>by
  have c:=w.rounds_succ a n (b.round a);grind[w.rounds]
theorem Hw:∀(a:List Lit),Z (lY a)<=Z a
 |[]=>by simp[lY]
 |l::a=>by
  have:=Hw a;grind[si,lY]
variable{bZ:Type}{rk:K -> List bZ}
theorem L8(h:U<Z x):((x.take (U+1)).map rk).flatten=((x.take U).map rk).flatten++rk x[U]:=by
 grind[List.take_succ_eq_append_getElem]
def Hy(b:D)(c:Int)(d:List aJ):Prop:=0<=c->∃a:Nat,∃h:a<Z b.Q,c=a/\Z d<=Z b.Q[a].aZ
variable{V:D}
theorem Wi(h:U<Z V.Q)(d:Z mC<=Z V.Q[U].aZ):Z (lX V (U:Int) mC)=Z mC/\∀a(b:a<Z mC)(c:a<Z (lX V (U:Int) mC)),(lX V (U:Int) mC)[a]=(mC[a],V.Q[U].aZ[a]'(by omega)):=by
 grind[lX]
variable{bC c6 iB:Bool}
theorem aki(f:D)(k:Int)(i:List aJ)(c:List Lit)(em:Z i<=100)(lt:Z c<=100)(bi:∀l∈c,Z l.af<=100)(d5:Hy f k i)(d6:∀l∈c,Hy f l.ai l.af)(ds:∀l∈c,l.ax=5->Z l.af=2):
 PR C 254 [.agg (cP T F f),I k,eS bC cT i,eS c6 (bg iB) c] (.bool (BS f k i c)):=by
 refine afW.pr ?_;simp only[eP,O];refine aI (dR:=[.aq,.aq,tt]) rfl (aY (dR:=.ptr 0 0 0 0) (oK:=ib sj) rfl ?_);have ba:sj.Ok:=⟨rfl,by simp[sj]⟩;refine bG (K:=Nat) (λp=>[I p]) (λp=>ib (sj.h9 ((mX f k i).take p))) (λp=>Z i -p) (λp=>p<=Z i) 0 (by simp) ?_ rfl (by simp[w.h9]);intro p md lc m4;have es:=(w.zX ((mX f k i).take p) ba).1;have eo:=w.D3 ((mX f k i).take p) sj;rw[hW]at eo
 have m3:Z sj.aA=0:=rfl;simp only[bw,a1,O,G,A,h0,a];have ci:sj.h9 ((mX f k i).take p)=sj.h9 (mX f k i)->jA (λP be f4=>
  bd (aT .s .lss (g P 0) (I (Z c))) λf7=>
  ez f7 (
  jA (λac E K1=>
  jn (λmg=>
  bd (bT 9 (eS c6 (bg iB) c) (g P 0) E) λf8=>
  bd (dD 3 f8 E) λf9=>
  bd (aQ 1 ab f9 E) λgc=>
  bd (gk .sl gc E) λge=>
  bd (aT .s .lss (g ac 0) ge) λgo=>
  gd go ad (
  bd (bT 9 (eS c6 (bg iB) c) (g P 0) E) λgt=>
  bd (dD 2 gt E) λgQ=>
  bd (aQ 1 ab gQ E) λg0=>
  bd (aT .s .geq g0 (I 0)) λg1=>
  mg [g1] E) (
  mg [ff] E)) λc2 m=>
  ez (g c2 0) (
  bd (bT 9 (eS c6 (bg iB) c) (g P 0) m) λg2=>
  bd (dD 3 g2 m) λg3=>
  bd (aQ 1 ab g3 m) λg4=>
  bd (bT 4 g4 (g ac 0) m) λg5=>
  bd (aQ 4 ad g5 m) λg6=>
  bd (dD 2 (.aH ab (cP T F f) 0) m) λg7=>
  bd (aQ 1 ab g7 m) λg8=>
  bd (bT 9 (eS c6 (bg iB) c) (g P 0) m) λg9=>
  bd (dD 2 g9 m) λha=>
  bd (aQ 1 ab ha m) λhe=>
  bd (bT 7 g8 he m) λhg=>
  bd (dD 1 hg m) λhh=>
  bd (aQ 1 ab hh m) λhj=>
  bd (bT 1 hj (g ac 0) m) λhk=>
  bd (aQ 1 ab hk m) λhl=>
  ch C 294 [.ptr 0 0 0 0,g6,hl] m λm5 d0=>
  bd (aT .s .add (g ac 0) (I 1)) λhm=>
  K1 [hm] d0) (
  bd (aT .s .add (g P 0) (I 1)) λa4=>
  f4 [a4] m)) [(I 0)] be) (
  jA (λa9 X L9=>
  bd (aT .s .leq (g a9 0) (I (Z c))) λhn=>
  ez hn (
  jA (λJ n cc=>
  bd (aT .s .lss (g J 0) (I (Z c))) λho=>
  ez ho (
  bd (bT 9 (eS c6 (bg iB) c) (g J 0) n) λhs=>
  bd (dD 0 hs n) λht=>
  bd (aQ 1 ab ht n) λhu=>
  bd (aT .s .eql hu (I 5)) λhw=>
  ez hw (
  bd (bT 9 (eS c6 (bg iB) c) (g J 0) n) λhH=>
  bd (dD 3 hH n) λhO=>
  bd (aQ 1 ab hO n) λh1=>
  bd (bT 4 h1 (I 0) n) λh3=>
  bd (aQ 4 ad h3 n) λh4=>
  bd (bT 9 (eS c6 (bg iB) c) (g J 0) n) λid=>
  bd (dD 3 id n) λii=>
  bd (aQ 1 ab ii n) λio=>
  bd (bT 4 io (I 1) n) λip=>
  bd (aQ 4 ad ip n) λit=>
  cp C 295 [.ptr 0 0 0 0,it] n λiC=>
  ch C 294 [.ptr 0 0 0 0,h4,iC] n λm6 u=>
  bd (bT 9 (eS c6 (bg iB) c) (g J 0) u) λi0=>
  bd (dD 3 i0 u) λi1=>
  bd (aQ 1 ab i1 u) λi2=>
  bd (bT 4 i2 (I 1) u) λi3=>
  bd (aQ 4 ad i3 u) λi4=>
  bd (bT 9 (eS c6 (bg iB) c) (g J 0) u) λi5=>
  bd (dD 3 i5 u) λi6=>
  bd (aQ 1 ab i6 u) λi7=>
  bd (bT 4 i7 (I 0) u) λi8=>
  bd (aQ 4 ad i8 u) λi9=>
  cp C 295 [.ptr 0 0 0 0,i9] u λjp=>
  ch C 294 [.ptr 0 0 0 0,i4,jp] u λm7 d1=>
  bd (aT .s .add (g J 0) (I 1)) λa5=>
  cc [a5] d1) (
  bd (aT .s .add (g J 0) (I 1)) λa5=>
  cc [a5] n)) (
  bd (aT .s .add (g a9 0) (I 1)) λke=>
  L9 [ke] n)) [(I 0)] X) (
  bd (iH (.ptr 0 0 0 0) X) λkl=>
  bd (dD 2 kl X) λkw=>
  bd (aQ 1 ab kw X) λkx=>
  aM X .res (AV.pl kx) (.bool (BS f k i c)))) [(I 0)] be)) [(I 0)] (ib (sj.h9 ((mX f k i).take p))):=by
  intro d3;rw[d3];have lw:Z (mX f k i)<=Z i:=by
   unfold mX;split;unfold lX;split;rw[arS];omega;simp;simp
  have d8:∀d,d<=Z c->Z ((c.take d).map (jT f)).flatten<=d*100:=by
   intro d;induction d with
   |zero=>simp
   |succ d f3=>
    intro ah;have bm:d<Z c:=ah;have:=f3 (by omega);rw[L8 bm,gy,q4];have li:=bi _ (bp bm);have W:Z (jT f c[d])<=100:=by
     unfold jT;split;unfold lX;split;rw[arS];omega;simp;simp
    omega
  generalize az:sj.h9 (mX f k i)=z;have d2:z.Ok:=az▸(w.zX (mX f k i) ba).1;have lm:Z z.aA<=100:=by
   have:=w.D3 (mX f k i) sj;rw[az]at this;omega
  refine bG (K:=Nat) (λd=>[I d]) (λd=>ib (z.h9 ((c.take d).map (jT f)).flatten)) (λd=>Z c -d) (λd=>d<=Z c) 0 (by simp) ?_ rfl (by simp[w.h9]);intro d ah cl f1;simp only[O,G,A,a];have el:=d8 d ah;have mp:d*100<=100*100:=my _ (by omega);have eq:=w.D3 ((c.take d).map (jT f)).flatten z;have a2:=(w.zX ((c.take d).map (jT f)).flatten d2).1;refine b (λh=>?_) (λh=>?_);have h:d<Z c:=by simpa using h
  have U:=f1 (d+1) h (by omega);rw[L8 h,w.h9,yZ]at U;have e0:((c.take d).map (jT f)).flatten.foldl (λH l=>H.set l.1 l.2) z=z.h9 ((c.take d).map (jT f)).flatten:=rfl;rw[e0]at U;generalize z.h9 ((c.take d).map (jT f)).flatten=B at*;have dl:(jT f c[d]).foldl (λH l=>H.set l.1 l.2) B=B.h9 (jT f c[d]):=rfl;rw[dl]at U;have ls:=bi _ (bp h);have d7:=d6 _ (bp h)
  refine bG (K:=Nat) (λq=>[I q]) (λq=>ib (B.h9 ((jT f c[d]).take q))) (λq=>Z c[d].af -q) (λq=>q<=Z c[d].af) 0 (by simp) ?_ rfl (by simp[w.h9]);intro q mk co ak;simp only[bw,aF h (jB _ _),O,bj,aK,zr,s4,e,a1,G,A,h0,a];have bv:=w.D3 ((jT f c[d]).take q) B;rw[hW]at bv;have bD:=(w.zX ((jT f c[d]).take q) a2).1;by_cases x:0<=c[d].ai;obtain⟨L,Y,S,a0⟩:=d7 x;have R:jT f c[d]=lX f (L:Int) c[d].af:=by
   unfold jT;rw[if_pos x,S]
  obtain⟨cs,c1⟩:=Wi Y a0;rw[R]at U ak bv bD⊢;have M:y (0<=c[d].ai)=true:=by simpa using x
  rw[M];refine aW (λj=>?_) (λj=>?_);have j:q<Z c[d].af:=by simpa using j
  have aR:q<Z f.Q[L].aZ:=by omega
  refine a8 ?_;simp only[aF j (kq _),O,lL,kt,S,aF Y (jg _ _),bj,aK,wi,e,aF aR (jf _),lM];refine qJ _ (Hv c[d].af[q] _ bD (by omega)) ?_;rw[a6,O];have ce:=ak (q+1) j (by omega);simp_all[lX,iu,w.h9,yZ];have j:q=Z c[d].af:=by simp at j;omega
  grind[bz,a6,O];have R:jT f c[d]=[]:=by unfold jT;rw[if_neg x]
  rw[R]at U;simp only[R,List.take_nil];have M:y (0<=c[d].ai)=false:=by simpa using x
  rw[M];have le:bd (aT .s .add (I d) (I 1)) λa4=>cl [a4] (ib (B.h9 [])):=by
   rw[a6,O];exact U
  grind[aW,bz];have:d=Z c:=by simp at h;omega
  subst this;rw[dU]at a2 eq el⊢;have fd:BS f k i c=(w.rounds (lY c) (Z c+1) (z.h9 (c.map (jT f)).flatten)).ok:=by
   rw[BS,w.h9,yZ];have:(mX f k i).foldl (λH l=>H.set l.1 l.2) sj=z:=az;rw[this]<;>rfl
  rw[fd];generalize z.h9 (c.map (jT f)).flatten=B at*;have l0:=Hw c;refine bG (K:=Nat) (λo=>[I o]) (λo=>ib (w.rounds (lY c) o B)) (λo=>Z c+1 -o) (λo=>o<=Z c+1) 0 (by simp) ?_;intro o m1 co ak;have m0:=w.Wh (lY c) o B;have m2:o*(2*Z (lY c))<=101*200:=Nat.mul_le_mul (by omega) (by omega);have ex:=(w.Hu (b:=lY c) o a2).1;simp only[O,G,la];refine b (λW=>?_) (λW=>?_);have W:o<=Z c:=by simp at W;omega
  have ce:=ak (o+1) (by omega) (by omega);rw[w.rounds_succ]at ce;generalize w.rounds (lY c) o B=v at*;refine bG (K:=Nat) (λd=>[I d]) (λd=>ib (v.round (lY (c.take d)))) (λd=>Z c -d) (λd=>d<=Z c) 0 (by simp) ?_ rfl (by simp[w.round,lY]);intro d ah ld f2;have ms:=w.L7 (lY (c.take d)) v;have d4:=Hw (c.take d);rw[hW]at d4;have aj:=(w.ys (lY (c.take d)) ex).1;simp only[O,G,A,a]
  refine b (λj=>?_) (λj=>?_);have j:d<Z c:=by simpa using j
  have am:=f2 (d+1) j (by omega);have fn:lY (c.take (d+1))=lY (c.take d)++si c[d]:=L8 j;rw[fn,w.round,yZ]at am;have e0:(lY (c.take d)).foldl (λH l=>H.eql l.1 l.2) v=v.round (lY (c.take d)):=rfl;rw[e0]at am;generalize v.round (lY (c.take d))=N at*;simp only[aF j (jB _ _),O,bj,aK,tW,s4,e,di];refine b (λK=>?_) (λK=>?_);have K:c[d].ax=5:=by simpa using K
  obtain⟨r,t,ca⟩:∃r t,c[d].af=[r,t]:=by
   have:=ds _ (bp j) K
   match em:c[d].af,this with
   |[r,t],_=>grind
  have br:si c[d]=[(r,t)]:=by unfold si;rw[if_pos K,ca]
  rw[br]at am;have fx:∀V:List Obj,bT 4 (eS iB cT [r,t]) (I 0) V=aa (.aH iB (cT r) 0):=λV=>aF (x:=[r,t]) (U:=0) (by simp) rfl;have f0:∀V:List Obj,bT 4 (eS iB cT [r,t]) (I 1) V=aa (.aH iB (cT t) 0):=λV=>aF (x:=[r,t]) (U:=1) (by simp) rfl;rw[ca];simp only[fx,f0,O,lL];refine e4 _ (L5 (r:=N) t (by grind[Sm]) aj.len) (.ck (L4 aj) (.ck eu (.nil _))) (.int _ _) ?_;refine qJ _ (Hv r _ aj (by omega)) ?_
  have a3:=(w.ti aj r (N.of t)).1;have mt:=w.L6 N r (N.of t);refine e4 _ (L5 (r:=N.set r (N.of t)) r (by grind[Sm]) a3.len) (.ck (L4 a3) (.ck eu (.nil _))) (.int _ _) ?_;refine qJ _ (Hv t _ a3 (by omega)) ?_;rw[a6,O];exact am;have K:¬c[d].ax=5:=by simpa using K
  have br:si c[d]=[]:=by unfold si;rw[if_neg K]
  grind[a6,O];have:d=Z c:=by simp at j;omega
  grind[a6,O,List.take_length];have:o=Z c+1:=by simp at W;omega
  subst this;generalize w.rounds (lY c) (Z c+1) B=v at*;have d9:∃v0 v1,(ib v)[0]?=aa (.arr 0 3 [[v0,v1,.bool v.ok]]):=by
   unfold ib;split;simp;simp
  obtain⟨v0,v1,aE⟩:=d9;have f6:iH (.ptr 0 0 0 0) (ib v)=aa (.ptr 0 0 0 0):=by simp[iH,dD,aE]
  have f5:aQ 1 ab (.ptr 0 0 0 2) (ib v)=aa (.bool v.ok):=by rw[cY aE rfl]<;>rfl
  rw[f6,O,o8 aE,O,f5,O];simp
 simp only[bw]at ci;by_cases x:0<=k;obtain⟨L,Y,S,a0⟩:=d5 x;have R:mX f k i=lX f (L:Int) i:=by unfold mX;rw[if_pos x,S]
 obtain⟨cs,c1⟩:=Wi Y a0;have M:y (0<=k)=true:=by simpa using x
 rw[M];refine aW (λj=>?_) (λj=>?_);have j:p<Z i:=by simpa using j
 have aR:p<Z f.Q[L].aZ:=by omega
 refine a8 ?_;simp only[aF j (kq _),O,lL,bj,aK,kt,e,S,aF Y (jg _ _),wi,aF aR (jf _),lM];rw[<-S];refine qJ _ (Hv i[p] _ es (by omega)) ?_;rw[a6,O];grind[lX,List.take_succ_eq_append_getElem,w.h9];have j:p=Z i:=by simp at j;omega
 refine bz ?_;exact ci (by grind);have R:mX f k i=[]:=by unfold mX;rw[if_neg x]
 have M:y (0<=k)=false:=by simpa using x
 rw[M];simp_all
variable{kg:AV -> Prop}
theorem akj{args:List AV}(h:∃c b,C U args [] c b/\∃a,aM b .res c a/\kg a):∃a,PR C U args a/\kg a:=by
 grind[Kd]
variable{hJ:List String}{fj:List In}{fo:Prop}
theorem nY.ex{args:List AV}(h:nY U args hJ fj)(e:fo)(d:args.map AV.pl=args:=by rfl)(c:cK (λf b=>∃a,aM b .res f a/\kg a) 999 (dc 999 (sn hJ) fj).1 args [] []=fo:=by conv=>(lhs;(conv=>arg 3;cbv);simp only[cK,hZ,Int.reduceOfNat])):∃a,PR C U args a/\kg a:=akj (h.hq e d c)
def ic(r:aD)(a b:Int):aD:=⟨r.au,a,r.af,⟨r.aj.ax,r.aj.au,r.aj.aE,b⟩,r.ah,r.ba⟩
def tn(a:D)(r:aD):aD:=ic r (j8 a r) (oo a r)
theorem akk(r:aD)(a b:Int):dS 9 (.agg [.str r.au,I a,eS T cT r.af,I r.aj.ax,.str r.aj.au,.str r.aj.aE,I b,eS T (bg T) r.ah,I r.ba])=aa (aS T (ic r a b)):=ji rfl rfl
theorem tp(a:Int):nu (I a)=aa (I a):=rfl
def Wj(e:Bool)(a:D)(r:aD)(g:AV):Prop:=∃b c,g=.aB [.agg (aS e b),I c]/\(c=0<->gN a r=ad)/\(gN a r=ad->b=tn a r)/\∃d f,b=ic r d f
theorem akl(a:D)(r:aD)(L:eI a)(a2:Sm r.af)(aA:kN a):∃x,PR C 199 [.agg (cP T F a),.agg (aS bC r)] x/\Wj bC a r x:=by
 apply aeZ.ex;simp only[eP,xR,O,tp,vb,vc,vd,ve,vf,vg,ud,gT,gS]
 have E:∀(k w p:Int),(p=0<->gN a r=ad)->(gN a r=ad->ic r k w=tn a r)->∀N:List Obj,bd (dS 9 (.agg [.str r.au,I k,eS bC cT r.af,I r.aj.ax,.str r.aj.au,.str r.aj.aE,I w,eS bC (bg bC) r.ah,I r.ba])) λn=>∃x,aM N .res (.aB [(AV.pl (.agg [(g n 0),(g n 1),(g n 2),(g n 3),(g n 4),(g n 5),(g n 6),(g n 7),(g n 8)])),(AV.pl (I p))]) x/\Wj bC a r x:=by
  intro k w p o u N;rw[akk,O];exact⟨.aB [.agg (aS bC (ic r k w)),I p],eu,_,_,rfl,o,u,k,w,rfl⟩
 refine b (λh=>?_) (λh=>?_);have h:r.au=[]:=by simpa using h
 exact E _ _ _ (by simp[gN,h]) (λ_=>by simp[tn,j8,oo,h]) _;have P:r.au≠[]:=by simpa using h
 have f:gN a r=(match a.Q[(eJ a r.au).toNat]? with
  |ae=>ab
  |aa d=>y (0<=eJ a r.au)&& !d.eo&&nM d r.af&&((r.aj.ax==0)==y (d.of<0))&&
   (!(r.aj.ax==1)||y (0<=fw a d r.aj.au))&&
   (!(r.aj.ax==3)||(y (0<=iN a r.aj.au)&&(match a.aO[(iN a r.aj.au).toNat]? with|aa U=>U.of==d.of|ae=>ab)))):=by
  rw[gN,h,l3]<;>rfl
 apply c (K0 a r.au L);have aR:b1 (λm:cO=>m.au==r.au) a.Q=eJ a r.au:=rfl;rw[aR];simp only[tp,O,A];refine b (λo=>?_) (λo=>?_);have o:eJ a r.au<0:=by simpa using o
 have q:gN a r=false:=by
  rw[f];split;rfl;have:y (0<=eJ a r.au)=false:=by simp;omega
  simp[this]
 exact E _ _ _ (by simp[q]) (λh=>by rw[q]at h;cases h) _;have o:0<=eJ a r.au:=by simpa using o
 let⟨k,B,H⟩:∃k:Nat,eJ a r.au=k/\k<Z a.Q:=by
  grind[sd]
 rw[B]at f o;simp only[eN,bu H]at f;rw[B];simp only[bj,O,aK,rP,wk,kt,e,aF H (jg _ _),wg,xP,rS,rT,rU,s9,rV,rW,rX];generalize a0:a.Q[k]=d at*;have bm:d.of<Z a.aw:=aA d (by grind);have V:y ((0:Int)<=(k:Int))=true:=by simp
 rw[V,cZ]at f;refine b (λu=>?_) (λu=>?_);have q:gN a r=false:=by rw[f,u]<;>rfl
 simp_all;rw[u,q6,cZ]at f;let⟨p,Y,ac⟩:=Wf (T:=T) (F:=bC) d r.af a2;have X:(AV.agg [.str d.au,eS T cI d.aZ,.str d.aN,I d.of,.bool d.eo,I d.fx,I d.ba])=.agg (bO T d):=rfl;rw[X];apply c Y;simp only[cx,O];refine b (λs=>?_) (λs=>?_);have s:p≠0:=by simpa using s
 simp_all;have s:p=0:=by simpa using s
 rw[ac.1 s,cZ]at f;simp only[di,A,O,Kc];refine dw (λz=>?_) (λz=>?_);have q:gN a r=false:=by rw[f,z]<;>rfl
 simp_all;rw[z,cZ]at f;have am:(r.aj.ax=0)<->d.of<0:=by
  have:=z;rw[beq_iff_eq]at this;constructor;intro J;rw[J]at this;simpa using this.symm;intro J;have l:y (d.of<0)=true:=by simpa using J
  rw[l]at this;simpa using this
 have br:j8 a r=k:=by rw[j8,if_neg P,B]
 have be:oo a r=if r.aj.ax=1 then fw a d r.aj.au else if r.aj.ax=3 then iN a r.aj.au else -1:=by
  rw[oo,if_neg P,B];simp only[eN,bu H,a0]
 rw[bw];refine b (λl=>?_) (λl=>?_);have l:r.aj.ax=1:=by simpa using l
 have bi:0<=d.of:=by
  rcases E1 d.of 0 with h|h;have:=am.2 h;omega;exact h
 let⟨t,R⟩:∃t:Nat,d.of=t:=⟨d.of.toNat,by omega⟩;have K:t<Z a.aw:=by omega
 have ai:fw a d r.aj.au=bV a.aw[t].az r.aj.au:=by
  rw[fw,R,eN,bu K]
 have a5:(r.aj.ax==3)=false:=by rw[l]<;>rfl
 have M:(r.aj.ax==1)=true:=by rw[l]<;>rfl
 rw[M,a5]at f;simp only[sN,l3,q6,AD,yP]at f;simp only[R,bj,O,aK,e,aF K (kH _ _),o3];apply c (ue a.aw[t].az r.aj.au (L.aN _ (bp K)).1);have a3:b1 (λm=>m==r.aj.au) a.aw[t].az=fw a d r.aj.au:=ai.symm;rw[a3];simp only[tp,O,A];refine b (λj=>?_) (λj=>?_);have j:fw a d r.aj.au<0:=by simpa using j
 have q:gN a r=false:=by rw[f];simp;omega
 exact E _ _ _ (by simp[q]) (by grind) _;have j:0<=fw a d r.aj.au:=by simpa using j
 have bv:gN a r=true:=by rw[f];simpa using j
 simp_all[bw,G,i,di,O,c3,eZ,tn];have l:r.aj.ax≠1:=by simpa using l
 have M:(r.aj.ax==1)=false:=by simpa using l
 rw[M]at f;simp only[q6,AD,cZ]at f;simp only[bw,G,i,di,O];refine b (λj=>?_) (λj=>?_);rw[j]at f;simp only[sN,l3]at f;have j:r.aj.ax=3:=by simpa using j
 apply c (UD a r.aj.au L);have ak:b1 (λm:Fn=>m.au==r.aj.au) a.aO=iN a r.aj.au:=rfl;rw[ak];simp only[tp,O,A];refine b (λv=>?_) (λv=>?_);have v:iN a r.aj.au<0:=by simpa using v
 have q:gN a r=false:=by
  have:y (0<=iN a r.aj.au)=false:=by simp;omega
  rw[f,this]<;>rfl
 simp_all;have v:0<=iN a r.aj.au:=by simpa using v
 let⟨m,a4,S⟩:∃m:Nat,iN a r.aj.au=m/\m<Z a.aO:=by
  grind[sd]
 rw[a4]at f⊢;simp only[eN,bu S]at f;have W:y ((0:Int)<=(m:Int))=true:=by simp
 rw[W,cZ]at f;simp only[bj,O,aK,e,aF S (sZ _ _),Qw,cx];simp_all[gN,tn];rw[j]at f;simp only[q6,AD]at f;have j:r.aj.ax≠3:=by simpa using j
 simp_all[tn]
def j9(a:Lit)(b c:Int):Lit:=⟨a.ax,a.au,b,a.af,a.bind,a.aj,c,a.op,a.ba⟩
theorem akm(a:Lit)(b c:Int):dS 9 (.agg [I a.ax,.str a.au,I b,eS T cT a.af,.str a.bind,.str a.aj,I c,I a.op,I a.ba])=aa (bg T (j9 a b c)):=ji rfl rfl
theorem Hz(b:D)(a:Lit):iq b a=j9 a (nN b a) (zZ b a):=rfl
def yv(f:Bool)(c:D)(a:Lit)(h:AV):Prop:=∃b d,h=.aB [.agg (bg f b),I d]/\(d=0<->hQ c a=ad)/\(hQ c a=ad->b=iq c a)/\∃e g,b=j9 a e g
theorem akn(d:D)(a:Lit)(ai:eI d)(br:Sm a.af)(bi:kN d)(L:a.ax=5->Z a.af=2):∃l,PR C 200 [.agg (cP T F d),.agg (bg bC a)] l/\yv bC d a l:=by
 apply afn.ex;simp only[eP,xQ,O,tp,wz,wA,wB,wC,wD,wE,wF,di,gS];have X:∀(k n q:Int),(q=0<->hQ d a=ad)->(hQ d a=ad->j9 a k n=iq d a)->∀o:List Obj,bd (dS 9 (.agg [I a.ax,.str a.au,I k,eS bC cT a.af,.str a.bind,.str a.aj,I n,I a.op,I a.ba])) λj=>∃l,aM o .res (.aB [(AV.pl (.agg [(g j 0),(g j 1),(g j 2),(g j 3),(g j 4),(g j 5),(g j 6),(g j 7),(g j 8)])),(AV.pl (I q))]) l/\yv bC d a l:=by
  intro k n q p K o;rw[akm,O];exact⟨.aB [.agg (bg bC (j9 a k n)),I q],eu,_,_,rfl,p,K,k,n,rfl⟩
 have bad:∀(k n q:Int),q≠0->hQ d a=ab->∀o:List Obj,bd (dS 9 (.agg [I a.ax,.str a.au,I k,eS bC cT a.af,.str a.bind,.str a.aj,I n,I a.op,I a.ba])) λj=>∃l,aM o .res (.aB [(AV.pl (.agg [(g j 0),(g j 1),(g j 2),(g j 3),(g j 4),(g j 5),(g j 6),(g j 7),(g j 8)])),(AV.pl (I q))]) l/\yv bC d a l:=by
  intro k n q M N o;exact X k n q (by simp[N,M]) (λh=>by rw[N]at h;cases h) o
 have J:∀(k n:Int),hQ d a=ad->j9 a k n=iq d a->∀o:List Obj,bd (dS 9 (.agg [I a.ax,.str a.au,I k,eS bC cT a.af,.str a.bind,.str a.aj,I n,I a.op,I a.ba])) λj=>∃l,aM o .res (.aB [(AV.pl (.agg [(g j 0),(g j 1),(g j 2),(g j 3),(g j 4),(g j 5),(g j 6),(g j 7),(g j 8)])),(AV.pl (I 0))]) l/\yv bC d a l:=by
  intro k n N M o;exact X k n 0 (by simp[N]) (λ_=>M) o
 refine b (λh=>?_) (λh=>?_);have E:a.ax=5:=by simpa using h
 let⟨t,u,a0⟩:∃t u,a.af=[t,u]:=by
  have:=L E
  match d2:a.af,this with
  |[t,u],_=>grind
 have ah:hQ d a= !(t.aE==[]&&u.aE==[]&&t.const.ty !=u.const.ty):=by
  rw[hQ,if_pos E,a0]
 have V:j9 a (-1) (-1)=iq d a:=by
  rw[Hz,nN,if_pos E,zZ,if_neg (by omega)]
 have bD:∀o:List Obj,bT 4 (eS bC cT [t,u]) (I 0) o=aa (.aH bC (cT t) 0):=λo=>aF (x:=[t,u]) (U:=0) (by simp) rfl;have ca:∀o:List Obj,bT 4 (eS bC cT [t,u]) (I 1) o=aa (.aH bC (cT u) 0):=λo=>aF (x:=[t,u]) (U:=1) (by simp) rfl;rw[a0]at X bad J⊢;simp only[bD,ca,O,bj,aK,rO,De,e,fW,gT,cx,bw,G,i];refine aW (λp=>aW (λK=>?_) (λK=>?_)) (λp=>?_);rw[p,K]at ah;refine b (λx=>?_) (λx=>?_)
 exact bad _ _ _ (by omega) (by grind) _;exact J _ _ (by grind) V _;rw[p,K]at ah;simp only[c3,eZ,if_false];exact J _ _ (by grind) V _;rw[p]at ah;simp only[c3,eZ,if_false];exact J _ _ (by grind) V _;have E:a.ax≠5:=by simpa using h
 have r:hQ d a=(match d.Q[(eJ d a.au).toNat]? with
  |ae=>ab
  |aa f=>y (0<=eJ d a.au)&&nM f a.af&& !(y (f.of<0)&&(!(a.bind==[])||(a.ax==3||a.ax==4)))&&
   (!(a.ax==3||a.ax==4)||(y (0<=fw d f a.aj)&&(match d.aw[f.of.toNat]? with|aa R=>fw d f a.aj !=eB R []|ae=>ab)))):=by
  rw[hQ,if_neg E]<;>rfl
 apply c (K0 d a.au ai);have bm:b1 (λR:cO=>R.au==a.au) d.Q=eJ d a.au:=rfl;rw[bm];simp only[tp,O,A];refine b (λp=>?_) (λp=>?_);have p:eJ d a.au<0:=by simpa using p
 refine bad _ _ _ (by omega) ?_ _;grind;have p:0<=eJ d a.au:=by simpa using p
 let⟨k,U,ac⟩:∃k:Nat,eJ d a.au=k/\k<Z d.Q:=by
  grind[sd]
 have V:∀n,n=(if a.ax=3\/a.ax=4 then fw d d.Q[k] a.aj else -1)->j9 a (k:Int) n=iq d a:=by
  rintro n rfl;rw[Hz,nN,if_neg E,U,zZ,U];simp only[eN,bu ac]
 rw[U]at r p;simp only[eN,bu ac]at r;rw[U];simp only[bj,O,aK,rP,kt,e,aF ac (jg _ _),wg,xP,rS,rT,rU,s9,rV,rW,rX];generalize d5:d.Q[k]=f at*;have d4:f.of<Z d.aw:=bi f (by grind);have a2:y ((0:Int)<=(k:Int))=true:=by simp
 rw[a2,cZ]at r;let⟨q,M,a5⟩:=Wf (T:=T) (F:=bC) f a.af br;have a4:(AV.agg [.str f.au,eS T cI f.aZ,.str f.aN,I f.of,.bool f.eo,I f.fx,I f.ba])=.agg (bO T f):=rfl;rw[a4];apply c M;simp only[cx,O];refine b (λx=>?_) (λx=>?_);have x:q≠0:=by simpa using x
 refine bad _ _ _ x ?_ _;grind;have x:q=0:=by simpa using x
 rw[a5.1 x,cZ]at r;refine yr (M:=[]) (a.ax==3||a.ax==4) [I a.ax,.str a.au,I k,eS bC cT a.af,.str a.bind,.str a.aj,I (-1),I a.op,I a.ba,I 0,.str [],I 0,.aq,.str [],.str [],I 0,I 0,I 0,.str f.au,eS T cI f.aZ,.str f.aN,I f.of,.bool f.eo,I f.fx,I f.ba] (λd6 d1=>?_) ?_;refine ei (λz=>?_) (λz=>?_);grind;grind;simp only[G,i,A,O,jD];generalize ak:(a.ax==3||a.ax==4)=W at*
 have go:(y (f.of<0)&&(!(a.bind==[])||W))=ab->ez (.bool W) (bd (bT 4 (eS T (bo T) d.aw) (I f.of) []) λce=>bd (dD 1 ce []) λci=>bd (aQ 1 ab ci []) λcl=>cp C 113 [cl,.str a.aj] [] λco=>bd (nu co) λS=>bd (aT .s .lss S (I 0)) λcs=>ez cs (
  bd (dS 9 (.agg [I a.ax,.str a.au,I k,eS bC cT a.af,.str a.bind,.str a.aj,S,I a.op,I a.ba])) λv=>
  ∃l,aM [] .res (.aB [(AV.pl (.agg [(g v 0),(g v 1),(g v 2),(g v 3),(g v 4),(g v 5),(g v 6),(g v 7),(g v 8)])),(AV.pl (I 70))]) l/\yv bC d a l) (
  bd (bT 4 (eS T (bo T) d.aw) (I f.of) []) λc1=>
  bd (aQ 4 ad c1 []) λc2=>
  cp C 88 [c2] [] λdl=>
  bd (aT .s .eql S dl) λds=>
  ez ds (
  bd (dS 9 (.agg [I a.ax,.str a.au,I k,eS bC cT a.af,.str a.bind,.str a.aj,S,I a.op,I a.ba])) λw=>
  ∃l,aM [] .res (.aB [(AV.pl (.agg [(g w 0),(g w 1),(g w 2),(g w 3),(g w 4),(g w 5),(g w 6),(g w 7),(g w 8)])),(AV.pl (I 72))]) l/\yv bC d a l) (
  bd (dS 9 (.agg [I a.ax,.str a.au,I k,eS bC cT a.af,.str a.bind,.str a.aj,S,I a.op,I a.ba])) λm=>
  ∃l,aM [] .res (.aB [(AV.pl (.agg [(g m 0),(g m 1),(g m 2),(g m 3),(g m 4),(g m 5),(g m 6),(g m 7),(g m 8)])),(AV.pl (I 0))]) l/\yv bC d a l)))
  (bd (dS 9 (.agg [I a.ax,.str a.au,I k,eS bC cT a.af,.str a.bind,.str a.aj,I (-1),I a.op,I a.ba])) λm=>
   ∃l,aM [] .res (.aB [(AV.pl (.agg [(g m 0),(g m 1),(g m 2),(g m 3),(g m 4),(g m 5),(g m 6),(g m 7),(g m 8)])),(AV.pl (I 0))]) l/\yv bC d a l):=by
  intro aA;rw[aA,q6,cZ]at r;refine b (λY=>?_) (λY=>?_);subst Y;have d3:0<=f.of:=by simp at aA;omega
  let⟨H,aR⟩:∃H:Nat,f.of=H:=by grind
  have P:H<Z d.aw:=by omega
  have a9:fw d f a.aj=bV d.aw[H].az a.aj:=by
   rw[fw,aR,eN,bu P]
  have be:a.ax=3\/a.ax=4:=by simpa using ak
  rw[aR]at r⊢;simp only[eN,bu P,sN,l3]at r;simp only[aF P (kH _ _),O,bj,aK,o3,e,jh];apply c (ue d.aw[H].az a.aj (ai.aN _ (bp P)).1);have bv:b1 (λR=>R==a.aj) d.aw[H].az=fw d f a.aj:=a9.symm;rw[bv];simp only[tp,O,A];refine b (λB=>?_) (λB=>?_);have B:fw d f a.aj<0:=by simpa using B
  have N:y (0<=fw d f a.aj)=false:=by simp;omega
  exact bad _ _ _ (by omega) (by grind) _;have B:y (0<=fw d f a.aj)=true:=by simpa using B
  rw[B,cZ]at r;apply c (Bz _ (ai.aN _ (bp P)));simp only[di,O];refine b (λa3=>?_) (λa3=>?_);exact bad _ _ _ (by omega) (by grind) _;exact J _ _ (by grind) (by grind) _;subst Y;have be:¬(a.ax=3\/a.ax=4):=by
   intro h;rcases h with h|h<;>simp[h]at ak
  simp_all
 rw[bw];refine aW (λz=>h7 (λL=>?_) (λL=>?_)) (λz=>?_);rw[z,L]at go r;simp only[sN,l3,cZ]at go r;rcases am:W with _|_;have:=go am;rw[am]at this;simp only[c3,eZ,if_false]at this⊢;exact this;simp only[c3,if_true];exact bad _ _ _ (by omega) (by grind) _;rw[z,L]at r;simp only[c3];exact bad _ _ _ (by omega) (by grind) _;have:=go (by rw[z]<;>rfl);simp only[c3,eZ,if_false,bw,G,i]at this⊢;exact this
theorem akp(f:bP)(d:Fn)(u:lO f)(w:zy d)(be:Z d.src=Z d.dst):
 ∃r,PR C 196 [.agg (bo T f),.agg (cg F d)] r/\∃k,r=.aB [eS ab cI (if fD f d=ad then fJ f d else[]),I k]/\(k=0<->fD f d=ad):=by
 refine agd.ex ?_;simp only[mN,FX,O,e3,ft,bj,aK,o3,Df,Dg,e,a1,jh,dK,eU];have bad:∀(k:Int)(v:List Obj),k≠0->fD f d=ab->Z v<1000000->∃r,aM (v++[.arr 0 1 []]) .res (.aB [(AV.q (Z v) 0 0 0).pl,(I k).pl]) r/\∃k,r=.aB [eS ab cI (if fD f d=ad then fJ f d else[]),I k]/\(k=0<->fD f d=ad):=by
  intro k v a5 Y _;refine⟨.aB [eS ab cI [],I k],.aB _ _ _ (.ck ?_ (.ck (.int _ _ _) (.nil _))),k,by rw[Y]<;>rfl,by grind⟩;exact h8 (x:=([]:List Int)) (U:=1) (by simp) (by simp)
 refine eC (U:=Z d.src) (c:=λg=>[.q 0 0 0 0,I 0,I g]) (λg=>((ay g).all λg=>y (0<=bV f.az (d.src.getD g []))&&y (0<=bV f.az (d.dst.getD g [])))=ad) (by simp) rfl (λg o L x ah=>?_) (λL x=>?_);have J:g<Z d.dst:=by omega
 have X:(y (0<=bV f.az (d.src.getD g []))&&y (0<=bV f.az (d.dst.getD g [])))=(y (0<=bV f.az d.src[g])&&y (0<=bV f.az d.dst[g])):=by
  simp only[pz,bu o,bu J,nR]
 simp only[i,G,A,O,a,o,decide_true,aF o (iR _),aK,lN,bw];refine a8 (c (ue f.az d.src[g] u.1) ?_);have t:b1 (λj=>j==d.src[g]) f.az=bV f.az d.src[g]:=rfl;have z:b1 (λj=>j==d.dst[g]) f.az=bV f.az d.dst[g]:=rfl;rw[t];simp only[A,O]
 have a4:fD f d=ab->ez tt (∃r,aM [Obj.arr 0 1 [],Obj.arr 0 1 []] .res (.aB [(AV.q 1 0 0 0).pl,(I 70).pl]) r/\∃k,r=.aB [eS ab cI (if fD f d=ad then fJ f d else[]),I k]/\(k=0<->fD f d=ad)) (bd (aT .s .add (I g) (I 1)) λaZ=>x [.q 0 0 0 0,I 0,aZ] [Obj.arr 0 1 []]):=by
  intro h;simp only[c3,if_true];exact bad 70 [.arr 0 1 []] (by omega) h (by simp)
 have P:∀j:Int,y (j<0)= !y (0<=j):=by grind
 rw[P];have bm:((y (0<=bV f.az (d.src.getD g []))&&y (0<=bV f.az (d.dst.getD g [])))=ab)->fD f d=false:=by
  intro h;unfold fD;rw[zJ o h];simp
 refine h7 (λV=>?_) (λV=>?_);simp only[aF J (iR _),O,aK,lN];refine c (ue f.az d.dst[g] u.1) ?_;rw[z];simp only[A,O,P];refine dw (λl=>?_) (λl=>?_);simp_all;rw[w.1.inc o,O];grind[DN];simp only[c3,if_true];simp_all;simp only[i,G,A,O,a,cn,decide_false];refine bz ?_;have aE:fD f d=(((ay (Z d.src)).all λg=>bV d.src (d.src.getD g [])==(g:Int))&&(f.az.all λj=>y (0<=bV d.src j))&&od f (fJ f d)):=by
  unfold fD;rw[L,cZ]
 refine eC (U:=Z d.src) (c:=λg=>[.q 0 0 0 0,I 0,I g]) (λg=>((ay g).all λg=>bV d.src (d.src.getD g [])==(g:Int))=ad) (by simp) rfl (λg o M R ah=>?_) (λM R=>?_);have X:(bV d.src (d.src.getD g [])==(g:Int))=(bV d.src d.src[g]==(g:Int)):=by
  simp only[pz,bu o,nR]
 simp only[i,G,A,O,a,o,decide_true,aF o (iR _),aK,lN];refine a8 (c (ue d.src d.src[g] w.1) ?_);have t:b1 (λj=>j==d.src[g]) d.src=bV d.src d.src[g]:=rfl;rw[t];simp only[cx,O,bne];refine dw (λl=>?_) (λl=>?_);simp only[jW,hD,dK];refine bad 5 [.arr 0 1 []] (by omega) ?_ (by simp);grind;rw[w.1.inc o,O];grind;simp only[i,G,A,O,a,cn,decide_false];refine bz ?_
 have Q:fD f d=((f.az.all λj=>y (0<=bV d.src j))&&od f (fJ f d)):=by
  rw[aE,M,cZ]
 simp only[jW,hD,dK];refine bG (λm=>[.q 0 0 0 0,I 0,.q 1 m.2 0 m.1,I m.1]) (λm=>aX [.arr 0 1 [],.arr 0 1 []] 1 1 cI m.2 ((f.az.take m.1).map λj=>bV f.az (d.dst.getD (bV d.src j).toNat []))) (λm=>Z f.az -m.1) (λm=>m.1<=Z f.az/\(f.az.take m.1).all (λj=>y (0<=bV d.src j))=ad) (0,0) ⟨by simp,by simp⟩ ?_ rfl (by simp[aX]);rintro⟨g,n⟩ ⟨o,E⟩ S ax;have am:=u.1;unfold Sm at am;simp only[i,G,A,O,a]
 have aj:1<Z ([.arr 0 1 [],.arr 0 1 []]:List Obj):=by simp
 refine b (λh=>?_) (λh=>?_);have h:g<Z f.az:=by simpa using h
 simp only[aF h (iR _),O,aK,lN];refine c (ue d.src f.az[g] w.1) ?_;have t:b1 (λj=>j==f.az[g]) d.src=bV d.src f.az[g]:=rfl;rw[t];simp only[A,O];refine b (λl=>?_) (λl=>?_);have l:bV d.src f.az[g]<0:=by simpa using l
 have af:fD f d=false:=by
  have ac:y (0<=bV d.src f.az[g])=false:=by simp;omega
  rw[Q,yf h ac]<;>rfl
 have B:aX [.arr 0 1 [],.arr 0 1 []] 1 1 cI n ((f.az.take g).map λj=>bV f.az (d.dst.getD (bV d.src j).toNat []))=[.arr 0 1 [],.arr n 1 (((f.az.take g).map λj=>bV f.az (d.dst.getD (bV d.src j).toNat [])).map cI)]:=rfl;simp only[B,kD,eU,hD,dK];exact bad 71 [.arr 0 1 [],.arr n 1 (((f.az.take g).map λj=>bV f.az (d.dst.getD (bV d.src j).toNat [])).map cI)] (by omega) af (by simp)
 have l:0<=bV d.src f.az[g]:=by simpa using l
 obtain⟨p,D,a9⟩:∃p:Nat,bV d.src f.az[g]=p/\p<Z d.src:=by
  rcases sd (λj=>j==f.az[g]) d.src with⟨p,D,z,-⟩|⟨z,-⟩;grind;omega
 have K:p<Z d.dst:=by omega
 rw[D];simp only[aF K (iR _),O,aK,lN];refine c (ue f.az d.dst[p] u.1) ?_;have U:b1 (λj=>j==d.dst[p]) f.az=bV f.az d.dst[p]:=rfl;rw[U,GK,O];have ba:Z ((f.az.take g).map λj=>bV f.az (d.dst.getD (bV d.src j).toNat []))=g:=by simp;omega
 have ap:=Uo (U:=n) (cq:=(f.az.take g).map λj=>bV f.az (d.dst.getD (bV d.src j).toNat [])) (f:=bV f.az d.dst[p]) (iy:=λa0 W=>bd (aT .s .add (I g) (I 1)) λa2=>S [.q 0 0 0 0,I 0,a0,a2] W) aj (by omega) ?_;grind;rw[a6,O];have ak:((f.az.take g).map λj=>bV f.az (d.dst.getD (bV d.src j).toNat []))++[bV f.az d.dst[p]]=(f.az.take (g+1)).map λj=>bV f.az (d.dst.getD (bV d.src j).toNat []):=by
  rw[iu h,hE];simp only[eg,nj,D,eN,pz,bu K,nR]
 rw[ak];have ai:Z ((f.az.take (g+1)).map λj=>bV f.az (d.dst.getD (bV d.src j).toNat []))=g+1:=by simp;omega
 rw[ai];refine ax (g+1,n+1) ⟨h,?_⟩ (by simp;omega);grind[n5];have:g=Z f.az:=by simp at h;omega
 subst this;rw[dU]at E⊢;have aR:fD f d=od f (fJ f d):=by rw[Q,E,cZ]
 have au:(f.az.map λj=>bV f.az (d.dst.getD (bV d.src j).toNat []))=fJ f d:=rfl;have N:Z (fJ f d)=Z f.az:=by simp[fJ]
 rw[au];have H:(aX [.arr 0 1 [],.arr 0 1 []] 1 1 cI n (fJ f d))[1]?=aa (.arr n 1 ((fJ f d).map cI)):=rfl;refine e4 _ (aiW (F:=true) f (fJ f d) u (by grind[Sm])) (.ck eu (.ck ?_ (.nil _))) (.bool _) ?_;rw[<-N];exact o7 H (by simp);simp only[bK,O];refine dw (λl=>?_) (λl=>?_);have B:aX [.arr 0 1 [],.arr 0 1 []] 1 1 cI n (fJ f d)=[.arr 0 1 [],.arr n 1 ((fJ f d).map cI)]:=rfl;simp only[B,kD,eU,hD,dK]
 exact bad 31 [.arr 0 1 [],.arr n 1 ((fJ f d).map cI)] (by omega) (by rw[aR,l]) (by simp);refine⟨.aB [eS ab cI (fJ f d),I 0],.aB _ _ _ (.ck ?_ (.ck (.int _ _ _) (.nil _))),0,by grind,by grind⟩;rw[<-N];exact h8 H (by simp)
structure D4(p:D)(r:aD):Prop where
 af:Z r.af<=100
 ah:Z r.ah<=100
 lits:∀x∈r.ah,Z x.af<=100
 fit:Hy p r.ai r.af
 fits:∀x∈r.ah,Hy p x.ai x.af
 cmp:∀x∈r.ah,x.ax=5->Z x.af=2
 Wk:∀q∈p.Q,∀k∈q.aZ,k≠0
 yo:∀x∈r.ah,∀t∈x.af,t.aE=[]->t.const.ty≠0
 bind:∀x∈r.ah,x.bind≠[]->∃a:Nat,x.ai=a/\a<Z p.Q
 aE:r.aj.aE≠[]->∃a:Nat,r.ai=a/\a<Z p.Q
theorem Wl(h:∀d∈V.Q,∀c∈d.aZ,c≠0):∀b∈lX V f mC,b.2≠0:=by
 intro b a;unfold lX at a;split at a;rename_i d e;have g:=qj e;let⟨i,c⟩:=b;have:=(List.of_mem_zip a).2;grind;cases a
theorem Wm{r:aD}(h:D4 V r)(b:Nat):BS V r.ai r.af (r.ah.take b)=ad<->lW (wX (wZ V r b) (w2 r b)):=by
 have:=akg (b:=mX V r.ai r.af++Wg V (r.ah.take b)) (d:=lY (r.ah.take b)) (U:=Z (r.ah.take b)+1) (by grind[Hw]) (λe a=>?_) (λe a=>?_);exact this;rcases dm.1 a with a|a;unfold mX at a;split at a;exact Wl h.Wk e a;cases a
 let⟨k,c,a⟩:=uJ.1 a;obtain⟨d,f,rfl⟩:=cy.1 c;unfold jT at a;split at a;exact Wl h.Wk e a;cases a
 let⟨k,c,a⟩:=uJ.1 a;obtain⟨d,f,rfl⟩:=cy.1 c;have g:=sI f;unfold si at a;split at a;split at a;rename_i i j l o;simp only[l5]at a;subst a;exact⟨h.yo d g i (by grind),h.yo d g j (by grind)⟩;cases a
 cases a
theorem Wn{r:aD}(h:yu V r):lW (wX (wZ V r U) (w2 r U)):=by
 refine lW.mono (λd a=>?_) h;rcases dm.1 a with a|a;obtain⟨b,c,rfl⟩:=cy.1 a;refine dm.2 (.inl (cy.2 ⟨b,?_,rfl⟩));grind[wZ];obtain⟨b,c,rfl⟩:=cy.1 a;refine dm.2 (.inr (cy.2 ⟨b,?_,rfl⟩));grind[w2]
theorem Wo{r:aD}(h:U<Z r.ah):mW V r (r.ah.drop U) T=if r.ah[U].bind=[]then mW V r (r.ah.drop (U+1)) T else
 if(T|| !y (r.ah[U].bind=r.aj.aE)||y (r.ah[U].bind∈fB r)||hR V r.ah[U].ai !=hR V r.ai)=ad then ae else mW V r (r.ah.drop (U+1)) true:=by
 rw[oC h,mW]
def Wp(c:D)(r:aD)(d:AV):Prop:=∃a b,d=.aB [I a,I b]/\(a=0<->vA c r)
theorem akq(f:D)(r:aD)(a0:pT r)(h:D4 f r):∃w,PR C 201 [.agg (cP T F f),.agg (aS bC r)] w/\Wp f r w:=by
 have ce:Z (r.ah.map Lit.af++[r.af]).flatten<=20000:=by
  have E:=DK Lit.af 100 r.ah h.lits;have g:=my 100 h.ah;have j:=h.af;simp only[xp,gy,xo,List.flatten_nil,sO];omega
 have cs:=UC r;have ca:=h.ah;refine afo.ex ?_;simp only[eP,o2,O,gS,nA,bj,aK,Bc,wj,qH,Bd,kt,e,a1];refine c (Ut r a0 (by unfold Sm;omega)) ?_;simp only[a1,eX,O];have bad:∀(q p:Int),q≠0->¬vA f r->∃w,aM [] .res (.aB [(I q).pl,(I p).pl]) w/\Wp f r w:=λq p l cl=>⟨.aB [I q,I p],eu,q,p,rfl,by grind⟩;refine b (λE=>?_) (λE=>?_);refine bad 2 _ (by omega) ?_;rintro⟨g,-⟩;grind
 have ak:Z (fB r)<=12:=by simp only[decide_eq_false_iff_not]at E;omega
 refine eC (U:=Z r.ah+1) (c:=λd=>[I 0,I 0,I d]) (λd=>∀L,L<d->BS f r.ai r.af (r.ah.take L)=ad) (by simp) rfl (λd U V X ci=>?_) (λV X=>?_);have K:y ((d:Int)<=(Z r.ah:Int))=true:=by simp;omega
 simp only[i,G,la,O,K];refine a8 ?_;have aA:d<=Z r.ah:=by omega
 rw[G8 (jB _) aA,O];have a3:(Z (r.ah.take d):Nat)<=100:=by rw[hW];omega
 refine c (aki f r.ai r.af (r.ah.take d) h.af a3 (λn u=>h.lits n (sI u)) h.fit (λn u=>h.fits n (sI u)) (λn u=>h.cmp n (sI u))) ?_;simp only[bK,O];refine dw (λg=>?_) (λg=>?_);have co:¬vA f r:=by
  rintro⟨-,j,-⟩;have:=(Wm h d).2 (Wn j);rw[this]at g;cases g
 simp only[di,O];refine b (λj=>?_) (λj=>?_);simp_all;have j:d≠0:=by simpa using j
 obtain⟨v,rfl⟩:∃v,d=v+1:=⟨d -1,by omega⟩;have aR:v<Z r.ah:=by omega
 have a2:aT .s .sub (I ((v+1:Nat):Int)) (I 1)=aa (I (v:Int)):=by
  rw[nB (by omega) (by omega)];simp
 rw[a2,O];simp only[aF aR (jB _ _),O,bj,aK,F6,e];simp_all;rw[a6,O];grind;have a4:yu f r:=(Wm h (Z r.ah)).1 (V (Z r.ah) (by omega));have K:y (((Z r.ah+1:Nat):Int)<=(Z r.ah:Int))=false:=by simp;omega
 simp only[i,G,la,O,K];refine bz ?_;have c1:vA f r<->tm f r=true:=⟨λh=>h.2.2,λh=>⟨ak,a4,h⟩⟩;refine bG (K:=Nat×Bool×AV×AV) (λk=>[k.2.2.1,k.2.2.2,.bool k.2.1,I k.1]) (λ_=>[]) (λk=>Z r.ah -k.1) (λk=>k.1<=Z r.ah/\mW f r r.ah ab=mW f r (r.ah.drop k.1) k.2.1) (0,ab,I 0,I 0) ⟨by simp,by simp⟩ ?_;rintro⟨d,B,a9,be⟩ ⟨U,l⟩ bD W;simp only at U l W⊢;simp only[i,G,A,O,a];refine b (λg=>?_) (λg=>?_)
 have g:d<Z r.ah:=by simpa using g
 rw[Wo g]at l;have bi:=λac az=>W (d+1,ac,a9,be) ⟨g,az⟩ (by simp;omega);have a5:r.ah[d]∈r.ah:=bp g;rw[bw];simp only[aF g (jB _ _),O,o1,xQ,wz,wA,yd,wB,wC,wD,ye,wE,wF,gT];refine b (λj=>?_) (λj=>?_);rw[if_pos (by grind)]at l;rw[a6,O];exact bi B l;have P:r.ah[d].bind≠[]:=by simpa using j
 rw[if_neg P]at l;refine yr (M:=[]) (B|| !y (r.ah[d].bind=r.aj.aE)||y (r.ah[d].bind∈fB r)||hR f r.ah[d].ai !=hR f r.ai) [I r.ah[d].ax,.str r.ah[d].au,I r.ah[d].ai,eS bC cT r.ah[d].af,.str r.ah[d].bind,.str r.ah[d].aj,I r.ah[d].iC,I r.ah[d].op,I r.ah[d].ba] (λc2 m=>?_) ?_;refine ei (λo=>?_) (λo=>DY m (by rw[o]<;>rfl));rw[o,l3]at m;have z:(aS bC r)[3+2]?=aa (.str r.aj.aE):=rfl;simp only[z,O,jD]
 have am:(!(r.ah[d].bind==r.aj.aE))= !y (r.ah[d].bind=r.aj.aE):=by rw[iQ];simp
 rw[am];refine ei (λt=>?_) (λt=>DY m (by rw[t]<;>rfl));rw[t,l3]at m;have t:r.ah[d].bind=r.aj.aE:=by simpa using t
 refine c (ue (fB r) r.ah[d].bind (by unfold Sm;omega)) ?_;have J:y (0<=b1 (λn=>n==r.ah[d].bind) (fB r))=y (r.ah[d].bind∈fB r):=by
  have:=GJ (p:=fB r) (bL:=r.ah[d].bind);rw[iQ]at this⊢;simp only[decide_eq_true_eq,gZ,decide_eq_false_iff_not]at this⊢;constructor;intro S;exact xu λx=>by have:=this.2 x;omega
  intro S;rcases E1 (b1 (λn=>n==r.ah[d].bind) (fB r)) 0 with aZ|J;exact absurd S (this.1 aZ);exact J
 simp only[h0,O,J];refine ei (λH=>?_) (λH=>DY m (by rw[H]<;>rfl));rw[H,l3]at m;obtain⟨p,M,N⟩:=h.bind _ a5 P;obtain⟨Y,x,R⟩:=h.aE (by grind);have bm:hR f r.ah[d].ai=f.Q[p].of:=by rw[hR,M,eN,bu N]
 have br:hR f r.ai=f.Q[Y].of:=by rw[hR,x,eN,bu R]
 rw[bm,br]at m;rw[M]at m⊢;simp only[aF N (jg _ _),O,bj,aK,Dh,e,x,aF R (jg _ _),cx];exact m;simp only[G,i];refine b (λo=>?_) (λo=>?_);simp_all[tm];rw[if_neg (by grind)]at l;rw[a6,O];grind;have:d=Z r.ah:=by simp at g;omega
 subst this;rw[qk,mW]at l;have z:(aS bC r)[3+2]?=aa (.str r.aj.aE):=rfl;have cc:tm f r=(r.aj.aE==[]||B):=by rw[tm,l]
 simp only[z,O,jD,bK,bw,G];refine Bq (λj=>?_) (λj=>?_);refine dw (λo=>?_) (λo=>?_);simp_all;exact⟨.aB [I 0,I 0],eu,0,0,rfl,by grind⟩;simp only[c3,eZ,if_false];exact⟨.aB [I 0,I 0],eu,0,0,rfl,by grind⟩
def Gr(c:List Obj)(b:AV)(d:K->List AV)(e:Nat)(a:List K):Prop:=(a=[]/\b=.aq)\/∃id g,b=.q id g 0 (Z a)/\c[id]?=aa (.arr g e (a.map d))
def hS(c:AV)(a:Nat):Prop:=∃g b,c=.q a g 0 b
theorem uw(a:Nat):¬hS .aq a:=by rintro⟨g,b,h⟩;cases h
theorem so{id g:Nat}:hS (.q id g 0 U) N<->N=id:=⟨λ⟨a,b,h⟩=>by grind,λh=>⟨g,U,by rw[h]⟩⟩
theorem Gr.mono{H':List Obj}(h:Gr M E a7 U x)(e:∀(a:Nat)(b:Obj),hS E a->M[a]?=aa b->H'[a]?=aa b):Gr H' E a7 U x:=by
 rcases h with h|⟨id,g,c,d⟩;exact .inl h;exact .inr (by grind[so])
theorem Gr.cell(h:Gr M E a7 U x):E.bU=true:=by
 rcases h with⟨-,h⟩|⟨id,g,h,-⟩<;>rw[h]<;>rfl
theorem Gr.lt(h:Gr M E a7 U x)(b:hS E N):N<Z M:=by
 rcases h with⟨-,h⟩|⟨id,g,h,a⟩;grind[uw];grind[so]
theorem Gr.grow{bytes:Nat}(h:Gr M E a7 U x)(a:K)(f:Z (a7 a)=U)(k:(Z x+1)*bytes<=2^47):
 ∃id g c,cJ U bytes E (.sl ab [a7 a]) M=aa (.q id g 0 (Z (x++[a])),c)/\Gr c (.q id g 0 (Z (x++[a]))) a7 U (x++[a])/\(∀(b:Nat)(d:Obj),¬hS E b->M[b]?=aa d->c[b]?=aa d)/\(hS E id\/((∀b,¬hS E b)/\id=Z M))/\Z M<=Z c:=by
 rcases h with⟨j,h⟩|⟨id,g,h,e⟩;subst j;subst h;refine⟨Z M,0,M++[.arr 0 U [a7 a]],?_,.inr (by grind),by grind,.inr ⟨uw,rfl⟩,by simp⟩;exact pX (a7:=a7) (x:=[a]) rfl (by simp[ij,f]) (by omega);have l:=(fM.1 e).1;have i:aX M id U a7 g x=M:=by
  let⟨m,n⟩:=fM.1 e;simp only[aX];rw[<-n];exact yX m
 have ap:=pW (M:=M) (id:=id) (U:=U) (bytes:=bytes) (N:=g) (a7:=a7) (x:=x) a l f k;rw[i]at ap;rw[h];refine⟨id,g+1,_,ap,.inr (by grind[n9]),λb d r s=>?_,.inl (so.2 rfl),by simp[aX]⟩;grind[aX,List.getElem?_set_ne,so]
theorem Gr.res(h:Gr M E a7 U x)(d:∀b∈x,bS (a7 b)):aM M .res E (eS ab a7 x):=by
 rcases h with⟨a,h⟩|⟨id,g,h,c⟩;rw[a,h];exact .aq _ _;grind[h8]
theorem D5{b:K->List AV}:∀{a:List K},(∀x∈a,b6 M c9 (a7 x) (b x))->fF M c9 (a.map a7) (a.map b)
 |[],_=>.nil _
 |x::a,h=>.ck (h x (by simp)) (D5 (by grind))
theorem Gr.cb{a:K->List AV}(h:Gr M E a7 U x)(e:∀b∈x,b6 M .cb (a7 b) (a b)):aM M .cb E (eS ad a x):=by
 rcases h with⟨c,h⟩|⟨id,g,h,d⟩;rw[c,h];exact .aq _ _;rw[h];refine .vX id g 0 _ U _ _ d (by simp) ?_;grind[List.take_of_length_le,D5]
theorem vC{a:K->List AV}(c:∀b∈x,b6 M .cb (a7 b) (a b)):aM M .cb (eS T a7 x) (eS ad a x):=.AK T _ _ (D5 c)
theorem tq{a:K->List AV}(c:∀b∈x,b6 M .df (a7 b) (a b)):aM M .df (eS T a7 x) (eS ad a x):=.CC T _ _ (D5 c)
theorem Wq(b:Bool)(a:Lit):b6 M .cb (bg b a) (bg ad a):=
 .ck (.int _ _ _) (.ck (.str _ _) (.ck (.int _ _ _) (.ck (by simp[vC,bS.snap]) (.ck (.str _ _) (.ck (.str _ _) (.ck (.int _ _ _) (.ck (.int _ _ _) (.ck (.int _ _ _) (.nil _)))))))))
theorem akr(b:Bool)(a:Lit):b6 M .df (bg b a) (bg ad a):=
 .ck (.int _ _ _) (.ck (.str _ _) (.ck (.int _ _ _) (.ck (by simp[tq,bS.snap]) (.ck (.str _ _) (.ck (.str _ _) (.ck (.int _ _ _) (.ck (.int _ _ _) (.ck (.int _ _ _) (.nil _)))))))))
def pj(a:Bool)(r:aD):List AV:=[.str r.au,I r.ai,eS a cT r.af,I r.aj.ax,.str r.aj.au,.str r.aj.aE,I r.aj.aR,eS ab (bg a) r.ah,I r.ba]
@[simp] theorem aks(a:Bool)(r:aD):bS (pj a r):=by simp[pj]
@[simp] theorem akt(a:Bool)(r:aD):Z (pj a r)=9:=rfl
theorem aku(a:Bool)(r:aD):dS 9 (.agg (pj a r))=aa (pj a r):=ji rfl rfl
theorem akv(a:Bool)(r:aD):b6 M .df (pj a r) (aS ad r):=
 .ck (.str _ _) (.ck (.int _ _ _) (.ck (by simp[tq,bS.snap]) (.ck (.int _ _ _) (.ck (.str _ _) (.ck (.str _ _) (.ck (.int _ _ _) (.ck (tq λb _=>akr a b) (.ck (.int _ _ _) (.nil _)))))))))
theorem akw(a:Bool)(b:Lit):fQ 9 [(I 0),(.str []),(I 0),.aq,(.str []),(.str []),(I 0),(I 0),(I 0)] 1 [(0,.agg (bg a b))]=aa (.sl ab [bg a b]):=rfl
variable{b9:Int}
theorem z7:mq ey f b9=[]<->ey=[]/\f=0:=by
 unfold mq;split;grind;simp_all
theorem Aa(h:Z ey<=20):Z (mq ey f b9)<=20:=by
 grind[mq]
theorem Ma(h:∀a∈ey,a.1≠0):∀a∈mq ey f b9,a.1≠0:=by
 grind[mq]
theorem Wr(h:U<Z x):(x.take (U+1)).all ea=ad<->(x.take U).all ea=ad/\ea x[U]=true:=by
 grind[n5]
def Ws(d:Bool)(b:D)(r:aD)(e:AV):Prop:=∃c a,e=.aB [.agg (pj d c),eS ab b2 a]/\Z a<=20/\(a=[]<->lD b r)/\(lD b r->c=fh b r)/\pT c/\∀f∈a,f.1≠0
theorem akx(j:D)(r:aD)(c1:eI j)(x:kN j)(L:pT r)(f8:Z r.ah<=100)(d4:∀n∈r.ah,n.ax=5->Z n.af=2)
 (f3:gN j r=ad->r.ah.all (hQ j)=ad->D4 j (fh j r)):∃o,PR C 143 [.agg (cP T F j),.agg (aS bC r)] o/\Ws bC j r o:=by
 apply aem.ex;simp only[eP,o2,O,e3,ft,gS,nA,bj,aK,qH,Bd,e,a1,dK,eU,hD,jW];obtain⟨o,M,f,br,rfl,el,cs,y,go,fx⟩:=akl (T:=T) (F:=F) (bC:=bC) j r c1 L.1 x;apply c M;simp only[fH,de,eF,O,xR,vb,wG,vc,vd,ve,vf,wH,ud];refine c7 (z1 (M:=[.arr 0 2 [],.arr 0 2 []]) (id:=1) [] br r.ba ⟨0,rfl,rfl⟩) rfl λX U d5=>?_;refine aI (dR:=.aq) rfl ?_;have g9:Z U=Z U:=rfl
 refine bG (K:=Nat×AV×List (Int×Int)×AV×List Lit×List Obj×List AV) (λd=>[d.2.1,I d.1]++d.2.2.2.2.2.2++[.str f.au,I f.ai,eS bC cT f.af,I f.aj.ax,.str f.aj.au,.str f.aj.aE,I f.aj.aR,d.2.2.2.1,I f.ba]) (λd=>d.2.2.2.2.2.1) (λd=>Z r.ah -d.1) (λd=>d.1<=Z r.ah/\mo d.2.2.2.2.2.1 d.2.1 1 d.2.2.1/\Z d.2.2.1<=20/\Gr d.2.2.2.2.2.1 d.2.2.2.1 (bg bC) 9 d.2.2.2.2.1/\¬hS d.2.2.2.1 1/\Z d.2.2.2.2.1=d.1/\Z d.2.2.2.2.2.2=9/\
  (d.2.2.1=[]<->gN j r=ad/\(r.ah.take d.1).all (hQ j)=ad)/\((r.ah.take d.1).all (hQ j)=ad->d.2.2.2.2.1=(r.ah.take d.1).map (iq j))/\(∀n∈d.2.2.2.2.1,u5 n)/\∀a3∈d.2.2.1,a3.1≠0) (0,X,mq [] br r.ba,.aq,[],U,[.str [],I 0,.aq,I 0,.str [],.str [],I 0,.aq,I 0]) ⟨by simp,d5.1,Aa (by simp),.inl ⟨rfl,rfl⟩,uw 1,rfl,rfl,by simp[z7,el],by simp,by simp,Ma (by simp)⟩ ?_
 rintro⟨N,X,m,bm,p,a4,ds⟩ ⟨es,s,Q,J,aZ,ce,co,K,S,c2,R⟩ f7 dl;simp only at es s Q J aZ ce co K S c2 R dl⊢;obtain⟨gQ,g0,g1,g2,g3,g4,g5,g6,g7,rfl⟩:∃a5 y z t P W a9 be bi,ds=[a5,y,z,t,P,W,a9,be,bi]:=by
  match ds,co with
  |[a5,y,z,t,P,W,a9,be,bi],_=>grind
 simp only[hD,dK,G,i,A,O,a];refine b (λh=>?_) (λh=>?_);have h:N<Z r.ah:=by simpa using h
 have aA:r.ah[N]∈r.ah:=bp h;simp only[aF h (jB _ _),O,o1];obtain⟨o,M,k,bv,rfl,em,ge,z,gt,fn⟩:=akn (T:=T) (F:=F) (bC:=bC) j r.ah[N] c1 (L.2.2 _ aA) x (d4 _ aA);apply c M;simp only[de,eF,O,xQ,wz,wA,yd,wB,wC,wD,ye,wE,wF];refine c7 (z1 m bv k.ba s) (by simp[s.pl]) λac V v=>?_;have d7:(AV.agg [I k.ax,.str k.au,I k.ai,eS bC cT k.af,.str k.bind,.str k.aj,I k.iC,I k.op,I k.ba])=.agg (bg bC k):=rfl
 rw[d7,akw,O];have eq:=J.mono (H':=V) λa0 a2 fd x=>v.2 a0 a2 (by grind) x;let⟨id,ca,d0,y,z,t,P,W⟩:=eq.grow (bytes:=112) k (jB bC k) (by omega);refine aY y (aI (dR:=.q id ca 0 (Z (p++[k]))) rfl ?_);rw[a6,O];have f9:=v.1.lt;have gc:id≠1:=by
  rcases P with cc|⟨-,cc⟩;exactλB=>aZ (B▸cc);omega
 refine dl (N+1,ac,mq m bv k.ba,.q id ca 0 (Z (p++[k])),p++[k],d0,[_,_,_,_,_,_,_,_,_]) ⟨h,?_,Aa Q,z,by grind[so],by simp[ce],rfl,?_,?_,?_,Ma R⟩ (by simp;omega);let⟨d3,f5,f6⟩:=v.1;exact⟨d3,f5,t 1 _ aZ f6⟩;rw[z7,K,em,Wr h,and_assoc];grind[List.take_succ_eq_append_getElem];intro n w;rcases dm.1 w with w|w;grind;simp only[l5]at w;rw[w,fn];have:=L.2.2 _ aA;exact this;have:N=Z r.ah:=by simp at h;omega
 subst this;rw[dU]at K S;simp only[s.ln,O,di];have bD:∀(Y:AV)(u:List (Int×Int))(H':List Obj),mo H' Y 1 u->Z u<=20->Gr H' bm (bg bC) 9 p->(∀a3∈u,a3.1≠0)->(u=[]<->lD j r)->
  bd (dS 9 (.agg [.str f.au,I f.ai,eS bC cT f.af,I f.aj.ax,.str f.aj.au,.str f.aj.aE,I f.aj.aR,bm,I f.ba])) λl=>∃o,aM H' .res (.aB [(AV.pl (.agg [(g l 0),(g l 1),(g l 2),(g l 3),(g l 4),(g l 5),(g l 6),(g l 7),(g l 8)])),(AV.pl Y)]) o/\Ws bC j r o:=by
  intro Y u H' ci d8 cl f4 d9;rw[ji (U:=9) rfl (by simp[cl.cell]),O,ci.pl];refine⟨.aB [.agg (pj bC ⟨f.au,f.ai,f.af,f.aj,p,f.ba⟩),eS ab b2 u],.aB _ _ _ (.ck (.agg _ _ _ ?_) (.ck ci.res (.nil _))),_,_,rfl,d8,d9,λE=>?_,?_,f4⟩;exact .ck (.str _ _) (.ck (.int _ _ _) (.ck eu (.ck (.int _ _ _) (.ck (.str _ _) (.ck (.str _ _) (.ck (.int _ _ _) (.ck (cl.res (by simp)) (.ck (.int _ _ _) (.nil _)))))))))
  rw[cs E.1,S E.2.1]<;>rfl
  refine⟨by rw[fx];exact L.1,?_,c2⟩;show Z p<1099511627776;omega
 refine b (λak=>?_) (λak=>?_);have H:m=[]:=by
  have:Z m=0:=by simpa using ak
  exact I3.1 this
 let⟨az,am⟩:=K.1 H;have f1:=cs az;have d6:=S am;have f0:(⟨f.au,f.ai,f.af,f.aj,p,f.ba⟩:aD)=fh j r:=by rw[f1,d6]<;>rfl
 have f2:pT (fh j r):=by
  refine⟨L.1,?_,λn w=>?_⟩;grind[Sm];grind
 obtain⟨o,M,d2,t,rfl,eo⟩:=akq (T:=T) (F:=F) (bC:=true) j (fh j r) f2 (f3 az am);refine e4 _ M ?_ (.aB _ (.cons _ _ (.int _ _) (.cons _ _ (.int _ _) .nil))) ?_;refine .ck eu (.ck (.agg _ _ _ ?_) (.nil _));rw[<-f0]
 exact .ck (.str _ _) (.ck (.int _ _ _) (.ck (by simp[vC,bS.snap]) (.ck (.int _ _ _) (.ck (.str _ _) (.ck (.str _ _) (.ck (.int _ _ _) (.ck (J.cb λn _=>Wq bC n) (.ck (.int _ _ _) (.nil _)))))))));simp only[de,eF,O];refine c7 (z1 m d2 t s) (by simp[s.pl]) λac V v=>?_;simp only[G,i];apply bD ac _ V v.1 (Aa Q) (J.mono λa0 a2 fd x=>v.2 a0 a2 (by grind) x) (Ma R);rw[z7,eo]
 exact⟨λh=>⟨az,am,h.2⟩,λh=>⟨H,h.2.2⟩⟩;have H:m≠[]:=by
  have:¬(Z m)=0:=by simpa using ak
  exactλB=>this (by rw[B]<;>rfl)
 simp only[G,i];refine bD X m a4 s Q J R ⟨λB=>absurd B H,λE=>absurd (K.2 ⟨E.1,E.2.1⟩) H⟩
variable{bE:List AV}
theorem vD{row:List AV}(b:Z row=U)(a:row.all AV.bU=ad):fQ U bE 1 [(0,.agg row)]=aa (.sl ab [row]):=by
 simp_all[fQ,lH]
def w3(b:Bool)(a:Fn):List AV:=[.str a.au,.str a.aN,I a.of,eS b cS a.src,eS b cS a.dst,eS ab cI a.gQ,I a.ba]
@[simp] theorem aky(a:Bool)(b:Fn):bS (w3 a b):=by simp[w3]
def akz(c j:Bool)(a:D)(r:AV)(b:List Obj):Prop:=∃f e g h d id i,r=.aB [.agg [f,e,g,eS j (aS c) a.ak],h]/\mo b h id d/\Z d<=20/\Gr b f (bo c) 4 a.aw/\Gr b e (λl:List AV=>l) 7 i/\Gr b g (bO c) 7 (a.Q.map (ew a))/\
 (d=[]<->p7 a=ad)/\(p7 a=ad->i=a.aO.map λk=>w3 c (eK a k))/\¬hS f id/\¬hS e id/\¬hS g id
theorem Mb:(ay (U+1)).all ct=ad<->(ay U).all ct=ad/\ct U=true:=by grind
theorem akA(d:D)(aA:eI d)(i8:Z d.aw<=100)(i5:Z d.aO<=100)(ke:Z d.Q<=100)(hs:∀g∈d.aO,Z g.src=Z g.dst):HR C 142 [.agg (cP T F d)] M (akz T F d):=by
 apply aga.hq;simp only[eP,O,e3,ft,bj,aK,gS,rP,wk,kt,o4,e,a1];refine aI (dR:=[.aq,.aq,.aq,eS F (aS T) d.ak]) rfl (aI (dR:=[.aq,.aq,.aq,eS F (aS T) d.ak]) rfl ?_);simp only[G,i];have f6:Z (M++[Obj.arr 0 2 []])=Z M+1:=by simp
 rw[f6];generalize hj:Z M+1=id;generalize g9:M++[Obj.arr 0 2 []]++[Obj.arr 0 2 []]=f0;have ha:mo f0 (.q id 0 0 0) id []:=⟨0,rfl,by grind⟩;clear f6 g9 hj
 apply bG (K:=Nat×AV×List (Int×Int)×AV×List Obj×List AV) (λf=>[f.2.1,I f.1]++f.2.2.2.2.2++[f.2.2.2.1,.aq,.aq,eS F (aS T) d.ak]) (λf=>f.2.2.2.2.1) (λf=>Z d.aw -f.1) (λf=>f.1<=Z d.aw/\mo f.2.2.2.2.1 f.2.1 id f.2.2.1/\Z f.2.2.1<=20/\Gr f.2.2.2.2.1 f.2.2.2.1 (bo T) 4 (d.aw.take f.1)/\¬hS f.2.2.2.1 id/\Z f.2.2.2.2.2=4/\(f.2.2.1=[]<->(ay f.1).all (p6 d)=ad)) (0,.q id 0 0 0,[],.aq,f0,[.aq,.aq,.aq,.aq]) ⟨by simp,ha,by simp,.inl ⟨rfl,rfl⟩,uw id,rfl,by simp⟩
 rintro⟨k,J,K,r,H,aE⟩ ⟨bD,u,N,B,d5,ax,am⟩ X W;simp only at bD u N B d5 ax am W⊢;obtain⟨R,S,U,V,rfl⟩:∃af o p w,aE=[af,o,p,w]:=by
  match aE,ax with
  |[af,o,p,w],_=>grind
 simp only[hD,dK,G,i,A,O,a];refine b (λh=>?_) (λh=>?_);have h:k<Z d.aw:=by simpa using h
 have hl:d.aw[k]∈d.aw:=bp h;have f4:(AV.agg [.str d.aw[k].au,eS T cS d.aw[k].az,eS T b2 d.aw[k].eH,I d.aw[k].ba])=.agg (bo T d.aw[k]):=rfl;simp only[aF h (kH _ _),O,jh,zo,DB,DC,DD,DE,f4];refine c (Lj _ (aA.aN _ hl)) (c (KZ d d.aw[k].au aA) ?_);have ca:b1 (λv:bP=>v.au==d.aw[k].au) d.aw=ed d d.aw[k].au:=rfl;rw[ca];simp only[cx,O]
 have d3:p6 d k=(eR d.aw[k]==0&&ed d d.aw[k].au==(k:Int)):=by rw[p6,bu h]
 have go:∀l:Int,(l=0<->p6 d k=ad)->ch C 144 [J,I l,I d.aw[k].ba] H λh3 g6=>bd (fQ 4 [(.str []),.aq,.aq,(I 0)] 1 [(0,.agg [.str d.aw[k].au,eS T cS d.aw[k].az,eS T b2 d.aw[k].eH,I d.aw[k].ba])]) λh4=>
  cj (cJ 4 72 r h4 g6) λii g7=>bd (nu ii) λio=>bd (aT .s .add (I k) (I 1)) λip=>X [h3,ip,R,S,U,V,io,.aq,.aq,eS F (aS T) d.ak] g7:=by
  intro l bm;refine c7 (z1 K l _ u) (by simp[u.pl]) λa2 ac z=>?_;rw[f4,vD (U:=4) (row:=bo T d.aw[k]) rfl rfl,O];have br:=B.mono (H':=ac) λm n P E=>z.2 m n (by grind) E;let⟨hO,f3,a0,o,p,w,ah,f2⟩:=br.grow (bytes:=72) d.aw[k] (kH T _) (by grind);rw[<-iu h]at o p;refine aY o (aI rfl ?_);rw[a6,O];have f5:=z.1.lt;have gc:hO≠id:=by
   rcases ah with x|⟨-,x⟩;exactλl=>d5 (l▸x);omega
  refine W (k+1,a2,mq K l d.aw[k].ba,_,a0,[_,_,_,_]) ⟨h,?_,Aa N,p,by grind[so],rfl,?_⟩ (by simp;omega);let⟨a3,ce,ci⟩:=z.1;exact⟨a3,ce,w id _ d5 ci⟩;grind[z7]
 simp_all;have:k=Z d.aw:=by simp at h;omega
 subst this;rw[dU]at B;clear W;have i7:=am
 refine bG (K:=Nat×AV×List (Int×Int)×AV×List (List AV)×List Obj×List AV) (λf=>[f.2.1,I f.1]++f.2.2.2.2.2.2++[r,f.2.2.2.1,.aq,eS F (aS T) d.ak]) (λf=>f.2.2.2.2.2.1) (λf=>Z d.aO -f.1) (λf=>f.1<=Z d.aO/\mo f.2.2.2.2.2.1 f.2.1 id f.2.2.1/\Z f.2.2.1<=20/\Gr f.2.2.2.2.2.1 r (bo T) 4 d.aw/\Gr f.2.2.2.2.2.1 f.2.2.2.1 (λv:List AV=>v) 7 f.2.2.2.2.1/\¬hS f.2.2.2.1 id/\(∀m,hS r m->¬hS f.2.2.2.1 m)/\Z f.2.2.2.2.1=f.1/\Z f.2.2.2.2.2.2=4/\
  (f.2.2.1=[]<->(ay (Z d.aw)).all (p6 d)=ad/\(ay f.1).all (ph d)=ad)/\((ay f.1).all (ph d)=ad->f.2.2.2.2.1=(d.aO.take f.1).map λg=>w3 T (eK d g))) (0,J,K,.aq,[],H,[R,S,U,V]) ⟨by simp,u,N,B,.inl ⟨rfl,rfl⟩,uw id,λ_ _=>uw _,rfl,rfl,by simp[am],by simp⟩ ?_
 rintro⟨k,J,K,L,g1,H,aE⟩ ⟨bD,u,N,aj,B,d6,hk,ge,ax,am,em⟩ X W;simp only at bD u N aj B d6 hk ge ax am em W⊢;obtain⟨R,S,U,V,rfl⟩:∃af o p w,aE=[af,o,p,w]:=by
  match aE,ax with
  |[af,o,p,w],_=>grind
 simp only[hD,dK,G,i,A,O,a];refine b (λh=>?_) (λh=>?_);have h:k<Z d.aO:=by simpa using h
 have f8:d.aO[k]∈d.aO:=bp h;generalize el:d.aO[k]=g at*;have d3:ph d k=((match d.aw[(ed d g.aN).toNat]? with|aa cc=>y (0<=ed d g.aN)&&fD cc g|ae=>ab)&&iN d g.au==(k:Int)):=by rw[ph,bu h,el]<;>rfl
 simp only[aF h (sZ _ _),O,el,Dc,FW,GC,GD,GF,GG,GH];apply c (KZ d g.aN aA);have ca:b1 (λv:bP=>v.au==g.aN) d.aw=ed d g.aN:=rfl;rw[ca];simp only[tp,O];refine aI (dR:=.aq) rfl ?_;have go:∀(l:Int)(Y:AV),(l=0<->(match d.aw[(ed d g.aN).toNat]? with|aa cc=>y (0<=ed d g.aN)&&fD cc g|ae=>ab)=ad)->Y.bU=ad->(l=0->Y=eS ab cI (eK d g).gQ)->
  cp C 197 [.agg (cP T F d),.str g.au] H λit=>bd (aT .s .neq it (I k)) λiC=>ez iC
   (ch C 144 [J,I 5,I g.ba] H λcl a5=>bd (fQ 7 [(.str []),(.str []),(I 0),.aq,.aq,.aq,(I 0)] 1 [(0,.agg [.str g.au,.str g.aN,I (ed d g.aN),eS T cS g.src,eS T cS g.dst,Y,I g.ba])]) λco=>
    cj (cJ 7 120 L co a5) λcs a9=>bd (nu cs) λc1=>bd (aT .s .add (I k) (I 1)) λc2=>X [cl,c2,R,S,U,V,r,c1,.aq,eS F (aS T) d.ak] a9)
   (ch C 144 [J,I l,I g.ba] H λcl a5=>bd (fQ 7 [(.str []),(.str []),(I 0),.aq,.aq,.aq,(I 0)] 1 [(0,.agg [.str g.au,.str g.aN,I (ed d g.aN),eS T cS g.src,eS T cS g.dst,Y,I g.ba])]) λco=>
    cj (cJ 7 120 L co a5) λcs a9=>bd (nu cs) λc1=>bd (aT .s .add (I k) (I 1)) λc2=>X [cl,c2,R,S,U,V,r,c1,.aq,eS F (aS T) d.ak] a9):=by
  intro l Y bm hH hu;apply c (UD d g.au aA);have hg:b1 (λv:Fn=>v.au==g.au) d.aO=iN d g.au:=rfl;rw[hg];simp only[cx,O];have ai:∀aR:Int,(aR=0<->ph d k=ad)->(aR=0->Y=eS ab cI (eK d g).gQ)->ch C 144 [J,I aR,I g.ba] H λcl a5=>bd (fQ 7 [(.str []),(.str []),(I 0),.aq,.aq,.aq,(I 0)] 1 [(0,.agg [.str g.au,.str g.aN,I (ed d g.aN),eS T cS g.src,eS T cS g.dst,Y,I g.ba])]) λco=>
   cj (cJ 7 120 L co a5) λcs a9=>bd (nu cs) λc1=>bd (aT .s .add (I k) (I 1)) λc2=>X [cl,c2,R,S,U,V,r,c1,.aq,eS F (aS T) d.ak] a9:=by
   intro aR he hw;refine c7 (z1 K aR _ u) (by simp[u.pl]) λa2 ac z=>?_;rw[vD (U:=7) (row:=[.str g.au,.str g.aN,I (ed d g.aN),eS T cS g.src,eS T cS g.dst,Y,I g.ba]) rfl (by simp[hH]),O];have br:=B.mono (H':=ac) λm n P E=>z.2 m n (by grind) E;have bv:=aj.mono (H':=ac) λm n P E=>z.2 m n (by grind) E
   let⟨g0,f3,a0,o,p,w,ah,f2⟩:=br.grow (bytes:=120) [.str g.au,.str g.aN,I (ed d g.aN),eS T cS g.src,eS T cS g.dst,Y,I g.ba] rfl (by omega);refine aY o (aI rfl ?_);rw[a6,O];have f5:=z.1.lt;have gc:g0≠id:=by
    rcases ah with x|⟨-,x⟩;exactλl=>d6 (l▸x);omega
   have i9:∀m,hS r m->m≠g0:=by
    intro m P l;rcases ah with x|⟨-,x⟩;grind;have:=bv.lt P;omega
   refine W (k+1,a2,mq K aR g.ba,_,_,a0,[_,_,_,_]) ⟨h,?_,Aa N,bv.mono (by grind),p,by grind[so],by grind[so],by simp[ge],rfl,?_,?_⟩ (by simp;omega);let⟨a3,ce,ci⟩:=z.1;exact⟨a3,ce,w id _ d6 ci⟩;grind[z7];intro d9;rw[Mb]at d9;rw[em d9.1,hw (he.2 d9.2),iu h,hE,el]<;>rfl
  refine b (λt=>?_) (λt=>?_);refine ai 5 ?_ (λh=>by cases h);grind;refine ai l ?_ hu;grind
 simp only[bw,h0,O,G,i];refine b (λt=>?_) (λt=>?_);have t:0<=ed d g.aN:=by simpa using t
 let⟨n,E,es⟩:∃n:Nat,ed d g.aN=n/\n<Z d.aw:=by
  rcases sd (λv:bP=>v.au==g.aN) d.aw with⟨n,E,g5,-⟩|⟨g5,-⟩;grind;omega
 rw[E]at d3 go⊢;simp only[eN,bu es]at d3 go;have i3:y ((0:Int)<=(n:Int))=true:=by simp
 simp only[aF es (kH _ _),O,jh];have f7:=aA.fn g f8;obtain⟨kx,gt,l,rfl,bm⟩:=akp (T:=T) (F:=T) d.aw[n] {g with of:=(n:Int),gQ:=[]} (aA.aN _ (bp es)) ⟨f7.1,f7.2.1,by simp[Sm]⟩ (hs g f8);have g3:fD d.aw[n] {g with of:=(n:Int),gQ:=[]}=fD d.aw[n] g:=rfl;have h1:fJ d.aw[n] {g with of:=(n:Int),gQ:=[]}=fJ d.aw[n] g:=rfl;rw[g3,h1]at gt;rw[g3]at bm;refine⟨.df,_,_,by decide,?_,gt,(λl=>by cases l),?_⟩
 exact .ck eu (.ck (.agg _ _ _ (.ck (.str _ _) (.ck (.str _ _) (.ck (.int _ _ _) (.ck eu (.ck eu (.ck (.aq _ _) (.ck (.int _ _ _) (.nil _))))))))) (.nil _));simp only[fH,de,eF,O];apply aI rfl;have:=go l (eS ab cI (if fD d.aw[n] g=ad then fJ d.aw[n] g else[])) (by grind) rfl (λ_=>by
  grind[eK,Int.toNat_natCast,List.getElem?_eq_getElem])
 exact this;have t:¬0<=ed d g.aN:=by simpa using t
 have kl:(match d.aw[(ed d g.aN).toNat]? with|aa cc=>y (0<=ed d g.aN)&&fD cc g|ae=>ab)=false:=by
  have:y (0<=ed d g.aN)=false:=by simpa using t
  split;rw[this]<;>rfl
  rfl
 have:=go 70 .aq (by grind) rfl (λh=>by cases h);exact this;have:k=Z d.aO:=by simp at h;omega
 subst this;rw[dU]at em;clear W
 refine bG (K:=Nat×AV×List (Int×Int)×AV×List Obj×List AV) (λf=>[f.2.1,I f.1]++f.2.2.2.2.2++[r,L,f.2.2.2.1,eS F (aS T) d.ak]) (λf=>f.2.2.2.2.1) (λf=>Z d.Q -f.1) (λf=>f.1<=Z d.Q/\mo f.2.2.2.2.1 f.2.1 id f.2.2.1/\Z f.2.2.1<=20/\Gr f.2.2.2.2.1 r (bo T) 4 d.aw/\Gr f.2.2.2.2.1 L (λv:List AV=>v) 7 g1/\Gr f.2.2.2.2.1 f.2.2.2.1 (bO T) 7 ((d.Q.take f.1).map (ew d))/\¬hS f.2.2.2.1 id/\(∀m,hS r m->¬hS f.2.2.2.1 m)/\(∀m,hS L m->¬hS f.2.2.2.1 m)/\Z f.2.2.2.2.2=4/\
  (f.2.2.1=[]<->((ay (Z d.aw)).all (p6 d)=ad/\(ay (Z d.aO)).all (ph d)=ad)/\(ay f.1).all (vy d)=ad)) (0,J,K,.aq,H,[R,S,U,V]) ⟨by simp,u,N,aj,B,.inl ⟨by simp,rfl⟩,uw id,λ_ _=>uw _,λ_ _=>uw _,rfl,by simp[am]⟩ ?_
 rintro⟨k,J,K,d8,H,aE⟩ ⟨bD,u,N,aj,d4,B,d7,hm,hh,ax,am⟩ X W;simp only at bD u N aj d4 B d7 hm hh ax am W⊢;obtain⟨R,S,U,V,rfl⟩:∃af o p w,aE=[af,o,p,w]:=by
  match aE,ax with
  |[af,o,p,w],_=>grind
 simp only[hD,dK,G,i,A,O,a];refine b (λh=>?_) (λh=>?_);have h:k<Z d.Q:=by simpa using h
 generalize ex:d.Q[k]=j at*;have d3:vy d k=((j.aN==[]||y (0<=ed d j.aN))&&eJ d j.au==(k:Int)):=by rw[vy,bu h,ex]
 simp only[aF h (jg _ _),O,ex,wg,xP,rS,rT,rU,rV,rW,rX];apply c (KZ d j.aN aA);have ca:b1 (λv:bP=>v.au==j.aN) d.aw=ed d j.aN:=rfl;rw[ca];simp only[tp,O,bw,gT];have go:∀l:Int,(l=0<->vy d k=ad)->ch C 144 [J,I l,I j.ba] H λdl be=>bd (fQ 7 [(.str []),.aq,(.str []),(I 0),ff,(I 0),(I 0)] 1 [(0,.agg [.str j.au,eS T cI j.aZ,.str j.aN,I (ew d j).of,.bool j.eo,I j.fx,I j.ba])]) λds=>
  cj (cJ 7 88 d8 ds be) λd0 bi=>bd (nu d0) λd1=>bd (aT .s .add (I k) (I 1)) λd2=>X [dl,d2,R,S,U,V,r,L,d1,eS F (aS T) d.ak] bi:=by
  intro l bm;refine c7 (z1 K l _ u) (by simp[u.pl]) λa2 ac z=>?_;rw[vD (U:=7) (row:=[AV.str j.au,eS T cI j.aZ,.str j.aN,I (ew d j).of,.bool j.eo,I j.fx,I j.ba]) rfl rfl,O];have ho:[AV.str j.au,eS T cI j.aZ,.str j.aN,I (ew d j).of,.bool j.eo,I j.fx,I j.ba]=bO T (ew d j):=rfl;rw[ho];have br:=B.mono (H':=ac) λm n P E=>z.2 m n (by grind) E;have bv:=aj.mono (H':=ac) λm n P E=>z.2 m n (by grind) E
  have f9:=d4.mono (H':=ac) λm n P E=>z.2 m n (by grind) E;let⟨fd,f3,a0,o,p,w,ah,f2⟩:=br.grow (bytes:=88) (ew d j) (jg T _) (by grind);have ht:(d.Q.take k).map (ew d)++[ew d j]=(d.Q.take (k+1)).map (ew d):=by
   rw[iu h,hE,ex]<;>rfl
  rw[ht]at o p;refine aY o (aI rfl ?_);rw[a6,O];have f5:=z.1.lt;have gc:fd≠id:=by
   rcases ah with x|⟨-,x⟩;exactλl=>d7 (l▸x);omega
  have jp:∀m,hS r m->m≠fd:=by
   intro m P l;rcases ah with x|⟨-,x⟩;grind;have:=bv.lt P;omega
  have i6:∀m,hS L m->m≠fd:=by
   intro m P l;rcases ah with x|⟨-,x⟩;grind;have:=f9.lt P;omega
  refine W (k+1,a2,mq K l j.ba,_,a0,[_,_,_,_]) ⟨h,?_,Aa N,bv.mono (by grind),f9.mono (by grind),p,by grind[so],by grind[so],by grind[so],rfl,?_⟩ (by simp;omega);let⟨a3,ce,ci⟩:=z.1;exact⟨a3,ce,w id _ d7 ci⟩;grind[z7]
 have ai:∀l:Int,(l=0<->(j.aN==[]||y (0<=ed d j.aN))=ad)->cp C 198 [.agg (cP T F d),.str j.au] H λi0=>bd (aT .s .neq i0 (I k)) λi1=>ez i1
  (ch C 144 [J,I 5,I j.ba] H λdl be=>bd (fQ 7 [(.str []),.aq,(.str []),(I 0),ff,(I 0),(I 0)] 1 [(0,.agg [.str j.au,eS T cI j.aZ,.str j.aN,I (ew d j).of,.bool j.eo,I j.fx,I j.ba])]) λds=>
   cj (cJ 7 88 d8 ds be) λd0 bi=>bd (nu d0) λd1=>bd (aT .s .add (I k) (I 1)) λd2=>X [dl,d2,R,S,U,V,r,L,d1,eS F (aS T) d.ak] bi)
  (ch C 144 [J,I l,I j.ba] H λdl be=>bd (fQ 7 [(.str []),.aq,(.str []),(I 0),ff,(I 0),(I 0)] 1 [(0,.agg [.str j.au,eS T cI j.aZ,.str j.aN,I (ew d j).of,.bool j.eo,I j.fx,I j.ba])]) λds=>
   cj (cJ 7 88 d8 ds be) λd0 bi=>bd (nu d0) λd1=>bd (aT .s .add (I k) (I 1)) λd2=>X [dl,d2,R,S,U,V,r,L,d1,eS F (aS T) d.ak] bi):=by
  intro l bm;apply c (K0 d j.au aA);have hn:b1 (λv:cO=>v.au==j.au) d.Q=eJ d j.au:=rfl;rw[hn];simp only[cx,O];refine b (λt=>?_) (λt=>?_);refine go 5 ?_;grind;refine go l ?_;grind
 refine b (λt=>?_) (λt=>?_);have a4:j.aN=[]:=by simpa using t
 have eq:(ew d j).of= -1:=by rw[ew,if_pos a4]
 rw[eq]at ai;have:=ai 0 (by simp[a4]);simp only[G,i,a4,beq_self_eq_true,sN,jD,O,jC,eZ,if_false,c3]at this⊢;exact this;have a4:j.aN≠[]:=by simpa using t
 have eq:(ew d j).of=ed d j.aN:=by rw[ew,if_neg a4]
 rw[eq]at ai;simp only[G,i,jD,t,q6,O,jC,if_true,A];refine b (λg8=>?_) (λg8=>?_);have:=ai 70 (by
  grind)
 exact this;have:=ai 0 (by
  grind)
 exact this;have:k=Z d.Q:=by simp at h;omega
 subst this;rw[dU]at B;rw[ji (U:=4) rfl (by simp[aj.cell,d4.cell,B.cell]),O,u.pl];have i4:p7 d=ad<->((ay (Z d.aw)).all (p6 d)=ad/\(ay (Z d.aO)).all (ph d)=ad)/\(ay (Z d.Q)).all (vy d)=true:=by
  rw[p7,bc,bc]
 exact⟨r,L,d8,J,K,id,g1,rfl,u,N,aj,d4,B,by grind,by grind,d5,d6,d7⟩
theorem ux(h:eQ f ea x=ad):(Z x:Int)<=f/\∀a∈x,ea a=true:=by
 grind[eQ]
structure Wt(l:Lit):Prop where
 ax:1<=l.ax/\l.ax<=5
 af:Z l.af<=4
 Ab:∀t∈l.af,iJ t=ad
 aj:(l.ax=3\/l.ax=4)\/l.aj=[]
 bind:l.bind≠[]->l.ax=1
 cmp:l.ax=5->Z l.af=2
variable{P:Lit}
theorem akB(h:n4 P=ad):Wt P:=by
 unfold n4 at h;simp only[bc]at h;let⟨⟨⟨⟨⟨⟨⟨_,d⟩,e⟩,b⟩,_⟩,f⟩,g⟩,i⟩:=h;let⟨c,a⟩:=ux b;refine⟨(by grind),by omega,a,?_,λj=>?_,λk=>?_⟩;grind;grind;grind
structure HA(r:aD):Prop where
 ax:0<=r.aj.ax/\r.aj.ax<=3
 none:r.au=[]->r.af=[]/\r.aj.ax=0
 aE:(r.aj.ax=2\/r.aj.ax=3)<->r.aj.aE≠[]
 af:Z r.af<=4
 Ab:∀t∈r.af,iJ t=ad
 ah:Z r.ah<=8
 lit:∀l∈r.ah,Wt l
theorem akC(h:isVar bL=ad):bL≠[]:=by
 rintro rfl;have:isVar []=false:=by decide
 grind
theorem Wu{r:aD}(h:nF r=ad):HA r:=by
 unfold nF at h;simp only[bc]at h;let⟨⟨⟨⟨⟨⟨⟨⟨_,g⟩,i⟩,_⟩,j⟩,_⟩,k⟩,b⟩,c⟩:=h;let⟨d,a⟩:=ux b;let⟨e,f⟩:=ux c;refine⟨(by grind),λl=>?_,?_,by omega,a,by omega,by grind[akB]⟩;simp_all;grind[akC]
structure akD(p:D):Prop where
 aw:Z p.aw<=4
 aO:Z p.aO<=8
 Q:Z p.Q<=24
 ak:Z p.ak<=40
 fn:∀f∈p.aO,Z f.src=Z f.dst/\Z f.src<=8
 aZ:∀q∈p.Q,Z q.aZ<=4/\∀k∈q.aZ,k=1\/k=2
 iS:∀r∈p.ak,HA r
theorem BT(h:rR V=ad):akD V:=by
 unfold rR at h;simp only[bc]at h;let⟨⟨⟨d,e⟩,f⟩,g⟩:=h;let⟨l,_⟩:=ux d;let⟨m,a⟩:=ux e;let⟨n,b⟩:=ux f;let⟨o,p⟩:=ux g;refine⟨by omega,by omega,by omega,by omega,λc i=>?_,λk j=>?_,by grind[Wu]⟩;have:=a c i;unfold tY at this;simp only[bc,beq_iff_eq]at this;have q:=(ux this.1.2).1;omega;have:=b k j;unfold tZ at this;simp only[bc]at this;let⟨r,s⟩:=ux this.1.1.1.2;grind[mQ]
theorem akE(h:iJ bQ=ad)(a:bQ.aE=[]):bQ.const.ty≠0:=by
 grind[iJ,nE]
theorem Wv(h:V.Q[(eJ V bL).toNat]?=aa oL)(b:y (0<=eJ V bL)=ad):∃a:Nat,∃c:a<Z V.Q,eJ V bL=a/\V.Q[a]=oL:=by
 grind
theorem Ww(h:nM oL mC=ad):Z mC=Z oL.aZ:=by
 grind[nM]
theorem D6{r:aD}(h:gN V r=ad)(i:r.au≠[]):∃a:Nat,∃c:a<Z V.Q,eJ V r.au=a/\V.Q[a].eo=ab/\Z r.af=Z V.Q[a].aZ/\(r.aj.ax=0<->V.Q[a].of<0)/\
 (r.aj.ax=1->0<=fw V V.Q[a] r.aj.au)/\(r.aj.ax=3->∃b:Nat,∃p:b<Z V.aO,iN V r.aj.au=b/\V.aO[b].of=V.Q[a].of):=by
 unfold gN at h;have j:(r.au==[])=false:=by simpa using i
 rw[j,l3]at h;split at h;cases h
 rename_i q k;simp only[bc]at h;let⟨⟨⟨⟨⟨e,l⟩,f⟩,m⟩,n⟩,o⟩:=h;obtain⟨a,c,d,rfl⟩:=Wv k e;refine⟨a,c,d,by grind,Ww f,?_,λg=>?_,λg=>?_⟩;grind;grind;grind
theorem HB(h:hQ V P=ad)(c:P.ax≠5):∃a:Nat,∃b:a<Z V.Q,eJ V P.au=a/\Z P.af=Z V.Q[a].aZ/\(P.bind≠[]\/P.ax=3\/P.ax=4->0<=V.Q[a].of)/\
 (P.ax=3\/P.ax=4->0<=fw V V.Q[a] P.aj/\∃d,V.aw[V.Q[a].of.toNat]?=aa d/\fw V V.Q[a] P.aj≠eB d []):=by
 unfold hQ at h;rw[if_neg c]at h;split at h;cases h
 rename_i m i;simp only[bc]at h;let⟨⟨⟨f,g⟩,j⟩,k⟩:=h;obtain⟨a,b,e,rfl⟩:=Wv i f;refine⟨a,b,e,Ww g,λl=>?_,λc=>?_⟩;grind;grind
theorem Wx(x:∀p∈V.Q,Z p.aZ<=4/\∀o∈p.aZ,o=1\/o=2){r:aD}(f:HA r)(q:gN V r=ad)(l:r.ah.all (hQ V)=ad):D4 V (fh V r):=by
 rw[eL]at l;have j:∀d∈(fh V r).ah,∃a∈r.ah,d=iq V a:=by
  intro d c;simp only[fh,cy]at c;obtain⟨a,b,rfl⟩:=c;exact⟨a,b,rfl⟩
 refine⟨?_,?_,λd c=>?_,λi=>?_,λd c i=>?_,λd c h=>?_,λp y o h=>?_,λd c w v n=>?_,λd c u=>?_,λn=>?_⟩;have:=f.af;show Z r.af<=100;omega;have:=f.ah;grind[fh];obtain⟨a,b,rfl⟩:=j d c;have:=(f.lit a b).af;show Z a.af<=100;omega;have i:0<=j8 V r:=i;have m:r.au≠[]:=by grind[j8]
 let⟨e,g,k,_,t,_⟩:=D6 q m;refine⟨e,g,?_,by show Z r.af<=_;omega⟩;show j8 V r=e;grind[j8];obtain⟨a,b,rfl⟩:=j d c;have i:0<=nN V a:=i;have h:a.ax≠5:=by grind[nN]
 let⟨e,g,k,t,_⟩:=HB (l a b) h;refine⟨e,g,?_,by show Z a.af<=_;omega⟩;show nN V a=e;grind[nN];obtain⟨a,b,rfl⟩:=j d c;exact(f.lit a b).cmp h;grind;obtain⟨a,b,rfl⟩:=j d c;exact akE ((f.lit a b).Ab w v) n;obtain⟨a,b,rfl⟩:=j d c;have h:=(f.lit a b).bind u;let⟨e,g,k,_⟩:=HB (l a b) (by omega);refine⟨e,?_,g⟩;show nN V a=e;grind[nN];have h:=(f.aE.2 n);have m:r.au≠[]:=λs=>by have:=(f.none s).2;omega
 let⟨e,g,k,_⟩:=D6 q m;refine⟨e,?_,g⟩;show j8 V r=e;grind[j8]
theorem Wy{rs:List aD}(h:∀a∈V.Q,Z a.aZ<=4/\∀b∈a.aZ,b=1\/b=2):∀a∈(ee V rs).Q,Z a.aZ<=4/\∀b∈a.aZ,b=1\/b=2:=by
 intro a c;simp only[ee,cy]at c;obtain⟨e,d,rfl⟩:=c;exact h e d
theorem akF(a:D)(b:d):ed a b<Z a.aw:=by
 grind[sd,ed]
theorem HC(a:D)(rs:List aD):kN (ee a rs):=by
 intro e c;simp only[ee,cy]at c;obtain⟨b,d,rfl⟩:=c;have:=akF a b.aN;show(if b.aN=[]then -1 else ed a b.aN)<(Z a.aw:Int);omega
theorem Wz(a:eI V){rs:List aD}(h:Sm rs)(i:∀r∈rs,pT r):eI (ee V rs):=by
 refine⟨a.aw,a.aN,?_,λl d=>?_,?_,λn e=>?_,h,i⟩;have:=a.aO;grind[Sm,ee];simp only[ee,cy]at d;obtain⟨c,b,rfl⟩:=d;let⟨f,g,k⟩:=a.fn c b;refine⟨f,g,?_⟩;unfold eK;simp only;split;rename_i j m;split;have:=(a.aN j (by grind)).1;grind[Sm,fJ];simp[Sm];simp[Sm];have:=a.Q;grind[Sm,ee];simp only[ee,cy]at e;obtain⟨c,b,rfl⟩:=e;exact a.s7 c b
theorem akG(b:Bool)(a:bP):b6 M .df (bo b a) (bo ad a):=
 .ck (.str _ _) (.ck (by simp[tq,bS.snap]) (.ck (by simp[tq,bS.snap]) (.ck (.int _ _ _) (.nil _))))
theorem WA(b:Bool)(a:bP):b6 M .cb (bo b a) (bo ad a):=
 .ck (.str _ _) (.ck (by simp[vC,bS.snap]) (.ck (by simp[vC,bS.snap]) (.ck (.int _ _ _) (.nil _))))
theorem akH(b:Bool)(a:Fn):b6 M .df (w3 b a) (cg ad a):=
 .ck (.str _ _) (.ck (.str _ _) (.ck (.int _ _ _) (.ck (by simp[tq,bS.snap]) (.ck (by simp[tq,bS.snap]) (.ck (by simp[tq,bS.snap]) (.ck (.int _ _ _) (.nil _)))))))
theorem akI(b:Bool)(a:Fn):b6 M .cb (w3 b a) (cg ad a):=
 .ck (.str _ _) (.ck (.str _ _) (.ck (.int _ _ _) (.ck (by simp[vC,bS.snap]) (.ck (by simp[vC,bS.snap]) (.ck (by simp[vC,bS.snap]) (.ck (.int _ _ _) (.nil _)))))))
theorem akJ(b:Bool)(a:cO):b6 M .df (bO b a) (bO ad a):=
 .ck (.str _ _) (.ck (by simp[tq,bS.snap]) (.ck (.str _ _) (.ck (.int _ _ _) (.ck (.bool _ _) (.ck (.int _ _ _) (.ck (.int _ _ _) (.nil _)))))))
theorem akK(b:Bool)(a:cO):b6 M .cb (bO b a) (bO ad a):=
 .ck (.str _ _) (.ck (by simp[vC,bS.snap]) (.ck (.str _ _) (.ck (.int _ _ _) (.ck (.bool _ _) (.ck (.int _ _ _) (.ck (.int _ _ _) (.nil _)))))))
theorem akL(a:Bool)(r:aD):b6 M .cb (pj a r) (aS ad r):=
 .ck (.str _ _) (.ck (.int _ _ _) (.ck (by simp[vC,bS.snap]) (.ck (.int _ _ _) (.ck (.str _ _) (.ck (.str _ _) (.ck (.int _ _ _) (.ck (vC λb _=>Wq a b) (.ck (.int _ _ _) (.nil _)))))))))
variable{oH:bZ -> List AV}
theorem Mc{g:K->bZ}(h:∀a∈x,b6 M c9 (a7 a) (oH (g a))):fF M c9 (x.map a7) ((x.map g).map oH):=by
 induction x with
 |nil=>exact .nil _
 |cons a x b=>exact .ck (h a (by simp)) (by grind)
theorem Me{d:List bP}{c:List Fn}{e:List cO}{rs g:List aD}{r:aD}:∀(a:List Lit)(b:Bool),mW ⟨d,c,e,rs⟩ r a b=mW ⟨d,c,e,g⟩ r a b
 |[],_=>rfl
 |l::a,b=>by
  simp only[mW];have h:∀f,hR ⟨d,c,e,rs⟩ f=hR ⟨d,c,e,g⟩ f:=λ_=>rfl;rw[h,h,Me a b,Me a ad]
theorem akM{b:List bP}{a:List Fn}{c:List cO}{rs d:List aD}{r:aD}:lD ⟨b,a,c,rs⟩ r<->lD ⟨b,a,c,d⟩ r:=by
 have f:gN ⟨b,a,c,rs⟩ r=gN ⟨b,a,c,d⟩ r:=rfl;have g:hQ ⟨b,a,c,rs⟩=hQ ⟨b,a,c,d⟩:=rfl;have h:fh ⟨b,a,c,rs⟩ r=fh ⟨b,a,c,d⟩ r:=rfl;have i:∀e,yu ⟨b,a,c,rs⟩ e=yu ⟨b,a,c,d⟩ e:=λ_=>rfl;grind[tm,Me,lD,vA]
def w4(a:D):Prop:=rR a=ad/\p7 a=ad/\∀r∈a.ak,lD (ee a []) r
def sq(a:D):D:=ee a (a.ak.map (fh (ee a [])))
def WB(c:D)(e:AV):Prop:=∃a b,e=.aB [.agg a,eS ab b2 b]/\Z a=4/\a.all AV.bU=ad/\bS a/\(b=[]<->w4 c)/\(b=[]->∀d,b6 d .df a (cP ad ad (sq c)))
theorem WC:∀(b:List (Int×Int))(a:List (Int×Int)),(∀x∈b,x.1≠0)->Z a<=20->(b.foldl (λa x=>mq a x.1 x.2) a=[]<->a=[]/\b=[])/\Z (b.foldl (λa x=>mq a x.1 x.2) a)<=20
 |[],a,_,c=>by grind
 |x::b,a,h,c=>by
  have d:=WC b (mq a x.1 x.2) (by grind) (Aa c);grind[z7]
theorem WD(h:∀x,sT (a7 x)):∀a:List K,vY (a.map a7)
 |[]=>.nil
 |x::a=>.cons _ _ (h x) (WD h a)
theorem BU(h:∀b,sT (a7 b))(a:List K):NB (eS ab a7 a):=.sl _ (WD h a)
theorem WE(a:List aJ):NB (eS ab cT a):=BU (λb=>.cons _ _ (.str _) (.cons _ _ (.int _ _) (.cons _ _ (.int _ _) (.cons _ _ (.str _) .nil)))) a
theorem akN(a:List Lit):NB (eS ab (bg ab) a):=BU (λb=>.cons _ _ (.int _ _) (.cons _ _ (.str _) (.cons _ _ (.int _ _) (.cons _ _ (WE _) (.cons _ _ (.str _) (.cons _ _ (.str _) (.cons _ _ (.int _ _) (.cons _ _ (.int _ _) (.cons _ _ (.int _ _) .nil))))))))) a
theorem WG(a:List (Int×Int)):NB (eS ab b2 a):=BU (λb=>.cons _ _ (.int _ _) (.cons _ _ (.int _ _) .nil)) a
theorem akO(d:D)(a3:eI d):∃p,PR C 84 [.agg (cP ab T d)] p/\WB d p:=by
 apply afE.ex;simp only[eP,O,e3,ft,gS,bj,aK,o4,e,a1,dK,eU];apply c (aii d a3 λr g1=>KX r (a3.iS r g1));simp only[bK,O];have d8:∀l:List Obj,aM l .res (.agg [.aq,.aq,.aq,.aq]) (.agg [.sl ab [],.sl ab [],.sl ab [],.sl ab []]):=λl=>.agg _ _ _ (.ck (.aq _ _) (.ck (.aq _ _) (.ck (.aq _ _) (.ck (.aq _ _) (.nil _)))));have d6:bS [AV.sl ab [],.sl ab [],.sl ab [],.sl ab []]:=by
  have:∀M,Im (.sl M []):=λM=>.sl M [] .nil;simp[this]
 refine dw (λh=>?_) (λh=>?_);refine aI (dR:=[.aq,.aq,.aq,.aq]) rfl (aI (dR:=[I 1,I 0]) rfl (aY (dR:=.q 1 0 0 1) (oK:=[.arr 0 2 [],.arr 0 2 [[I 1,I 0]]]) rfl (aI (dR:=[.aq,.aq,.aq,.aq]) rfl ?_)));refine⟨.aB [.agg [.sl ab [],.sl ab [],.sl ab [],.sl ab []],eS ab b2 [(1,0)]],.aB _ _ _ (.ck (d8 _) (.ck ?_ (.nil _))),_,_,rfl,rfl,rfl,d6,?_,by simp⟩
 exact h8 (x:=[((1:Int),(0:Int))]) (a7:=b2) (U:=2) (N:=0) rfl (by simp);constructor;grind;intro go;have:=go.1;grind;have H:=BT h;refine c7 (akA d a3 (by have:=H.aw;omega) (by have:=H.aO;omega) (by have:=H.Q;omega) (λs f8=>(H.fn s f8).1)) rfl λi4 ca f1=>?_;obtain⟨U,N,V,F,m,id,h1,rfl,u,bm,w,v,x,J,co,hg,hh,hj⟩:=f1;simp only[fH,de,eF,O];rw[ji (U:=4) rfl (by simp[w.cell,v.cell,x.cell]),O]
 simp only[u.ln,O,eX,G,i];have bad:∀(F:AV)(m:List (Int×Int))(l:List Obj)(id:Nat),mo l F id m->m≠[]->¬w4 d->bd (ma [.aq,.aq,.aq,.aq] []) λeo=>bd (dS 4 (.agg eo)) λac=>∃p,aM l .res (.aB [(AV.pl (.agg [(g ac 0),(g ac 1),(g ac 2),(g ac 3)])),(AV.pl F)]) p/\WB d p:=by
  intro F m l id u S it;refine aI (dR:=[.aq,.aq,.aq,.aq]) rfl (aI (dR:=[.aq,.aq,.aq,.aq]) rfl ?_);rw[u.pl];exact⟨.aB [.agg [.sl ab [],.sl ab [],.sl ab [],.sl ab []],eS ab b2 m],.aB _ _ _ (.ck (d8 _) (.ck u.res (.nil _))),_,_,rfl,rfl,rfl,d6,by grind,λam=>absurd am S⟩
 refine b (λn=>?_) (λn=>?_);have S:m≠[]:=by
  rintro rfl;simp at n
 exact bad F m ca id u S (λP=>S (J.2 P.2.1));have aA:m=[]:=by
  simpa using n
 have cl:=J.1 aA;have gc:=co cl;subst gc;subst aA;refine aI (dR:=.aq) rfl ?_
 refine bG (K:=Nat×AV×List (Int×Int)×AV×List aD×List Obj×List AV) (λf=>[f.2.1,I f.1]++f.2.2.2.2.2.2++[U,N,V,f.2.2.2.1]) (λf=>f.2.2.2.2.2.1) (λf=>Z d.ak -f.1) (λf=>f.1<=Z d.ak/\mo f.2.2.2.2.2.1 f.2.1 id f.2.2.1/\Z f.2.2.1<=20/\Gr f.2.2.2.2.2.1 U (bo ab) 4 d.aw/\Gr f.2.2.2.2.2.1 N (λo:List AV=>o) 7 (d.aO.map λs=>w3 ab (eK d s))/\Gr f.2.2.2.2.2.1 V (bO ab) 7 (d.Q.map (ew d))/\
  Gr f.2.2.2.2.2.1 f.2.2.2.1 (pj ab) 9 f.2.2.2.2.1/\¬hS f.2.2.2.1 id/\(∀j,hS U j\/hS N j\/hS V j->¬hS f.2.2.2.1 j)/\Z f.2.2.2.2.1=f.1/\Z f.2.2.2.2.2.2=4/\(∀r∈f.2.2.2.2.1,pT r)/\
  (f.2.2.1=[]<->∀r∈d.ak.take f.1,lD (ee d []) r)/\((∀r∈d.ak.take f.1,lD (ee d []) r)->f.2.2.2.2.1=(d.ak.take f.1).map (fh (ee d [])))) (0,F,[],.aq,[],ca,[.aq,.aq,.aq,.aq]) ⟨by simp,u,by simp,w,v,x,.inl ⟨rfl,rfl⟩,uw id,λ_ _=>uw _,rfl,rfl,by simp,by simp,by simp⟩ ?_
 clear u w v x J co n;rintro⟨z,F,m,hn,rl,l,d7⟩ ⟨gt,u,bm,w,v,x,R,a2,g3,ds,dl,g4,J,a0⟩ ht d4;simp only at gt u bm w v x R a2 g3 ds dl g4 J a0 d4⊢;obtain⟨g7,g8,g9,ha,rfl⟩:∃cc W Y X,d7=[cc,W,Y,X]:=by
  match d7,dl with
  |[cc,W,Y,X],_=>grind
 simp only[hD,dK,G,i,A,O,a];have iC:=H.ak;refine b (λn=>?_) (λn=>?_);have n:z<Z d.ak:=by simpa using n
 have d0:d.ak[z]∈d.ak:=bp n;have br:=H.iS _ d0;have f4:lD (ee d rl) d.ak[z]<->lD (ee d []) d.ak[z]:=akM;have f5:fh (ee d rl) d.ak[z]=fh (ee d []) d.ak[z]:=rfl;simp only[aF n (mM _ _),O,nA];obtain⟨p,d1,k,E,rfl,h3,f7,bv,i3,g5⟩:=akx (T:=true) (F:=true) (bC:=false) (ee d rl) d.ak[z] (by grind[Wz,Sm]) (HC d rl) (a3.iS _ d0) (by have:=br.ah;omega) (λbD gQ=>(br.lit bD gQ).cmp)
  (λB em=>Wx (Wy H.aZ) br B em)
 rw[f4]at f7 bv;rw[f5]at bv;refine e4 _ d1 ?_ (.aB _ (.cons _ _ ?_ (.cons _ _ ?_ .nil))) ?_;refine .ck (.agg _ _ _ ?_) (.ck eu (.nil _));refine .ck (w.cb (by grind[WA])) (.ck ?_ (.ck (x.cb (by grind[akK])) (.ck (R.cb (by grind[akL])) (.nil _))));have:=v.cb (a:=λo:List AV=>o) (M:=l);rcases v with⟨e0,be⟩|⟨g6,f0,be,fd⟩;rw[be];have:d.aO=[]:=by simpa using e0
 show aM l .cb .aq (eS ad (cg ad) (d.aO.map (eK d)));rw[this];exact .aq _ _;rw[be];refine .vX g6 f0 0 _ 7 _ _ fd (by simp) ?_;rw[ll,gP (by simp)];simp only[I4];exact Mc (by grind[akI]);exact .agg _ (.cons _ _ (.str _) (.cons _ _ (.int _ _) (.cons _ _ (WE _) (.cons _ _ (.int _ _) (.cons _ _ (.str _) (.cons _ _ (.str _) (.cons _ _ (.int _ _) (.cons _ _ (akN _) (.cons _ _ (.int _ _) .nil)))))))))
 exact WG _;simp only[de,eF,O,aku];have f9:=WC E m g5 bm;apply bG (K:=Nat×AV×List Obj) (λf=>[f.2.1,I f.1,g7,g8,g9,ha,U,N,V,hn]++pj ab k) (λf=>f.2.2) (λf=>Z E -f.1) (λf=>f.1<=Z E/\mo f.2.2 f.2.1 id ((E.take f.1).foldl (λm o=>mq m o.1 o.2) m)/\vB id l f.2.2) (0,F,l) (by grind[vB.refl]);rintro⟨j,eq,el⟩ ⟨y,L,bi⟩ hu d5;simp only at y L bi d5⊢
 have f3:pj ab k=[.str k.au,I k.ai,eS ab cT k.af,I k.aj.ax,.str k.aj.au,.str k.aj.aE,I k.aj.aR,eS ab (bg ab) k.ah,I k.ba]:=rfl;simp only[f3,hD,dK,G,i,a1,A,O,a];refine b (λt=>?_) (λt=>?_);have t:j<Z E:=by simpa using t
 simp only[aF t (tT _),O,bj,aK,FZ,F0,e];refine c7 (z1 _ E[j].1 E[j].2 L) (by simp[L.pl]) λes a9 f2=>?_;rw[a6,O];have hk:=d5 (j+1,es,a9) ⟨t,by grind[mS],bi.trans f2.2⟩ (by simp;omega);exact hk;have:j=Z E:=by simp at t;omega
 subst this;rw[dU]at L;have g2:(AV.agg [.str k.au,I k.ai,eS ab cT k.af,I k.aj.ax,.str k.aj.au,.str k.aj.aE,I k.aj.aR,eS ab (bg ab) k.ah,I k.ba])=.agg (pj ab k):=rfl;rw[g2,vD (U:=9) (row:=pj ab k) rfl rfl,O];have a5:∀{p:AV},(¬hS p id)->∀(j:Nat)(K:Obj),hS p j->l[j]?=aa K->el[j]?=aa K:=λip j K d1 g0=>bi j K (by grind) g0;have ge:=R.mono (a5 a2);have c1:=w.mono (a5 hg);have cs:=v.mono (a5 hh)
 have c2:=x.mono (a5 hj);let⟨d3,ci,a9,W,Y,X,ce,hw⟩:=ge.grow (bytes:=128) k (akt ab k) (by omega);refine aY W (aI rfl ?_);rw[a6,O];have h4:=L.lt;have io:d3≠id:=by
  rcases ce with az|⟨-,az⟩;exactλam=>a2 (am▸az);omega
 have i2:∀j,hS U j\/hS N j\/hS V j->j≠d3:=by
  intro j y am;rcases ce with az|⟨-,az⟩;grind;rcases y with y|y|y;have:=c1.lt y;omega;have:=cs.lt y;omega;have:=c2.lt y;omega
 refine d4 (z+1,eq,_,_,rl++[k],a9,[_,_,_,_]) ⟨n,?_,f9.2,c1.mono (by grind),cs.mono (by grind),c2.mono (by grind),Y,by grind[so],by grind[so],by simp[ds],rfl,?_,?_,?_⟩ (by simp;omega);let⟨fx,hl,hm⟩:=L;exact⟨fx,hl,X id _ a2 hm⟩;grind;grind[List.take_succ_eq_append_getElem];intro o;rw[iu n]at o⊢;rw[a0 (by grind),bv (by grind),hE]<;>rfl
 have:z=Z d.ak:=by simp at n;omega
 subst this;rw[dU]at J a0;simp only[u.ln,O,eX];have i0:w4 d<->∀r∈d.ak,lD (ee d []) r:=⟨λP=>P.2.2,λP=>⟨h,cl,P⟩⟩;refine b (λt=>?_) (λt=>?_);have S:m≠[]:=by
  rintro rfl;simp at t
 grind;have aA:m=[]:=by simpa using t
 have f6:=J.1 aA;rw[ji (U:=4) rfl (by simp[w.cell,v.cell,x.cell,R.cell]),O];simp only[G,i];have d2:j5 l (l++[.arr 0 2 []]):=j5.app _ _;have a4:∀{p:AV}(j:Nat)(K:Obj),hS p j->l[j]?=aa K->(l++[Obj.arr 0 2 []])[j]?=aa K:=by grind
 refine⟨.aB [.agg [eS ab (bo ab) d.aw,eS ab (λo:List AV=>o) (d.aO.map λs=>w3 ab (eK d s)),eS ab (bO ab) (d.Q.map (ew d)),eS ab (pj ab) rl],eS ab b2 []],.aB _ _ _ (.ck (.agg _ _ _ ?_) (.ck ?_ (.nil _))),_,_,rfl,rfl,rfl,?_,?_,λ_ hs=>?_⟩;refine .ck ((w.mono a4).res (by simp)) (.ck ((v.mono a4).res λo d2=>?_) (.ck ((x.mono a4).res (by simp)) (.ck ((R.mono a4).res (by simp)) (.nil _))))
 obtain⟨s,-,rfl⟩:=cy.1 d2;simp;exact h8 (x:=([]:List (Int×Int))) (a7:=b2) (U:=2) (N:=0) (by simp) (by simp);have ii:Im (eS ab (λo:List AV=>o) (d.aO.map λs=>w3 ab (eK d s))):=by
  refine .sl _ _ ?_;rw[I4];exact(by grind[J6,aky,eK])
 have i1:Im (eS ab (pj ab) rl):=by simp[ny,aks]
 simp_all;grind;rw[a0 f6];refine .ck (tq (by grind[akG])) (.ck ?_ (.ck (tq (by grind[akJ])) (.ck (tq (by grind[akv])) (.nil _))));refine .CC ab _ _ ?_;simp only[I4];exact Mc (by grind[akH])
open Classical in
theorem WH(a:D)(p:eI a):PR C 38 [.agg (cP ab T a)] (.bool (lg a)):=by
 apply ae7.pr;obtain⟨z,u,q,n,rfl,o,r,y,s,t⟩:=akO (T:=T) a p;simp only[eP,O,gS];apply c u;simp only[fH,de,eF,O];rw[ji o r,O];obtain⟨f,g,k,j,rfl⟩:∃f g k j,q=[f,g,k,j]:=by
  match q,o with
  |[f,g,k,j],_=>grind
 simp only[a1,di,O,G,i,bw];have v:iW a<->w4 a/\a=sq a:=by
  unfold iW w4 sq;constructor;rintro⟨e,d,l,b⟩;exact⟨⟨e,d,l⟩,b⟩;rintro⟨⟨e,d,l⟩,b⟩;exact⟨e,d,l,b⟩
 refine aW (λh=>?_) (λh=>?_);have m:n=[]:=by simpa using h
 refine⟨.df,_,_,by decide,?_,ah9 (T:=false) (F:=T) (bC:=true) (c6:=true) a (sq a) p,(λb=>by cases b),?_⟩;have:=t m;refine .ck eu (.ck (.agg _ _ _ ?_) (.nil _));grind;simp_all[lg];have m:n≠[]:=by
  rintro rfl;simp at h
 apply bJ;rw[lg,decide_eq_false_iff_not,v];exactλh=>m (s.2 h.1)
theorem WI(h:iW V):kN V:=by
 have:=h.2.2.2;grind[HC]
theorem yw:lg V=ad<->iW V:=by simp[lg]
def ts(a:D):List (List Int):=(fa (Z a.Q) (c4 a)).map (·.map cu)
theorem D7(a:Bool)(g:List Nat):eS a cN g=eS a cI (g.map cu):=by
 simp_all[eS,cN,cI]
def p8(b:D)(a:S):Bool:=match b.Q[a.ai.toNat]? with|aa c=>c.eo|ae=>ab
def D8(a:Option (List S)):AV:=match a with|aa gs=>.aB [eS ab (cF ab) gs,I 0]|ae=>.aB [eS ab (cF ab) [],I 2]
def HD(a:Int):AV:=.aB [eS ab (cF ab) [],I a]
variable{cX:cA}
theorem Mf:∀(k:Nat){done:Nat->Bool},∀g∈kz U cX k done,Z g<=U
 |0,_,g,h=>by cases h
 |k+1,done,g,h=>by
  rw[kz]at h;split at h;cases h
  rename_i a _;rcases b5.1 h with rfl|h;grind;exact Mf k g h
theorem Mg{b:Nat}{a:cA}:∀(k:Nat){done:Nat->Bool},Z (kz b a k done)<=k
 |0,_=>by simp[kz]
 |k+1,done=>by
  rw[kz];split;simp;rename_i d _;have:=Mg (b:=b) (a:=a) k (done:=λc=>done c||cQ a d c);grind
abbrev aL:=List (Nat×Obj)
def Holds(c:List Obj)(a:aL):Prop:=(a.map Prod.fst).Nodup/\∀b∈a,c[b.1]?=aa b.2
variable{k:aL}
theorem Holds.get(h:Holds M k)(a:(U,hL)∈k):M[U]?=aa hL:=h.2 _ a
variable{hF:Nat × Obj}
theorem Holds.lt(h:Holds M k)(a:hF∈k):hF.1<Z M:=(fM.1 (h.2 _ a)).1
variable{bn:aL}
theorem Holds.perm(h:Holds M k)(a:k.Perm bn):Holds M bn:=
 ⟨(a.map _).nodup_iff.1 h.1,λc b=>h.2 c (a.mem_iff.2 b)⟩
theorem Holds.set(h:Holds M ((U,hL)::k))(c:Obj):Holds (M.set U c) ((U,c)::k):=by
 have f:=h.lt (hF:=(U,hL)) (by simp);have d:=h.1;rw[eg,kZ]at d;refine⟨by grind,λb a=>?_⟩;rcases b5.1 a with rfl|a;grind;have e:U≠b.1:=by grind
 rw[vR e];exact h.2 b (by simp[a])
theorem Holds.app(h:Holds M k)(b:List Obj):Holds (M++b) k:=
 ⟨h.1,λc a=>by rw[oA (h.lt a)];exact h.2 c a⟩
theorem Holds.alloc(h:Holds M k)(b:Obj):Holds (M++[b]) ((Z M,b)::k):=by
 refine⟨?_,λc a=>?_⟩;rw[eg,kZ];refine⟨λd=>?_,h.1⟩;let⟨c,a,e⟩:=cy.1 d;have:=h.lt a;omega;rcases b5.1 a with rfl|a;simp;exact(h.app [b]).2 c a
theorem Holds.sub(h:Holds M (k++bn)):Holds M bn:=by
 refine⟨?_,λb a=>h.2 b (by simp[a])⟩;have:=h.1;grind
theorem Holds.tail(h:Holds M (hF::k)):Holds M k:=Holds.sub (k:=[hF]) h
variable{hG:aL}
theorem Holds.swap(h:Holds M (k++(bn++hG))):Holds M (bn++(k++hG)):=by
 apply h.perm;rw[<-gY,<-gY];exact I5.append_right hG
theorem Holds.front(h:Holds M (hF::(k++bn))):Holds M (k++hF::bn):=Holds.swap (k:=[hF]) h
theorem Holds.back(h:Holds M (k++hF::bn)):Holds M (hF::(k++bn)):=Holds.swap (bn:=[hF]) h
def bB(c:AV)(d:K->List AV)(e:Nat)(a:List K)(b:aL):Prop:=(a=[]/\c=.aq/\b=[])\/∃id g,c=.q id g 0 (Z a)/\b=[(id,.arr g e (a.map d))]
theorem bB.gr(h:bB E a7 U x k)(c:Holds M (k++bn)):Gr M E a7 U x:=by
 rcases h with⟨a,b,-⟩|⟨id,g,a,rfl⟩;exact .inl ⟨a,b⟩;exact .inr ⟨id,g,a,c.get (by simp)⟩
theorem bB.pl(h:bB E a7 U x k):E.pl=E:=by
 rcases h with⟨-,h,-⟩|⟨id,g,h,-⟩<;>rw[h]<;>rfl
theorem bB.cell(h:bB E a7 U x k):E.bU=true:=by
 rcases h with⟨-,h,-⟩|⟨id,g,h,-⟩<;>rw[h]<;>rfl
theorem bB.ln(h:bB E a7 U x k)(a:List Obj):gk .sl E a=aa (I (Z x)):=by
 rcases h with⟨b,h,-⟩|⟨id,g,h,-⟩;simp_all;simp_all
theorem bB.nil(a:K->List AV)(b:Nat):bB .aq a b [] []:=.inl ⟨rfl,rfl,rfl⟩
theorem bB.app{bytes:Nat}{F:aL}(h:bB E a7 U x k)(d:Holds M (k++F))(a:K)(e:Z (a7 a)=U)(i:(Z x+1)*bytes<=2^47):
 ∃id g b,cJ U bytes E (.sl ab [a7 a]) M=aa (.q id g 0 (Z (x++[a])),b)/\Holds b ((id,.arr g U ((x++[a]).map a7))::F):=by
 rcases h with⟨rfl,rfl,rfl⟩|⟨id,g,rfl,rfl⟩;refine⟨Z M,0,M++[.arr 0 U [a7 a]],?_,?_⟩;exact pX (a7:=a7) (x:=[a]) rfl (by simp[ij,e]) (by omega);grind[Holds.alloc];have c:=d.get (U:=id) (hL:=.arr g U (x.map a7)) (by simp);have j:=(fM.1 c).1;have f:aX M id U a7 g x=M:=by
  let⟨l,m⟩:=fM.1 c;simp only[aX];rw[<-m];exact yX l
 have ap:=pW (M:=M) (id:=id) (U:=U) (bytes:=bytes) (N:=g) (a7:=a7) (x:=x) a j e i;rw[f]at ap;exact⟨id,g+1,_,ap,Holds.set (k:=F) d _⟩
theorem bB.of{id g:Nat}:bB (.q id g 0 (Z x)) a7 U x [(id,.arr g U (x.map a7))]:=.inr ⟨id,g,rfl,rfl⟩
theorem gx{id off:Nat}(h:M[id]?=aa (.arr 0 U [bE]))(a:bE[off]?=aa E):aQ 1 ab (.ptr id 0 0 off) M=aa E:=by
 grind[cY]
theorem lE{id off:Nat}(h:M[id]?=aa (.arr 0 U [bE]))(c:Z bE=U)(d:off<U)(e:E.pl=E)(b:E.bU=ad):dp 1 (.ptr id 0 0 off) E M=aa (M.set id (.arr 0 U [bE.set off E])):=by
 have a:eV bE off [E]=bE.set off E:=by
  simp only[eV,jW];rw[aa0,if_pos (by omega)];simp
 have f:E.cells=[E]:=by
  cases E<;>first|rfl|grind[AV.bU]
 grind[dp]
theorem hT{id off:Nat}(h:M[id]?=aa (.arr 0 U b0)):iH (.ptr id 0 0 off) M=aa (.ptr id 0 0 off):=by simp[iH,dD,h]
theorem eD{id off:Nat}(h:M[id]?=aa (.arr 0 U b0)):dD N (.ptr id 0 0 off) M=aa (.ptr id 0 0 (off+N)):=o8 h
theorem akP(d e:List Int)(l:Sm d):PR C 151 [eS T cI d,eS F cI e] (.bool (y (d=e))):=by
 apply aeV.pr;simp only[a1,O,cx];refine b (λh=>bJ ?_) (λh=>?_);grind;have p:Z d=Z e:=by
  simp only[bne_eq_false_iff_eq]at h;omega
 refine eC (U:=Z d) (c:=λc=>[ff,I c]) (λc=>d.take c=e.take c) (by simp) rfl (λc f m g o=>?_) (λm g=>?_);have k:c<Z e:=by omega
 simp only[i,G,A,O,a,f,decide_true,aF f (jf _),aF k (jf _),aK,lM,cx];refine a8 (b (λj=>bJ ?_) (λj=>?_));grind;rw[l.inc f,O];grind[Uf];simp only[i,G,A,O,a,cn,decide_false];refine bz (jj ?_);grind
def vE(a b:Lit):Bool:=a.ai==b.ai&&a.iC==b.iC
def w5(a b:aD):Bool:=a.ai==b.ai&&y (a.aj=b.aj)&&((Z a.ah:Int)==Z b.ah&&(ay (Z a.ah)).all λc=>match a.ah[c]?,b.ah[c]? with|aa d,aa e=>vE d e|_,_=>ad)
def D9(a c:List aD):Bool:=(Z a:Int)==Z c&&(ay (Z a)).all λb=>match a[b]?,c[b]? with|aa d,aa e=>w5 d e|_,_=>ad
theorem akQ(a b:Lit):PR C 155 [.agg (bg T a),.agg (bg F b)] (.bool (vE a b)):=by
 apply RK.pr;simp only[rN,O,bj,aK,zr,QD,e,di,bw,G];exact aW (by simp_all[vE]) (by simp_all[vE])
theorem akR(e g:List Lit)(s:Sm e):PR C 154 [eS T (bg T) e,eS F (bg F) g,.fn 155 [] []] (.bool ((Z e:Int)==Z g&&(ay (Z e)).all λd=>match e[d]?,g[d]? with|aa j,aa k=>vE j k|_,_=>ad)):=by
 apply Tj.pr;simp only[a1,O,cx];refine b (λh=>bJ ?_) (λh=>?_);grind;have t:Z e=Z g:=by
  simp only[bne_eq_false_iff_eq]at h;omega
 have p:((Z e:Int)==Z g)=true:=by simp[t]
 rw[p,cZ];refine eC (U:=Z e) (c:=λd=>[ff,I d]) (λd=>((ay d).all λd=>match e[d]?,g[d]? with|aa j,aa k=>vE j k|_,_=>ad)=ad) (by simp) rfl (λd l n o w=>?_) (λn o=>?_);have r:d<Z g:=by omega
 have v:∀(m:Bool)(f:Lit),[AV.int .i64 f.ax,.str f.au,I f.ai,eS m cT f.af,.str f.bind,.str f.aj,I f.iC,I f.op,I f.ba]=bg m f:=λ_ _=>rfl;simp only[i,G,A,O,a,l,decide_true,aF l (jB _ _),aF r (jB _ _),o1,xQ,wz,wA,yd,wB,wC,wD,ye,wE,wF];refine a8 (aY (dR:=155) (oK:=[.agg (bg T e[d]),.agg (bg F g[d])]) rfl ?_);apply c (akQ e[d] g[d]);simp only[bK,O];refine dw (λq=>bJ ?_) (λq=>?_)
 grind[zJ,List.getElem?_eq_getElem];rw[s.inc l,O];grind;simp only[i,G,A,O,a,cn,decide_false];exact bz (jj n)
theorem akS(b c:pP):aT (.a 4 [0,1,1,0]) .eql (.agg (nX b)) (.agg (nX c))=aa (.bool (y (b=c))):=by
 simp
theorem akT(a b:aD)(f:Sm a.ah):PR C 153 [.agg (aS T a),.agg (aS F b)] (.bool (w5 a b)):=by
 apply R6.pr;simp only[o2,O,bj,aK,Qs,Bc,qH,e,di,bw,G,akS];refine aW (λh=>aW (λd=>?_) (by simp_all[w5])) (by simp_all[w5]);exact c (akR a.ah b.ah f) (iT (by rw[w5,h,d]<;>rfl))
theorem akU(e f:List aD)(p:Sm e)(s:∀r∈e,Sm r.ah):PR C 152 [eS bC (aS T) e,eS c6 (aS F) f,.fn 153 [] []] (.bool (D9 e f)):=by
 apply Sn.pr;simp only[a1,O,cx];refine b (λh=>bJ ?_) (λh=>?_);grind[D9];have q:Z e=Z f:=by
  simp only[bne_eq_false_iff_eq]at h;omega
 have m:((Z e:Int)==Z f)=true:=by simp[q]
 rw[D9,m,cZ];refine eC (U:=Z e) (c:=λd=>[ff,I d]) (λd=>((ay d).all λd=>match e[d]?,f[d]? with|aa j,aa bC=>w5 j bC|_,_=>ad)=ad) (by simp) rfl (λd g k l u=>?_) (λk l=>?_);have o:d<Z f:=by omega
 simp only[i,G,A,O,a,g,decide_true,aF g (mM _ _),aF o (mM _ _),nA,xR,vb,wG,vc,vd,ve,vf,wH,vg,ud];refine a8 (aY (dR:=153) (oK:=[.agg (aS T e[d]),.agg (aS F f[d])]) rfl ?_);apply c (akT e[d] f[d] (s _ (bp g)));simp only[bK,O];refine dw (λn=>bJ ?_) (λn=>?_);grind[zJ,List.getElem?_eq_getElem];rw[p.inc g,O];grind;simp only[i,G,A,O,a,cn,decide_false];exact bz (jj k)
theorem WJ(d:cO)(c:List aJ)(x:Sm c):∃f:Int,PR C 315 [.agg (bO T d),eS F cT c] (I f)/\(f=0<->nM d c=ad):=by
 have key:∃u o,C 315 [.agg (bO T d),eS F cT c] [] u o/\∃f:Int,aM o .res u (I f)/\(f=0<->nM d c=ad):=by
  apply Tv.hq;simp only[FY,O,a1,bj,aK,wi,e,cx];refine b (λh=>?_) (λh=>?_);refine⟨71,jR rfl,?_⟩;have:((Z c:Int)==Z d.aZ)=false:=by
   simp only[bne_iff_ne,ne_eq]at h;simpa using h
  simp[nM,this];have y:Z c=Z d.aZ:=by
   simp only[bne_eq_false_iff_eq]at h;omega
  have z:nM d c=(ay (Z c)).all (vz d c):=by
   have:((Z c:Int)==Z d.aZ)=true:=by simp[y]
   rw[nM,this,cZ]
  rw[z];refine eC (U:=Z c) (c:=λj=>[I 0,I j]) (λj=>(ay j).all (vz d c)=ad) (by simp) rfl (λj l t p E=>?_) (λt p=>?_);have r:j<Z d.aZ:=by omega
  have D:=We (oL:=d) l r;have v:∀k:aJ,g (cT k) 0=.str k.aE:=λ_=>rfl;have w:∀k:aJ,g (cT k) 1=I k.const.ty:=λ_=>rfl;simp only[i,G,A,O,a,l,decide_true,aF l (kq _),lL,xO,v,w,gT,aF r (jf _),aK,lM,cx,bw];have q:∀n:Bool,n= !vz d c j->ez (.bool n) (∃f,aM [] .res (AV.pl (I 72)) (I f)/\(f=0<->(ay (Z c)).all (vz d c)=ad)) (bd (aT .s .add (I j) (I 1)) λB=>p [I 0,B] []):=by
   rintro n rfl;refine dw (λm=>⟨72,jR rfl,?_⟩) (λm=>?_);grind;rw[x.inc l,O];grind
  refine a8 (aW (λm=>q _ ?_) (λm=>q _ ?_));grind;grind;simp only[i,G,A,O,a,cn,decide_false];exact bz ⟨0,jR rfl,by simp[t]⟩
 grind[Kd]
theorem Ea{bytes:Nat}{h:K->List AV}(m:∀b,bS (h b))(o:∀b,Z (h b)=N)(a:List K)(l:Z a*bytes<=2^47)
 (k:∀T c,C U [.sl T []] c (.q (Z c+1) 0 0 0) (c++[.arr 0 N [],.arr 0 N []]))
 (j:dT U [eS T h a] (λf Q=>cj (ft N f) λ_ d=>bd (aT .n .eql (eS T h a) .aq) λp=>ez p (cj (ft N d) λr g=>Q (AV.pl r) g) (cj (cJ N bytes .dG (eS T h a) d) λs i=>Q (AV.pl s) i))):PR C U [eS T h a] (eS ab h a):=by
 rcases a with _|⟨b,a⟩;have:=k T [];exact⟨_,_,this,h8 (x:=([]:List K)) (a7:=h) (U:=N) (N:=0) rfl (by simp)⟩;apply j.pr rfl;simp only[ft,e3];apply aI (dR:=ff) rfl;simp only[c3,eZ,if_false];apply aY (pX (a7:=h) (x:=b::a) rfl (vh o _ _ _) l);exact h8 (id:=1) (U:=N) (N:=0) (by simp) λt _=>m t
theorem e8.Mh(b:e8 C)(a:List d)(c:Sm a):PR C 267 [eS T cS a] (eS ab cS a):=Ea (bytes:=16) Qg iR a (by grind[Sm]) (b.Bn 267 1 (by simp[wx])) ad4
theorem e8.akV(b:e8 C)(a:List Int)(c:Sm a):PR C 124 [eS T cI a] (eS ab cI a):=Ea (bytes:=8) Qf jf a (by grind[Sm]) (b.Bn 124 1 (by simp[wx])) RI
theorem e8.akW(b:e8 C)(a:List (Int×Int))(c:Sm a):PR C 268 [eS T b2 a] (eS ab b2 a):=Ea (bytes:=16) Qh tT a (by grind[Sm]) (b.Bn 268 2 (by simp[wx])) ad5
theorem e8.WK(b:e8 C)(a:List aJ)(c:Z a<=1000000):PR C 271 [eS T cT a] (eS ab cT a):=Ea (bytes:=48) Qj kq a (by omega) (b.Bn 271 4 (by simp[wx])) RV
theorem e8.akX(b:e8 C)(a:List aG)(c:Z a<=1000000):PR C 118 [eS T cV a] (eS ab cV a):=Ea (bytes:=32) Qi sY a (by omega) (b.Bn 118 3 (by simp[wx])) aeR
theorem e8.akY(c:e8 C)(a:List Lit)(g:Z a<=1000000)(b:List Obj):C 272 [eS T (bg F) a] b (.q (Z b+1) 0 0 (Z a)) (b++[.arr 0 9 [],.arr 0 9 (a.map (bg F))]):=by
 rcases a with _|⟨d,a⟩;exact c.Bn 272 9 (by simp[wx]) T b;apply Sy.hr;simp only[ft,e3];apply aI (dR:=ff) rfl;simp only[c3,eZ,if_false];refine aY (pX (a7:=bg F) (x:=d::a) rfl (vh (jB F) _ _ _) (by omega)) ⟨by simp,by simp⟩
theorem WL:p.contains bL=y (0<=bV p bL):=by
 have h:=GJ (p:=p) (bL:=bL);rw[iQ]at h⊢;simp only[decide_eq_true_eq,gZ,decide_eq_false_iff_not,E7]at h⊢;grind[bV]
theorem Mi(c:List d)(a:d):b1 (a==·) c=bV c a:=by
 have:(λb=>a==b)=λb:d=>b==a:=by funext b;rw[iQ,beq_iff_eq,beq_iff_eq];exact eq_comm
 grind[bV]
theorem akZ(h:U<Z p):(bV p p[U]==(U:Int))= !(p.take U).contains p[U]:=by
 rw[iQ];simp only[beq_iff_eq,gZ,E7,decide_eq_false_iff_not];rcases sd (λe=>e==p[U]) p with⟨c,o,a,b⟩|⟨a,b⟩;have a:bV p p[U]=c:=a;rw[a];have q:p[c]=p[U]:=by
  have:=I6 b;simpa using this
 constructor;intro f j;have f:c=U:=by omega
 subst f;let⟨k,i,g⟩:=kf.1 j;rw[hW]at i;rw[E6]at g;rw[aaS]at b;let⟨_,r,n,l,m⟩:=b;have:b1 (λe=>e==p[c]) p=k\/True:=.inr trivial;grind[List.getElem?_eq_getElem,Option.some.injEq,b1,List.findIdx?_eq_some_iff_getElem,Nat.lt_or_ge];grind[Nat.lt_trichotomy,List.mem_iff_getElem,List.length_take,b1,List.findIdx?_eq_some_iff_getElem];grind
theorem ak0(f:bP)(d:Fn)(r:lO f)(u:zy d)(a0:Z d.src=Z d.dst):
 ∃t,PR C 270 [.agg (bo T f),.agg (cg F d)] t/\∃k,t=.aB [eS ab cI (if fD f d=ad then fJ f d else[]),I k]/\(k=0<->fD f d=ad):=by
 refine ad6.ex ?_;simp only[mN,FX,O,e3,ft,bj,aK,o3,Df,Dg,e,a1,jh,dK,eU];have bad:∀(k:Int)(w:List Obj),k≠0->fD f d=ab->∃t,aM (w++[.arr 0 1 []]) .res (.aB [(AV.q (Z w) 0 0 0).pl,(I k).pl]) t/\∃k,t=.aB [eS ab cI (if fD f d=ad then fJ f d else[]),I k]/\(k=0<->fD f d=ad):=by
  intro k w aE U;refine⟨.aB [eS ab cI [],I k],.aB _ _ _ (.ck ?_ (.ck (.int _ _ _) (.nil _))),k,by rw[U]<;>rfl,by grind⟩;exact h8 (x:=([]:List Int)) (U:=1) (by simp) (by simp)
 have a2:∀j:Int,y (j<0)= !y (0<=j):=by grind
 refine eC (U:=Z d.src) (c:=λg=>[.q 0 0 0 0,I 0,I g]) (λg=>((ay g).all λg=>y (0<=bV f.az (d.src.getD g []))&&y (0<=bV f.az (d.dst.getD g [])))=ad) (by simp) rfl (λg l J x X=>?_) (λJ x=>?_);have E:g<Z d.dst:=by omega
 have S:(y (0<=bV f.az (d.src.getD g []))&&y (0<=bV f.az (d.dst.getD g [])))=(y (0<=bV f.az d.src[g])&&y (0<=bV f.az d.dst[g])):=by
  simp only[pz,bu l,bu E,nR]
 have a5:((y (0<=bV f.az (d.src.getD g []))&&y (0<=bV f.az (d.dst.getD g [])))=ab)->fD f d=false:=by
  intro h;unfold fD;rw[zJ l h];simp
 simp only[i,G,A,O,a,l,decide_true,aF l (iR _),aK,lN,bw];refine a8 (c (xX f.az d.src[g] r.1) ?_);rw[WL];simp only[bK,O];refine h7 (λQ=>?_) (λQ=>?_);simp only[aF E (iR _),O,aK,lN];refine c (xX f.az d.dst[g] r.1) ?_;rw[WL];simp only[bK,O];refine dw (λn=>?_) (λn=>?_);exact bad 70 [.arr 0 1 []] (by omega) (by grind);rw[u.1.inc l,O];grind[DN];simp only[c3,if_true]
 exact bad 70 [.arr 0 1 []] (by omega) (by grind);simp only[i,G,A,O,a,cn,decide_false];refine bz ?_;have am:fD f d=(((ay (Z d.src)).all λg=>bV d.src (d.src.getD g [])==(g:Int))&&(f.az.all λj=>y (0<=bV d.src j))&&od f (fJ f d)):=by
  unfold fD;rw[J,cZ]
 refine eC (U:=Z d.src) (c:=λg=>[.q 0 0 0 0,I 0,I g]) (λg=>((ay g).all λg=>bV d.src (d.src.getD g [])==(g:Int))=ad) (by simp) rfl (λg l K N X=>?_) (λK N=>?_);have S:(bV d.src (d.src.getD g [])==(g:Int))= !(d.src.take g).contains d.src[g]:=by
  simp only[pz,bu l,nR];exact akZ l
 simp only[i,G,A,O,a,l,decide_true,aF l (iR _),aK,lN];refine a8 ?_;rw[G8 iR (aaR l),O];refine c (xX (d.src.take g) d.src[g] (by have:=u.1;grind[Sm])) ?_;refine b (λn=>?_) (λn=>?_);refine bad 5 [.arr 0 1 []] (by omega) ?_;grind;rw[u.1.inc l,O];grind;simp only[i,G,A,O,a,cn,decide_false];refine bz ?_;have M:fD f d=((f.az.all λj=>y (0<=bV d.src j))&&od f (fJ f d)):=by
  rw[am,K,cZ]
 simp only[jW,hD,dK];refine bG (λm=>[.q 0 0 0 0,I 0,.q 1 m.2 0 m.1,I m.1]) (λm=>aX [.arr 0 1 [],.arr 0 1 []] 1 1 cI m.2 ((f.az.take m.1).map λj=>bV f.az (d.dst.getD (bV d.src j).toNat []))) (λm=>Z f.az -m.1) (λm=>m.1<=Z f.az/\(f.az.take m.1).all (λj=>y (0<=bV d.src j))=ad) (0,0) ⟨by simp,by simp⟩ ?_ rfl (by simp[aX]);rintro⟨g,p⟩ ⟨l,B⟩ P aj;have ah:=r.1;unfold Sm at ah;simp only[i,G,A,O,a]
 have ac:1<Z ([.arr 0 1 [],.arr 0 1 []]:List Obj):=by simp
 refine b (λh=>?_) (λh=>?_);have h:g<Z f.az:=by simpa using h
 simp only[aF h (iR _),O,aK,lN];refine c (Gz d.src f.az[g] u.1) ?_;rw[Mi];simp only[A,O];refine b (λn=>?_) (λn=>?_);have n:bV d.src f.az[g]<0:=by simpa using n
 have W:fD f d=false:=by
  have V:y (0<=bV d.src f.az[g])=false:=by simp;omega
  rw[M,yf h V]<;>rfl
 exact bad 71 (aX [.arr 0 1 [],.arr 0 1 []] 1 1 cI p ((f.az.take g).map λj=>bV f.az (d.dst.getD (bV d.src j).toNat []))) (by omega) W;have n:0<=bV d.src f.az[g]:=by simpa using n
 obtain⟨o,v,aR⟩:∃o:Nat,bV d.src f.az[g]=o/\o<Z d.src:=by
  rcases sd (λj=>j==f.az[g]) d.src with⟨o,v,z,-⟩|⟨z,-⟩;exact⟨o,z,v⟩;grind[bV]
 have H:o<Z d.dst:=by omega
 rw[v];simp only[aF H (iR _),O,aK,lN];refine c (Gz f.az d.dst[o] r.1) ?_;rw[Mi,GK,O];have aZ:Z ((f.az.take g).map λj=>bV f.az (d.dst.getD (bV d.src j).toNat []))=g:=by simp;omega
 have ap:=Uo (U:=p) (cq:=(f.az.take g).map λj=>bV f.az (d.dst.getD (bV d.src j).toNat [])) (f:=bV f.az d.dst[o]) (iy:=λau R=>bd (aT .s .add (I g) (I 1)) λax=>P [.q 0 0 0 0,I 0,au,ax] R) ac (by omega) ?_;grind;rw[a6,O];have af:((f.az.take g).map λj=>bV f.az (d.dst.getD (bV d.src j).toNat []))++[bV f.az d.dst[o]]=(f.az.take (g+1)).map λj=>bV f.az (d.dst.getD (bV d.src j).toNat []):=by
  rw[iu h,hE];simp only[eg,nj,v,eN,pz,bu H,nR]
 rw[af];have Y:Z ((f.az.take (g+1)).map λj=>bV f.az (d.dst.getD (bV d.src j).toNat []))=g+1:=by simp;omega
 rw[Y];refine aj (g+1,p+1) ⟨h,?_⟩ (by simp;omega);grind[n5];have:g=Z f.az:=by simp at h;omega
 subst this;rw[dU]at B⊢;have a4:fD f d=od f (fJ f d):=by rw[M,B,cZ]
 have ai:(f.az.map λj=>bV f.az (d.dst.getD (bV d.src j).toNat []))=fJ f d:=rfl;have L:Z (fJ f d)=Z f.az:=by simp[fJ]
 rw[ai];have D:(aX [.arr 0 1 [],.arr 0 1 []] 1 1 cI p (fJ f d))[1]?=aa (.arr p 1 ((fJ f d).map cI)):=rfl;refine e4 _ (ajk (F:=true) f (fJ f d) r (by grind[Sm])) (.ck eu (.ck ?_ (.nil _))) (.bool _) ?_;rw[<-L];exact o7 D (by simp);simp only[bK,O];refine dw (λn=>?_) (λn=>?_);simp_all;refine⟨.aB [eS ab cI (fJ f d),I 0],.aB _ _ _ (.ck ?_ (.ck (.int _ _ _) (.nil _))),0,by grind,by grind⟩;rw[<-L]
 exact h8 D (by simp)
abbrev hx:=List (d×Nat)
def qZ(a:hx):List AV:=a.map λb=>.str b.1
def uy(a:hx):List AV:=a.map λb=>I (b.2:Int)
def cf(a:hx):Obj:=.mp ad (qZ a) (uy a)
def Mj(a:hx):AV:=.ih (qZ a) (uy a)
def pk(b:hx)(c:d):Int:=match b.find? (λa=>a.1==c)with|aa a=>a.2|ae=> -1
def sr(a:hx)(b:d)(c:Nat):hx:=if(a.map Prod.fst).contains b=ad then a else a++[(b,c)]
theorem HE(a:hx):qZ a=iU (a.map Prod.fst):=by simp[qZ,iU]
theorem ak1(a:hx)(b:d):(a.map Prod.fst).findIdx? (b==·)=a.findIdx? λc=>c.1==b:=by
 rw[List.findIdx?_map]
 congr 1
 grind
variable{iA:hx}
theorem Eb(a:d)(h:mc M E=aa (qZ iA,uy iA)):∃f:Int,iI ⟨ab,1,[1]⟩ (I 0) ad E (.str a) M=aa (.aB [I f,.bool ((iA.map Prod.fst).contains a)])/\((iA.map Prod.fst).contains a=ad->f=pk iA a):=by
 have g:(⟨ab,1,[1]⟩:KD)=rZ:=rfl;rw[g];simp only[iI,h,tc,oD,if_true];rw[HE,td,ak1];have i:(iA.map Prod.fst).contains a=(iA.findIdx? λb=>b.1==a).isSome:=by
  rw[List.findIdx?_isSome,iQ];simp only[E7,decide_eq_true_eq,cy,I2,beq_iff_eq]
 cases e:iA.findIdx? λb=>b.1==a with
 |none=>
  simp_all
 |some c=>
  rw[e]at i;let⟨k,m,l⟩:=qm.1 e;refine⟨iA[c].2,?_,λ_=>?_⟩;grind[uy];have:iA.find? (λb=>b.1==a)=aa iA[c]:=by
   rw[aaS];exact⟨m,c,k,rfl,λn j=>by simpa using l n j⟩
  rw[pk,this]
theorem ak2{id:Nat}(a:d)(c:Nat)(h:M[id]?=aa (cf iA))(b:(iA.map Prod.fst).contains a=ab):jO ⟨ab,1,[1]⟩ (.b7 id) (.str a) (I (c:Int)) M=aa (M.set id (cf (iA++[(a,c)]))):=by
 have e:(⟨ab,1,[1]⟩:KD)=rZ:=rfl;rw[e];simp only[jO,h,cf,zl,tc,oD,if_true];rw[HE,td];have:(iA.map Prod.fst).findIdx? (a==·)=none:=by
  rw[yT];intro g f;rw[beq_eq_false_iff_ne];rintro rfl;simp only[E7,decide_eq_false_iff_not]at b;exact b f
 rw[this];simp[qZ,uy,iU,EZ]
theorem WM(b:K->Int):∀a:List K,bS (a.map λx=>I (b x))
 |[]=>.nil
 |x::a=>.cons _ _ (.int _ _) (WM b a)
theorem Ec{id:Nat}(h:M[id]?=aa (cf iA)):aM M .cb (.b7 id) (Mj iA):=by
 have a:bS (qZ iA):=by rw[HE];exact vj _
 have b:bS (uy iA):=WM _ iA;exact .xD id ad _ _ _ _ h a.snap b.snap
theorem ak3:(iA.map Prod.fst).contains bL=ad<->0<=pk iA bL:=by
 grind[pk]
theorem Ed(a:hx)(c:d):PR C 269 [Mj a,.str c] (I (pk a c)):=by
 apply Sx.pr;let⟨i,e,g⟩:=Eb (E:=Mj a) (M:=[]) c rfl;simp only[e,fH,de,eF,O];refine b (by grind[jR]) (λh=>jR ?_);grind[pk]
theorem ak4:pk (sr iA bL U) mD=if(iA.map Prod.fst).contains mD=ad then pk iA mD else if bL=mD then(U:Int)else -1:=by
 unfold sr;grind[pk]
def HF(c b g h:AV)(d e f:Nat)(a:AV):List AV:=[c,b,g,h,.b7 d,.b7 e,.b7 f,a]
def fU(c b g h:AV)(d e f:Nat)(a:AV):Obj:=.arr 0 8 [HF c b g h d e f a]
def oq(a:List (Int×Int))(b c:Int):List (Int×Int):=if b=0 then a else a++[(b,c)]
theorem BV:oq ey f b9=[]<->ey=[]/\f=0:=by
 unfold oq;split;grind;simp_all
theorem BW:Z (oq ey f b9)<=Z ey+1:=by grind[oq]
variable{dQ oF oM oI:AV}
theorem ak5(d:List (Int×Int))(a c:Int)(t:bB oI b2 2 d k)(A:Z d<1000000)(n:Holds M ((U,fU E dQ oF oM N z dh oI)::(k++bn))):
 HR C 264 [.ptr U 0 0 0,I a,I c] M (λr o=>r=.aB []/\∃l j,bB l b2 2 (oq d a c) j/\Holds o ((U,fU E dQ oF oM N z dh l)::(j++bn))):=by
 apply SZ.hq;simp only[cx,O];refine b (λh=>?_) (λh=>?_);have s:a≠0:=by simpa using h
 have f:=n.get (U:=U) (hL:=fU E dQ oF oM N z dh oI) (by simp);have v:aQ 1 ab (.ptr U 0 0 7) M=aa oI:=gx f rfl;simp only[hT f,eD f,O,e,v,wM,yj];let⟨id,g,x,p,m⟩:=t.app (bytes:=16) n.front (a,c) rfl (by omega);apply aY p;have i:=m.get (U:=U) (hL:=fU E dQ oF oM N z dh oI) (by simp);simp only[hT i,eD i,O,e]
 refine aI (lE i rfl (by omega) rfl rfl) ⟨trivial,.q id g 0 (Z (d++[(a,c)])),[(id,.arr g 2 ((d++[(a,c)]).map b2))],?_,?_⟩;rw[oq,if_neg s];exact bB.of;exact(Holds.back (k:=[(id,.arr g 2 ((d++[(a,c)]).map b2))]) m).set _;grind[oq]
theorem Mk(a:hx)(c:d)(f:Nat)(g:Int)(e:Holds M ((U,cf a)::k)):
 HR C 265 [.b7 U,.str c,I (f:Int),I g] M (λr j=>r=I (if(a.map Prod.fst).contains c=ad then 5 else g)/\Holds j ((U,cf (sr a c f))::k)):=by
 apply S0.hq;have i:=e.get (U:=U) (hL:=cf a) (by simp);let⟨m,l,n⟩:=Eb (E:=.b7 U) (iA:=a) (M:=M) c (by simp[mc,i,cf]);simp only[l,fH,de,eF,O];refine b (λh=>?_) (λh=>?_);rw[if_pos h,sr,if_pos h];exact⟨rfl,e⟩;rw[if_neg (by grind),sr,if_neg (by grind)];refine aI (ak2 c f i h) ⟨rfl,e.set _⟩
theorem WN(a:List bP)(b:Nat)(h:b<Z a)(f:d)(i:lO a[b]):PR C 316 [.aH ad (eS ad (bo ad) a::bE) 0,I (b:Int),.str f] (I (bV a[b].az f)):=by
 apply ae5.pr;have j:∀g,iH (.aH ad (eS ad (bo ad) a::bE) 0) g=aa (.aH ad (eS ad (bo ad) a::bE) 0):=λ_=>rfl;simp only[j,O,bj,aK,de,e,aF h (kH _ _),o3];apply c (Gz a[b].az f i.1);rw[Mi];simp
theorem ak6{a:List bP}(b:M[U]?=aa (fU E dQ oF oM N z dh oI))(c:Gr M E (bo T) 4 a):aM M .cb (.ptr U 0 0 0) (.aH ad [eS ad (bo ad) a,.undef,.undef,.undef,.undef,.undef,.undef,.undef] 0):=
 .oU U 0 0 0 8 _ _ _ b rfl (.ck (c.cb λd _=>WA T d) (.ck (.undef _ _) (.ck (.undef _ _) (.ck (.undef _ _) (.ck (.undef _ _) (.ck (.undef _ _) (.ck (.undef _ _) (.ck (.undef _ _) (.nil _)))))))))
theorem Ad(b:K->Bool)(a:List K): -1<=b1 b a/\b1 b a<Z a:=by
 grind[sd]
variable{lu:List K}
theorem WO:b1 ea (x++lu)=if 0<=b1 ea x then b1 ea x else if 0<=b1 ea lu then b1 ea lu+Z x else -1:=by
 grind[b1]
theorem ak7(h:U<Z x):b1 ea (x.take (U+1))=if 0<=b1 ea (x.take U)then b1 ea (x.take U)else if ea x[U]=ad then(U:Int)else -1:=by
 rw[iu h,WO];grind[b1]
theorem ak8(h:U<Z x)(e:ea x[U]=ad):(b1 ea x==(U:Int))= !y (0<=b1 ea (x.take U)):=by
 have a:x=x.take U++x.drop U:=by simp
 have b:b1 ea x=b1 ea (x.take U++x.drop U):=by rw[<-a]
 rw[b,WO];have d:Z (x.take U)=U:=by rw[hW];omega
 have c:=Ad ea (x.take U);rw[d]at c;have g:b1 ea (x.drop U)=0:=by
  rw[oC h,b1,E2,e]<;>rfl
 by_cases f:0<=b1 ea (x.take U);grind;grind
def ot(e:K->d)(b:List K)(c:hx):Prop:=∀a,pk c a=b1 (λf=>e f==a) b
theorem ot.step{a:K->d}(h:U<Z x)(b:ot a (x.take U) iA):ot a (x.take (U+1)) (sr iA (a x[U]) U):=by
 intro c;rw[ak4,ak7 h,<-b c];grind[pk]
theorem ot.has{a:K->d}(h:U<Z x)(b:ot a (x.take U) iA):(iA.map Prod.fst).contains (a x[U])= !(b1 (λc=>a c==a x[U]) x==(U:Int)):=by
 rw[ak8 h (by simp),E3,<-b,iQ,ak3];simp
def bf(i a b c:Nat)(l k p q j:AV)(m n o:hx)(e g f h d:aL):aL:=
 (i,fU l k p q a b c j)::(e++((a,cf m)::(b,cf n)::(c,cf o)::(g++(f++(h++d)))))
variable{iz:List Obj -> Prop}
section
variable{H:List Obj}{S m1 m2 m3:Nat}{lv fv pv rv dv:AV}{n1 n2 n3:hx}{PD PL PF PP F:aL}
theorem bf.sc(h:Holds H (bf S m1 m2 m3 lv fv pv rv dv n1 n2 n3 PD PL PF PP F)):H[S]?=aa (fU lv fv pv rv m1 m2 m3 dv):=h.get (by simp[bf])
theorem bf.WQ(h:Holds H (bf S m1 m2 m3 lv fv pv rv dv n1 n2 n3 PD PL PF PP F)):H[m1]?=aa (cf n1):=h.get (by simp[bf])
theorem bf.ak9(h:Holds H (bf S m1 m2 m3 lv fv pv rv dv n1 n2 n3 PD PL PF PP F)):H[m2]?=aa (cf n2):=h.get (by simp[bf])
theorem bf.ala(h:Holds H (bf S m1 m2 m3 lv fv pv rv dv n1 n2 n3 PD PL PF PP F)):H[m3]?=aa (cf n3):=h.get (by simp[bf])
theorem bf.pl(h:Holds H (bf S m1 m2 m3 lv fv pv rv dv n1 n2 n3 PD PL PF PP F)):Holds H (PL++((S,fU lv fv pv rv m1 m2 m3 dv)::(PD++((m1,cf n1)::(m2,cf n2)::(m3,cf n3)::(PF++(PP++F)))))):=by
 have:Holds H (((S,fU lv fv pv rv m1 m2 m3 dv)::(PD++[(m1,cf n1),(m2,cf n2),(m3,cf n3)]))++(PL++(PF++(PP++F)))):=by simpa[bf]using h
 simpa using this.swap
theorem bf.pf(h:Holds H (bf S m1 m2 m3 lv fv pv rv dv n1 n2 n3 PD PL PF PP F)):Holds H (PF++((S,fU lv fv pv rv m1 m2 m3 dv)::(PD++((m1,cf n1)::(m2,cf n2)::(m3,cf n3)::(PL++(PP++F)))))):=by
 have:Holds H (((S,fU lv fv pv rv m1 m2 m3 dv)::(PD++([(m1,cf n1),(m2,cf n2),(m3,cf n3)]++PL)))++(PF++(PP++F))):=by simpa[bf]using h
 simpa using this.swap
theorem bf.pp(h:Holds H (bf S m1 m2 m3 lv fv pv rv dv n1 n2 n3 PD PL PF PP F)):Holds H (PP++((S,fU lv fv pv rv m1 m2 m3 dv)::(PD++((m1,cf n1)::(m2,cf n2)::(m3,cf n3)::(PL++(PF++F)))))):=by
 have:Holds H (((S,fU lv fv pv rv m1 m2 m3 dv)::(PD++([(m1,cf n1),(m2,cf n2),(m3,cf n3)]++(PL++PF))))++(PP++F)):=by simpa[bf]using h
 simpa using this.swap
theorem bf.report(h:Holds H (bf S m1 m2 m3 lv fv pv rv dv n1 n2 n3 PD PL PF PP F))(b a:Int)(f:bB dv b2 2 ey PD)(g:Z ey<1000000):
 HR C 264 [.ptr S 0 0 0,I b,I a] H (λr e=>r=.aB []/\∃d c,bB d b2 2 (oq ey b a) c/\Holds e (bf S m1 m2 m3 lv fv pv rv d n1 n2 n3 c PL PF PP F)):=ak5 ey b a f g h
theorem bf.alb(h:Holds H (bf S m1 m2 m3 lv fv pv rv dv n1 n2 n3 PD PL PF PP F))(a:d)(e:Nat)(c:Int):
 HR C 265 [.b7 m1,.str a,I (e:Int),I c] H (λr b=>r=I (if(n1.map Prod.fst).contains a=ad then 5 else c)/\Holds b (bf S m1 m2 m3 lv fv pv rv dv (sr n1 a e) n2 n3 PD PL PF PP F)):=by
 have j:Holds H ((m1,cf n1)::(((S,fU lv fv pv rv m1 m2 m3 dv)::PD)++((m2,cf n2)::(m3,cf n3)::(PL++(PF++(PP++F)))))):=Holds.back (k:=(S,fU lv fv pv rv m1 m2 m3 dv)::PD) h;let⟨r,b,f,g,i⟩:=Mk n1 a e c j;exact⟨r,b,f,g,i.front⟩
theorem bf.alc(h:Holds H (bf S m1 m2 m3 lv fv pv rv dv n1 n2 n3 PD PL PF PP F))(a:d)(e:Nat)(c:Int):
 HR C 265 [.b7 m2,.str a,I (e:Int),I c] H (λr b=>r=I (if(n2.map Prod.fst).contains a=ad then 5 else c)/\Holds b (bf S m1 m2 m3 lv fv pv rv dv n1 (sr n2 a e) n3 PD PL PF PP F)):=by
 have j:Holds H (((S,fU lv fv pv rv m1 m2 m3 dv)::(PD++[(m1,cf n1)]))++(m2,cf n2)::((m3,cf n3)::(PL++(PF++(PP++F))))):=by simpa[bf]using h
 let⟨r,b,f,g,i⟩:=Mk n2 a e c j.back;exact⟨r,b,f,g,by simpa[bf]using i.front⟩
theorem bf.ald(h:Holds H (bf S m1 m2 m3 lv fv pv rv dv n1 n2 n3 PD PL PF PP F))(a:d)(e:Nat)(c:Int):
 HR C 265 [.b7 m3,.str a,I (e:Int),I c] H (λr b=>r=I (if(n3.map Prod.fst).contains a=ad then 5 else c)/\Holds b (bf S m1 m2 m3 lv fv pv rv dv n1 n2 (sr n3 a e) PD PL PF PP F)):=by
 have j:Holds H (((S,fU lv fv pv rv m1 m2 m3 dv)::(PD++[(m1,cf n1),(m2,cf n2)]))++(m3,cf n3)::(PL++(PF++(PP++F)))):=by simpa[bf]using h
 let⟨r,b,f,g,i⟩:=Mk n3 a e c j.back;exact⟨r,b,f,g,by simpa[bf]using i.front⟩
theorem bf.ale(h:Holds H (bf S m1 m2 m3 lv fv pv rv dv n1 n2 n3 PD PL PF PP F)){a:List bP}(p:bB lv (bo ab) 4 a PL)(b:bP)(w:Z a<1000000)
 (k:∀l i e,bB l (bo ab) 4 (a++[b]) i->Holds e (bf S m1 m2 m3 l fv pv rv dv n1 n2 n3 PD i PF PP F)->iz e):
 cj (cJ 4 72 lv (.sl ab [bo ab b]) H) λr c=>bd (iH (.ptr S 0 0 0) c) λs=>bd (dD 0 s c) λt=>bd (dD 0 t c) λu=>bd (dp 1 u r c) λo=>iz o:=by
 let⟨id,g,f,m,j⟩:=p.app (bytes:=72) (bf.pl h) b (kH ab b) (by omega);apply aY m;have d:=j.get (U:=S) (hL:=fU lv fv pv rv m1 m2 m3 dv) (by simp);simp only[hT d,eD d,O,fW];refine aI (lE d rfl (by omega) rfl rfl) (k _ [(id,.arr g 4 ((a++[b]).map (bo ab)))] _ bB.of ?_)
 have n:Holds f (((S,fU lv fv pv rv m1 m2 m3 dv)::(PD++[(m1,cf n1),(m2,cf n2),(m3,cf n3)]))++(id,.arr g 4 ((a++[b]).map (bo ab)))::(PF++(PP++F))):=by
  apply Holds.front;simpa using j
 change Holds (f.set S (fU (.q id g 0 (Z (a++[b]))) fv pv rv m1 m2 m3 dv)) _;have v:=Holds.set (k:=(PD++[(m1,cf n1),(m2,cf n2),(m3,cf n3)])++(id,.arr g 4 ((a++[b]).map (bo ab)))::(PF++(PP++F))) n (fU (.q id g 0 (Z (a++[b]))) fv pv rv m1 m2 m3 dv);simp_all[bf]
theorem bf.wL(h:Holds H (bf S m1 m2 m3 lv fv pv rv dv n1 n2 n3 PD PL PF PP F)){b:List (List AV)}(p:bB fv (λa:List AV=>a) 7 b PF)(a:List AV)(r:Z a=7)(x:Z b<1000000)
 (m:∀k j f,bB k (λa:List AV=>a) 7 (b++[a]) j->Holds f (bf S m1 m2 m3 lv k pv rv dv n1 n2 n3 PD PL j PP F)->iz f):
 cj (cJ 7 120 fv (.sl ab [a]) H) λs c=>bd (iH (.ptr S 0 0 0) c) λt=>bd (dD 0 t c) λu=>bd (dD 1 u c) λv=>bd (dp 1 v s c) λo=>iz o:=by
 let⟨id,g,i,n,l⟩:=p.app (bytes:=120) (bf.pf h) a r (by omega);apply aY n;have d:=l.get (U:=S) (hL:=fU lv fv pv rv m1 m2 m3 dv) (by simp);simp only[hT d,eD d,O,e,fW];refine aI (lE d rfl (by omega) rfl rfl) (m _ [(id,.arr g 7 ((b++[a]).map λa:List AV=>a))] _ bB.of ?_)
 have w:Holds i (((S,fU lv fv pv rv m1 m2 m3 dv)::(PD++([(m1,cf n1),(m2,cf n2),(m3,cf n3)]++PL)))++(id,.arr g 7 ((b++[a]).map λa:List AV=>a))::(PP++F)):=by
  apply Holds.front;simpa using l
 change Holds (i.set S (fU lv (.q id g 0 (Z (b++[a]))) pv rv m1 m2 m3 dv)) _;grind[Holds.set,cf,fU,bf]
theorem bf.alf(h:Holds H (bf S m1 m2 m3 lv fv pv rv dv n1 n2 n3 PD PL PF PP F)){b:List cO}(p:bB pv (bO ab) 7 b PP)(a:cO)(w:Z b<1000000)
 (l:∀m j f,bB m (bO ab) 7 (b++[a]) j->Holds f (bf S m1 m2 m3 lv fv m rv dv n1 n2 n3 PD PL PF j F)->iz f):
 cj (cJ 7 88 pv (.sl ab [bO ab a]) H) λr c=>bd (iH (.ptr S 0 0 0) c) λs=>bd (dD 0 s c) λt=>bd (dD 2 t c) λu=>bd (dp 1 u r c) λo=>iz o:=by
 let⟨id,g,i,n,k⟩:=p.app (bytes:=88) (bf.pp h) a (jg ab a) (by omega);apply aY n;have d:=k.get (U:=S) (hL:=fU lv fv pv rv m1 m2 m3 dv) (by simp);simp only[hT d,eD d,O,e,fW];refine aI (lE d rfl (by omega) rfl rfl) (l _ [(id,.arr g 7 ((b++[a]).map (bO ab)))] _ bB.of ?_)
 have v:Holds i (((S,fU lv fv pv rv m1 m2 m3 dv)::(PD++([(m1,cf n1),(m2,cf n2),(m3,cf n3)]++(PL++PF))))++(id,.arr g 7 ((b++[a]).map (bO ab)))::F):=by
  apply Holds.front;simpa using k
 change Holds (i.set S (fU lv fv (.q id g 0 (Z (b++[a]))) rv m1 m2 m3 dv)) _;grind[Holds.set,cf,bO,fU,bf]
end
def alg(x:Bool)(a:D)(p:aL)(r:AV)(q:List Obj):Prop:=∃g t u v k j o h l m n c e d f i b,r=.ptr g 0 0 0/\Holds q (bf g t u v k j o .aq h l m n c e d f p)/\bB h b2 2 b c/\Z b<=1000/\bB k (bo ab) 4 a.aw e/\bB j (λw:List AV=>w) 7 i d/\bB o (bO ab) 7 (a.Q.map (ew a)) f/\
 ot bP.au a.aw l/\ot Fn.au a.aO m/\ot cO.au a.Q n/\(b=[]<->p7 a=ad)/\(p7 a=ad->i=a.aO.map λs=>cg ab (eK a s))
theorem Ml(a:D)(b:d):b1 (λc:bP=>c.au==b) a.aw=ed a b:=rfl
theorem e8.alh(af:e8 C)(d:D)(cc:eI d)(fd:Holds M k)(lt:Z d.aw<=100)(lm:Z d.aO<=100)(lw:Z d.Q<=100)(it:∀j∈d.aO,Z j.src=Z j.dst):HR C 210 [.agg (cP T F d)] M (alg T d k):=by
 apply SU.hq;simp only[eP,O,e3,bj,aK,rP,wk,kt,e,a1];refine aI rfl (aY (dR:=.ptr (Z M+3) 0 0 0) (oK:=M++[cf []]++[cf []]++[cf []]++[fU .aq .aq .aq .aq (Z M) (Z M+1) (Z M+2) .aq]) ?_ ?_);simp[nw,fU,HF];exact⟨rfl,rfl⟩;have hh:Holds (M++[cf []]++[cf []]++[cf []]++[fU .aq .aq .aq .aq (Z M) (Z M+1) (Z M+2) .aq]) (bf (Z M+3) (Z M) (Z M+1) (Z M+2) .aq .aq .aq .aq .aq [] [] [] [] [] [] [] k):=by
  have g9:=((fd.alloc (cf [])).alloc (cf [])).alloc (cf []);have u:=g9.alloc (fU .aq .aq .aq .aq (Z M) (Z M+1) (Z M+2) .aq);simp only[gy,jW]at u;apply u.perm;simp only[bf,dK];apply List.Perm.cons _;exact(List.Perm.swap _ _ _).trans ((List.Perm.cons _ (List.Perm.swap _ _ _)).trans ((List.Perm.swap _ _ _)))
 generalize hj:Z M+3=n at*;generalize hu:Z M=E at*;generalize hw:E+1=S at*;generalize hH:E+2=R at*;generalize M++[cf []]++[cf []]++[cf []]++[fU .aq .aq .aq .aq E S R .aq]=g3 at*;clear hj hu hw hH fd
 refine bG (K:=Nat×List Obj×AV×AV×List (Int×Int)×hx×aL×aL) (λg=>[I g.1]) (λg=>g.2.1) (λg=>Z d.aw -g.1) (λg=>g.1<=Z d.aw/\Holds g.2.1 (bf n E S R g.2.2.1 .aq .aq .aq g.2.2.2.1 g.2.2.2.2.2.1 [] [] g.2.2.2.2.2.2.1 g.2.2.2.2.2.2.2 [] [] k)/\bB g.2.2.2.1 b2 2 g.2.2.2.2.1 g.2.2.2.2.2.2.1/\Z g.2.2.2.2.1<=g.1/\bB g.2.2.1 (bo ab) 4 (d.aw.take g.1) g.2.2.2.2.2.2.2/\
  ot bP.au (d.aw.take g.1) g.2.2.2.2.2.1/\(g.2.2.2.2.1=[]<->(ay g.1).all (p6 d)=ad)) (0,g3,.aq,.aq,[],[],[],[]) ⟨by simp,hh,bB.nil _ _,by simp,bB.nil _ _,λg=>rfl,by simp⟩ ?_
 rintro⟨f,o,ce,ah,t,U,Y,ci⟩ ⟨aA,p,z,am,bm,N,L⟩ a4 B;simp only at aA p z am bm N L B⊢;simp only[G,A,O,a];refine b (λh=>?_) (λh=>?_);have h:f<Z d.aw:=by simpa using h
 have ht:d.aw[f]∈d.aw:=bp h;have c2:=cc.aN _ ht;have r:=bf.sc p;have a3:aQ 1 ab (.ptr n 0 0 4) o=aa (.b7 E):=gx r rfl;have hk:(AV.agg [.str d.aw[f].au,eS T cS d.aw[f].az,eS T b2 d.aw[f].eH,I d.aw[f].ba])=.agg (bo T d.aw[f]):=rfl;have hl:(AV.agg [.str d.aw[f].au,eS ab cS d.aw[f].az,eS ab b2 d.aw[f].eH,I d.aw[f].ba])=.agg (bo ab d.aw[f]):=rfl
 simp only[aF h (kH _ _),O,jh,zo,DB,DC,DD,DE,hk,hT r,eD r,e,a3];apply c (ajc _ c2);refine c7 (bf.alb p d.aw[f].au f (eR d.aw[f])) rfl λgc em a0=>?_;obtain⟨rfl,aj⟩:=a0;rw[N.has h];simp only[mf,true_and];have a5:p6 d f=(eR d.aw[f]==0&&ed d d.aw[f].au==(f:Int)):=by rw[p6,bu h]
 have hs:b1 (λJ:bP=>J.au==d.aw[f].au) d.aw=ed d d.aw[f].au:=rfl;rw[hs];apply aY (dR:=264) (oK:=[.ptr n 0 0 0,I (if(!(ed d d.aw[f].au==(f:Int)))=ad then 5 else eR d.aw[f]),I d.aw[f].ba]) rfl;refine c7 (bf.report aj (if(!(ed d d.aw[f].au==(f:Int)))=ad then 5 else eR d.aw[f]) d.aw[f].ba z (by omega)) rfl λge W a2=>?_;obtain⟨rfl,ai,ac,ax,K⟩:=a2
 refine c (af.Mh d.aw[f].az c2.1) (c (af.akW d.aw[f].eH c2.2) ?_);refine aI (dR:=eS ab cS d.aw[f].az) rfl (aI (dR:=eS ab b2 d.aw[f].eH) rfl ?_);have x:=bf.sc K;have i3:aQ 1 ab (.ptr n 0 0 0) W=aa ce:=gx x rfl;simp only[hT x,eD x,O,fW,i3,hl];rw[vD (U:=4) (row:=bo ab d.aw[f]) rfl rfl,O];refine bf.ale K bm d.aw[f] (by grind) λi8 g5 X f2 ak=>?_;rw[a6,O];rw[<-iu h]at f2
 have f0:=BW (ey:=t) (f:=if(!(ed d d.aw[f].au==(f:Int)))=ad then 5 else eR d.aw[f]) (b9:=d.aw[f].ba);refine B (f+1,X,i8,ai,oq t (if(!(ed d d.aw[f].au==(f:Int)))=ad then 5 else eR d.aw[f]) d.aw[f].ba,sr U d.aw[f].au f,ac,g5) ⟨h,ak,ax,by grind,f2,N.step h,?_⟩ (by simp;omega);grind[BV];have:f=Z d.aw:=by simp at h;omega
 subst this;rw[dU]at bm N;clear B
 refine bG (K:=Nat×List Obj×AV×AV×List (Int×Int)×hx×aL×aL×List (List AV)) (λg=>[I g.1]) (λg=>g.2.1) (λg=>Z d.aO -g.1) (λg=>g.1<=Z d.aO/\Holds g.2.1 (bf n E S R ce g.2.2.1 .aq .aq g.2.2.2.1 U g.2.2.2.2.2.1 [] g.2.2.2.2.2.2.1 ci g.2.2.2.2.2.2.2.1 [] k)/\bB g.2.2.2.1 b2 2 g.2.2.2.2.1 g.2.2.2.2.2.2.1/\Z g.2.2.2.2.1<=100+g.1/\bB g.2.2.1 (λJ:List AV=>J) 7 g.2.2.2.2.2.2.2.2 g.2.2.2.2.2.2.2.1/\
  ot Fn.au (d.aO.take g.1) g.2.2.2.2.2.1/\Z g.2.2.2.2.2.2.2.2=g.1/\(g.2.2.2.2.1=[]<->(ay (Z d.aw)).all (p6 d)=ad/\(ay g.1).all (ph d)=ad)/\((ay g.1).all (ph d)=ad->g.2.2.2.2.2.2.2.2=(d.aO.take g.1).map λj=>cg ab (eK d j))) (0,o,.aq,ah,t,[],Y,[],[]) ⟨by simp,p,z,by grind,bB.nil _ _,λg=>rfl,rfl,by simp[L],by simp⟩ ?_
 rintro⟨f,o,cs,ah,t,d0,Y,eq,gt⟩ ⟨aA,p,z,am,dl,aE,f6,L,bv⟩ a4 B;simp only at aA p z am dl aE f6 L bv B⊢;simp only[G,A,O,a];refine b (λh=>?_) (λh=>?_);have h:f<Z d.aO:=by simpa using h
 have f1:d.aO[f]∈d.aO:=bp h;have f4:=aE.has h;have h1:=aE.step h;have hO:(d.aO.take (f+1)).map (λj=>cg ab (eK d j))=(d.aO.take f).map (λj=>cg ab (eK d j))++[cg ab (eK d d.aO[f])]:=by
  rw[iu h,hE]<;>rfl
 have a5:ph d f=((match d.aw[(ed d d.aO[f].aN).toNat]? with|aa P=>y (0<=ed d d.aO[f].aN)&&fD P d.aO[f]|ae=>ab)&&iN d d.aO[f].au==(f:Int)):=by rw[ph,bu h]<;>rfl
 have hn:b1 (λJ:Fn=>J.au==d.aO[f].au) d.aO=iN d d.aO[f].au:=rfl;rw[hn]at f4;have ds:=aF (T:=T) (a7:=cg T) (x:=d.aO) (M:=o) h (sZ T _);have iC:=it _ f1;have bi:=cc.fn _ f1;generalize d.aO[f]=j at*;have r:=bf.sc p;have a3:aQ 1 ab (.ptr n 0 0 4) o=aa (.b7 E):=gx r rfl;have i6:aQ 1 ab (.ptr n 0 0 5) o=aa (.b7 S):=gx r rfl;simp only[ds,O,Dc,FW,GC,GD,GF,GG,GH,hT r,eD r,e,a3]
 apply e4 _ (Ed U j.aN) (.ck (Ec (bf.WQ p)) (.ck (.str _ _) (.nil _))) (.int _ _);rw[N j.aN,Ml];simp only[tp,O];refine aI (dR:=.aq) rfl ?_;refine c (af.Mh j.src bi.1) (c (af.Mh j.dst bi.2.1) ?_);refine aI (dR:=eS ab cS j.src) rfl (aI (dR:=eS ab cS j.dst) rfl ?_)
 have go:∀(m:Int)(V:AV),(m=0<->(match d.aw[(ed d j.aN).toNat]? with|aa P=>y (0<=ed d j.aN)&&fD P j|ae=>ab)=ad)->V.bU=ad->(m=0->V=eS ab cI (eK d j).gQ)->
  bd (iH (.ptr n 0 0 0) o) λkl=>bd (dD 5 kl o) λkw=>bd (aQ 1 ab kw o) λkx=>ch C 265 [kx,.str j.au,I f,I m] o λlc hg=>
   (ob (I j.ba) (I j.ba))/\((True)/\(cj (lK (.fn 264 [.ptr n 0 0 0] []) [lc.pl,(I j.ba).pl]) λco cl=>ch C co cl hg λld w=>bd (iH (.ptr n 0 0 0) w) λd1=>bd (dD 0 d1 w) λd2=>bd (dD 1 d2 w) λd3=>bd (aQ 1 ab d3 w) λd4=>
   bd (fQ 7 [(.str []),(.str []),(I 0),.aq,.aq,.aq,(I 0)] 1 [(0,.agg [.str j.au,.str j.aN,I (ed d j.aN),eS ab cS j.src,eS ab cS j.dst,V,I j.ba])]) λd5=>
    cj (cJ 7 120 d4 d5 w) λd6 H=>bd (iH (.ptr n 0 0 0) H) λd7=>bd (dD 0 d7 H) λd8=>bd (dD 1 d8 H) λd9=>bd (dp 1 d9 d6 H) λc1=>bd (aT .s .add (I f) (I 1)) λel=>a4 [el] c1)):=by
  intro m V be i2 i1;simp only[hT r,eD r,O,e,i6];refine c7 (bf.alc p j.au f m) rfl λgc em a0=>?_;obtain⟨rfl,aj⟩:=a0;rw[f4];simp only[mf,true_and];apply aY (dR:=264) (oK:=[.ptr n 0 0 0,I (if(!(iN d j.au==(f:Int)))=ad then 5 else m),I j.ba]) rfl;refine c7 (bf.report aj (if(!(iN d j.au==(f:Int)))=ad then 5 else m) j.ba z (by omega)) rfl λge W a2=>?_;obtain⟨rfl,ai,ac,ax,K⟩:=a2;have x:=bf.sc K
  have i4:aQ 1 ab (.ptr n 0 0 1) W=aa cs:=gx x rfl;simp only[hT x,eD x,O,e,fW,i4];rw[vD (U:=7) (row:=[.str j.au,.str j.aN,I (ed d j.aN),eS ab cS j.src,eS ab cS j.dst,V,I j.ba]) rfl (by simp[i2]),O];refine bf.wL K dl _ rfl (by omega) λg8 g4 X ho ak=>?_;rw[a6,O];have f0:=BW (ey:=t) (f:=if(!(iN d j.au==(f:Int)))=ad then 5 else m) (b9:=j.ba)
  refine B (f+1,X,g8,ai,oq t (if(!(iN d j.au==(f:Int)))=ad then 5 else m) j.ba,sr d0 j.au f,ac,g4,gt++[[.str j.au,.str j.aN,I (ed d j.aN),eS ab cS j.src,eS ab cS j.dst,V,I j.ba]]) ⟨h,ak,ax,by grind,ho,h1,by simp[f6],?_,?_⟩ (by simp;omega);grind[BV];intro a9;rw[Mb,a5]at a9;simp only[bc]at a9;rw[bv a9.1,hO,i1 (be.2 a9.2.1)]<;>rfl
 simp only[bw,h0,O,G,i,mf,true_and]at go⊢;refine b (λu=>?_) (λu=>?_);have u:0<=ed d j.aN:=by simpa using u
 let⟨q,bD,ca⟩:∃q:Nat,ed d j.aN=q/\q<Z d.aw:=by
  rcases sd (λJ:bP=>J.au==j.aN) d.aw with⟨q,bD,es,-⟩|⟨es,-⟩;exact⟨q,es,bD⟩;grind[Ml]
 rw[bD]at go⊢;simp only[eN,bu ca]at go;have li:y ((0:Int)<=(q:Int))=true:=by simp
 simp only[aF ca (kH _ _),O,jh];obtain⟨md,f7,m,rfl,be⟩:=ak0 (T:=T) (F:=false) d.aw[q] {j with of:=(q:Int),gQ:=[]} (cc.aN _ (bp ca)) ⟨bi.1,bi.2.1,by simp[Sm]⟩ iC;have g1:fD d.aw[q] {j with of:=(q:Int),gQ:=[]}=fD d.aw[q] j:=rfl;have jp:fJ d.aw[q] {j with of:=(q:Int),gQ:=[]}=fJ d.aw[q] j:=rfl;rw[g1,jp]at f7;rw[g1]at be;refine⟨.df,_,_,by decide,?_,f7,(λm=>by cases m),?_⟩
 exact .ck eu (.ck (.agg _ _ _ (.ck (.str _ _) (.ck (.str _ _) (.ck (.int _ _ _) (.ck eu (.ck eu (.ck (.aq _ _) (.ck (.int _ _ _) (.nil _))))))))) (.nil _));simp only[fH,de,eF,O];apply aI rfl;exact go m (eS ab cI (if fD d.aw[q] j=ad then fJ d.aw[q] j else[])) (by grind) rfl (λ_=>by
  rw[eK];simp only[bD,eN,bu ca];grind)
 have u:¬0<=ed d j.aN:=by simpa using u
 have l0:(match d.aw[(ed d j.aN).toNat]? with|aa P=>y (0<=ed d j.aN)&&fD P j|ae=>ab)=false:=by
  have:y (0<=ed d j.aN)=false:=by simpa using u
  split;rw[this]<;>rfl
  rfl
 exact go 70 .aq (by grind) rfl (λh=>by cases h);have:f=Z d.aO:=by simp at h;omega
 subst this;rw[dU]at bv aE;clear B
 refine bG (K:=Nat×List Obj×AV×AV×List (Int×Int)×hx×aL×aL) (λg=>[I g.1]) (λg=>g.2.1) (λg=>Z d.Q -g.1) (λg=>g.1<=Z d.Q/\Holds g.2.1 (bf n E S R ce cs g.2.2.1 .aq g.2.2.2.1 U d0 g.2.2.2.2.2.1 g.2.2.2.2.2.2.1 ci eq g.2.2.2.2.2.2.2 k)/\bB g.2.2.2.1 b2 2 g.2.2.2.2.1 g.2.2.2.2.2.2.1/\Z g.2.2.2.2.1<=200+g.1/\bB g.2.2.1 (bO ab) 7 ((d.Q.take g.1).map (ew d)) g.2.2.2.2.2.2.2/\
  ot cO.au (d.Q.take g.1) g.2.2.2.2.2.1/\(g.2.2.2.2.1=[]<->((ay (Z d.aw)).all (p6 d)=ad/\(ay (Z d.aO)).all (ph d)=ad)/\(ay g.1).all (vy d)=ad)) (0,o,.aq,ah,t,[],Y,[]) ⟨by simp,p,z,by grind,bB.nil _ _,λg=>rfl,by simp[L]⟩ ?_
 rintro⟨f,o,f9,ah,t,f8,Y,g6⟩ ⟨aA,p,z,am,br,aR,L⟩ a4 B;simp only at aA p z am br aR L B⊢;simp only[G,A,O,a];refine b (λh=>?_) (λh=>?_);have h:f<Z d.Q:=by simpa using h
 have io:d.Q[f]∈d.Q:=bp h;have f5:=aR.has h;have h3:=aR.step h;have i0:(d.Q.take f).map (ew d)++[ew d d.Q[f]]=(d.Q.take (f+1)).map (ew d):=by
  rw[iu h,hE]<;>rfl
 have a5:vy d f=((d.Q[f].aN==[]||y (0<=ed d d.Q[f].aN))&&eJ d d.Q[f].au==(f:Int)):=by rw[vy,bu h]
 have id:b1 (λJ:cO=>J.au==d.Q[f].au) d.Q=eJ d d.Q[f].au:=rfl;rw[id]at f5;have ds:=aF (T:=T) (a7:=bO T) (x:=d.Q) (M:=o) h (jg T _);have ii:=cc.s7 _ io;generalize d.Q[f]=l at*;have r:=bf.sc p;have a3:aQ 1 ab (.ptr n 0 0 4) o=aa (.b7 E):=gx r rfl;have i7:aQ 1 ab (.ptr n 0 0 6) o=aa (.b7 R):=gx r rfl;simp only[ds,O,wg,xP,rS,rT,rU,rV,rW,rX];apply c (af.akV l.aZ ii);apply aI (dR:=eS ab cI l.aZ) rfl
 simp only[tp,O,bw,jD,G,i,hT r,eD r,e,a3,i7,mf,true_and];have go:∀m:Int,(m=0<->(l.aN==[]||y (0<=ed d l.aN))=ad)->ch C 265 [.b7 R,.str l.au,I f,I m] o λke ha=>(cj (lK (.fn 264 [.ptr n 0 0 0] []) [ke.pl,(I l.ba).pl]) λco cl=>ch C co cl ha λld w=>bd (iH (.ptr n 0 0 0) w) λd1=>bd (dD 0 d1 w) λd2=>bd (dD 2 d2 w) λd3=>bd (aQ 1 ab d3 w) λd4=>
  bd (fQ 7 [(.str []),.aq,(.str []),(I 0),ff,(I 0),(I 0)] 1 [(0,.agg [.str l.au,eS ab cI l.aZ,.str l.aN,I (ew d l).of,.bool l.eo,I l.fx,I l.ba])]) λd5=>
   cj (cJ 7 88 d4 d5 w) λd6 H=>bd (iH (.ptr n 0 0 0) H) λd7=>bd (dD 0 d7 H) λd8=>bd (dD 2 d8 H) λd9=>bd (dp 1 d9 d6 H) λc1=>bd (aT .s .add (I f) (I 1)) λel=>a4 [el] c1):=by
  intro m be;refine c7 (bf.ald p l.au f m) rfl λgc em a0=>?_;obtain⟨rfl,aj⟩:=a0;rw[f5];apply aY (dR:=264) (oK:=[.ptr n 0 0 0,I (if(!(eJ d l.au==(f:Int)))=ad then 5 else m),I l.ba]) rfl;refine c7 (bf.report aj (if(!(eJ d l.au==(f:Int)))=ad then 5 else m) l.ba z (by omega)) rfl λge W a2=>?_;obtain⟨rfl,ai,ac,ax,K⟩:=a2;have x:=bf.sc K;have i5:aQ 1 ab (.ptr n 0 0 2) W=aa f9:=gx x rfl
  have ip:(AV.agg [AV.str l.au,eS ab cI l.aZ,.str l.aN,I (ew d l).of,.bool l.eo,I l.fx,I l.ba])=.agg (bO ab (ew d l)):=rfl;simp only[hT x,eD x,O,e,fW,i5,ip];rw[vD (U:=7) (row:=bO ab (ew d l)) rfl rfl,O];refine bf.alf K br (ew d l) (by grind) λi9 g7 X f3 ak=>?_;rw[a6,O];rw[i0]at f3;have f0:=BW (ey:=t) (f:=if(!(eJ d l.au==(f:Int)))=ad then 5 else m) (b9:=l.ba)
  refine B (f+1,X,i9,ai,oq t (if(!(eJ d l.au==(f:Int)))=ad then 5 else m) l.ba,sr f8 l.au f,ac,g7) ⟨h,ak,ax,by grind,f3,h3,?_⟩ (by simp;omega);rw[BV,L,Mb,a5];rcases ls:eJ d l.au==(f:Int)with _|_;simp;grind
 refine dw (λu=>?_) (λu=>?_);have ex:l.aN≠[]:=by simpa using u
 have h4:(ew d l).of=ed d l.aN:=by rw[ew,if_neg ex]
 rw[h4]at go;apply e4 _ (Ed U l.aN) (.ck (Ec (bf.WQ p)) (.ck (.str _ _) (.nil _))) (.int _ _);rw[N l.aN,Ml];simp only[tp,O,A];refine b (λhe=>?_) (λhe=>?_);exact go 70 (by
  grind)
 exact go 0 (by
  grind)
 have ex:l.aN=[]:=by simpa using u
 simp_all[ew];have:f=Z d.Q:=by simp at h;omega
 subst this;rw[dU]at br aR;have hm:p7 d=ad<->((ay (Z d.aw)).all (p6 d)=ad/\(ay (Z d.aO)).all (ph d)=ad)/\(ay (Z d.Q)).all (vy d)=true:=by
  rw[p7,bc,bc]
 exact⟨n,E,S,R,ce,cs,f9,ah,U,d0,f8,Y,ci,eq,g6,gt,t,rfl,p,z,by omega,bm,dl,br,N,aE,aR,by grind,λh=>bv (hm.1 h).1.2⟩
theorem Ee{id g off:Nat}(h:M[id]?=aa (.arr g N b0))(d:b0[U]?=aa bE)(a:off<Z bE)(e:E.pl=E)(c:E.bU=ad):dp 1 (.ptr id g U off) E M=aa (M.set id (.arr g N (b0.set U (bE.set off E)))):=by
 have b:eV bE off [E]=bE.set off E:=by
  simp only[eV,jW];rw[aa0,if_pos a];simp
 have f:E.cells=[E]:=by
  cases E<;>first|rfl|grind[AV.bU]
 grind[dp]
section
variable{H:List Obj}{X:aL}{B g i n:Nat}{es:List (List AV)}{cs:List AV}
theorem Ef(a:Holds H ((B,.arr g n (es.set i cs))::X)):H[B]?=aa (.arr g n (es.set i cs)):=a.get (by simp)
theorem WR(a:i<Z es):(es.set i cs)[i]?=aa cs:=by simp[a]
theorem p9(a:Holds H ((B,.arr g n (es.set i cs))::X))(off:Nat):iH (.ptr B g i off) H=aa (.ptr B g i off):=by
 grind[Ef,iH,dD]
theorem mY(b:Holds H ((B,.arr g n (es.set i cs))::X))(off a:Nat):dD a (.ptr B g i off) H=aa (.ptr B g i (off+a)):=o8 (Ef b)
theorem ss(b:i<Z es)(a:Holds H ((B,.arr g n (es.set i cs))::X))(off:Nat):aQ 1 ab (.ptr B g i off) H=cs[off]?:=cY (Ef a) (WR b)
theorem tu(e:i<Z es)(c:Holds H ((B,.arr g n (es.set i cs))::X)){off:Nat}{a:AV}(f:off<Z cs)(h:a.pl=a)(d:a.bU=ad)
 (j:∀b,Holds b ((B,.arr g n (es.set i (cs.set off a)))::X)->iz b):bd (dp 1 (.ptr B g i off) a H) iz:=by
 refine aI (Ee (Ef c) (WR e) f h d) (j _ ?_);rw[IV];exact c.set _
end
theorem Gr.at(h:Gr M E a7 U x)(a:N<Z x):∃id g,bT U E (I N) M=aa (.ptr id g N 0)/\M[id]?=aa (.arr g U (x.map a7))/\(x.map a7)[N]?=aa (a7 x[N]):=by
 rcases h with⟨rfl,-⟩|⟨id,g,rfl,h⟩;simp at a;grind[fu]
def SC(b:D)(j:Nat)(a:List Obj):Prop:=∃d c i m l e f k g h,a[j]?=aa (fU d c i m l e f k)/\Gr a d (bo ab) 4 b.aw/\Gr a c (cg ab) 7 b.aO/\Gr a i (bO ab) 7 b.Q/\
 a[e]?=aa (cf g)/\a[f]?=aa (cf h)/\ot Fn.au b.aO g/\ot cO.au b.Q h
theorem SC.s7(h:SC V U M):∃a,aQ 1 ab (.ptr U 0 0 2) M=aa a/\Gr M a (bO ab) 7 V.Q:=by
 let⟨m,e,a,s,n,o,p,d,q,r,c,f,g,b,i,j,k,l⟩:=h;exact⟨a,gx c rfl,b⟩
theorem SC.aO(h:SC V U M):∃a,aQ 1 ab (.ptr U 0 0 1) M=aa a/\Gr M a (cg ab) 7 V.aO:=by
 let⟨m,b,a,s,n,o,p,e,q,r,d,f,c,g,i,j,k,l⟩:=h;exact⟨b,gx d rfl,c⟩
theorem SC.aN(h:SC V U M):∃a,aQ 1 ab (.ptr U 0 0 0) M=aa a/\Gr M a (bo ab) 4 V.aw:=by
 let⟨d,f,a,s,n,o,p,e,q,r,c,b,g,i,j,k,l,m⟩:=h;exact⟨d,gx c rfl,b⟩
theorem SC.nc(h:SC V U M)(off:Nat):iH (.ptr U 0 0 off) M=aa (.ptr U 0 0 off):=by
 let⟨l,c,r,s,m,n,o,b,p,q,a,d,e,f,g,i,j,k⟩:=h;exact hT a
theorem SC.ao(h:SC V U M)(off a:Nat):dD a (.ptr U 0 0 off) M=aa (.ptr U 0 0 (off+a)):=by
 let⟨m,d,s,t,n,o,p,c,q,r,b,e,f,g,i,j,k,l⟩:=h;exact eD b
theorem SC.ali(h:SC V U M):∃a b,aQ 1 ab (.ptr U 0 0 5) M=aa (.b7 a)/\M[a]?=aa (cf b)/\ot Fn.au V.aO b:=by
 let⟨p,j,t,u,q,f,r,i,g,s,e,k,l,m,c,n,d,o⟩:=h;exact⟨f,g,gx e rfl,c,d⟩
theorem SC.WT(h:SC V U M):∃a b,aQ 1 ab (.ptr U 0 0 6) M=aa (.b7 a)/\M[a]?=aa (cf b)/\ot cO.au V.Q b:=by
 let⟨p,j,t,u,q,r,f,i,s,g,e,k,l,m,n,c,o,d⟩:=h;exact⟨f,g,gx e rfl,c,d⟩
theorem SC.ow(h:SC V U M):aM M .cb (.ptr U 0 0 0) (.aH ad [eS ad (bo ad) V.aw,.undef,.undef,.undef,.undef,.undef,.undef,.undef] 0):=by
 let⟨l,d,r,s,m,n,o,c,p,q,b,a,e,f,g,i,j,k⟩:=h;exact ak6 b a
def fb(r:aD)(a:AV):List AV:=[.str r.au,I r.ai,eS ab cT r.af,I r.aj.ax,.str r.aj.au,.str r.aj.aE,I r.aj.aR,a,I r.ba]
theorem WU(a:cO):dS 7 (.agg (bO ab a))=aa (bO ab a):=ji rfl rfl
def Eg(a:D)(r:aD)(g:aL)(e j k:Nat)(i:List (List AV))(h:AV)(l:AV)(f:List Obj):Prop:=∃c b d,l=I c/\(c=0<->gN a r=ad)/\(gN a r=ad->ic r b d=tn a r)/\Holds f ((e,.arr j 9 (i.set k (fb (ic r b d) h)))::g)
theorem Eg.mk{r:aD}(b a c:Int)(d:b=0<->gN V r=ad)(e:gN V r=ad->ic r a c=tn V r)(h:Holds M ((U,.arr N 9 (b0.set z (fb (ic r a c) E)))::k)):Eg V r k U N z b0 E (I b) M:=⟨b,a,c,rfl,d,e,h⟩
theorem Eg.bad{r:aD}(a b c:Int)(d:a≠0)(e:gN V r=ab)(h:Holds M ((U,.arr N 9 (b0.set z (fb (ic r b c) E)))::k)):Eg V r k U N z b0 E (I a) M:=by grind[mk]
theorem alj(a:D)(r:aD)(d2:eI a)(d1:Sm r.af)(ds:kN a)(n:z<Z b0)(V:∀M,Holds M k->SC a dh M)
 (x:Holds M ((U,.arr N 9 (b0.set z (fb r E)))::k)):
 HR C 273 [.ptr dh 0 0 0,.ptr U N z 0] M (Eg a r k U N z b0 E):=by
 apply Ry.hq;simp only[p9 x,mY x,O,e];refine tu n x (by simp[fb]) rfl rfl λd7 B=>?_;simp only[p9 B,mY B,O,e];refine tu n B (by simp[fb]) rfl rfl λbm m=>?_;have m:Holds bm ((U,.arr N 9 (b0.set z (fb (ic r (-1) (-1)) E)))::k):=m;simp only[p9 m,mY m,ss n m,O,e,fb,ic,de,gT];clear B x;refine b (λh=>?_) (λh=>?_);have h:r.au=[]:=by simpa using h
 exact .mk 0 (-1) (-1) (by simp[gN,h]) (λ_=>by rw[tn,j8,oo,if_pos h,if_pos h]) m;have aE:r.au≠[]:=by simpa using h
 have f:gN a r=(match a.Q[(eJ a r.au).toNat]? with
  |ae=>ab
  |aa d=>y (0<=eJ a r.au)&& !d.eo&&nM d r.af&&((r.aj.ax==0)==y (d.of<0))&&
   (!(r.aj.ax==1)||y (0<=fw a d r.aj.au))&&
   (!(r.aj.ax==3)||(y (0<=iN a r.aj.au)&&(match a.aO[(iN a r.aj.au).toNat]? with|aa bv=>bv.of==d.of|ae=>ab)))):=by
  rw[gN,h,l3]<;>rfl
 have F:=V _ m.tail;let⟨d6,bi,a9,J,aR⟩:=F.WT;simp only[F.nc,F.ao,O,e,a9];apply e4 _ (Ed bi r.au) (.ck (Ec J) (.ck (.str _ _) (.nil _))) (.int _ _);have d0:pk bi r.au=eJ a r.au:=aR _;rw[d0];refine tu n m (by simp[fb]) rfl rfl λbr j=>?_;have j:Holds br ((U,.arr N 9 (b0.set z (fb (ic r (eJ a r.au) (-1)) E)))::k):=j;simp only[p9 j,mY j,ss n j,O,e,fb,ic,de,eF,A];clear F a9 J aR m
 refine b (λs=>?_) (λs=>?_);have s:eJ a r.au<0:=by simpa using s
 refine .bad 70 _ _ (by omega) ?_ j;grind;have s:0<=eJ a r.au:=by simpa using s
 let⟨o,G,H⟩:∃o:Nat,eJ a r.au=o/\o<Z a.Q:=by
  have:=Ad (λp:cO=>p.au==r.au) a.Q;grind[eJ]
 rw[G]at f s j;simp only[eN,bu H]at f;rw[G];have u:=V _ j.tail;let⟨es,a5,ak⟩:=u.s7;let⟨id,gi,K,v,L⟩:=ak.at H;simp only[u.nc,u.ao,O,e,fW,a5,K,mi v L (jg _ _),WU,rS,rT,rU,s9,rV,rW,rX];clear K v L ak a5;generalize a2:a.Q[o]=d at*;have eq:d.of<Z a.aw:=ds d (a2▸bp H);have ca:y ((0:Int)<=(o:Int))=true:=by simp
 rw[ca,cZ]at f;refine b (λam=>?_) (λam=>?_);exact .bad 73 _ _ (by omega) (by grind) j;rw[am,q6,cZ]at f;let⟨R,ci,cl⟩:=WJ (T:=false) (F:=false) d r.af d1;have ce:(AV.agg [.str d.au,eS ab cI d.aZ,.str d.aN,I d.of,.bool d.eo,I d.fx,I d.ba])=.agg (bO ab d):=rfl;rw[ce];apply c ci;simp only[cx,O];refine b (λq=>?_) (λq=>?_);have q:R≠0:=by simpa using q
 refine .bad R _ _ q ?_ j;grind;have q:R=0:=by simpa using q
 rw[cl.1 q,cZ]at f;simp only[di,A,O,Kc];refine dw (λS=>?_) (λS=>?_);exact .bad 72 _ _ (by omega) (by grind) j;rw[S,cZ]at f;have c2:(r.aj.ax=0)<->d.of<0:=by
  have:=S;rw[beq_iff_eq]at this;constructor;intro X;rw[X]at this;simpa using this.symm;intro X;have l:y (d.of<0)=true:=by simpa using X
  rw[l]at this;simpa using this
 have ac:j8 a r=o:=by rw[j8,if_neg aE,G]
 have W:oo a r=if r.aj.ax=1 then fw a d r.aj.au else if r.aj.ax=3 then iN a r.aj.au else -1:=by
  rw[oo,if_neg aE,G];simp only[eN,bu H,a2]
 rw[bw];refine b (λl=>?_) (λl=>?_);have l:r.aj.ax=1:=by simpa using l
 have em:0<=d.of:=by
  rcases E1 d.of 0 with h|h;have:=c2.2 h;omega;exact h
 let⟨w,a0⟩:∃w:Nat,d.of=w:=⟨d.of.toNat,by omega⟩;have Y:w<Z a.aw:=by omega
 have co:fw a d r.aj.au=bV a.aw[w].az r.aj.au:=by
  rw[fw,a0,eN,bu Y]
 have d3:(r.aj.ax==3)=false:=by rw[l]<;>rfl
 have ai:(r.aj.ax==1)=true:=by rw[l]<;>rfl
 rw[ai,d3]at f;simp only[sN,l3,q6,AD,yP]at f;rw[a0];apply e4 _ (WN a.aw w Y r.aj.au (d2.aN _ (bp Y))) (.ck u.ow (.ck (.int _ _ _) (.ck (.str _ _) (.nil _)))) (.int _ _);rw[<-co];refine tu n j (by simp[fb]) rfl rfl λP g=>?_;have g:Holds P ((U,.arr N 9 (b0.set z (fb (ic r o (fw a d r.aj.au)) E)))::k):=g;simp only[p9 g,mY g,ss n g,O,e,fb,ic,de,eF,A];refine b (λi=>?_) (λi=>?_)
 have i:fw a d r.aj.au<0:=by simpa using i
 have cs:gN a r=false:=by rw[f];simp;omega
 exact .bad 70 _ _ (by omega) cs g;have i:0<=fw a d r.aj.au:=by simpa using i
 have ah:gN a r=true:=by rw[f];simpa using i
 exact .mk 0 _ _ (by simp[ah]) (λ_=>by rw[tn,ac,W,if_pos l]) g;have l:r.aj.ax≠1:=by simpa using l
 have ai:(r.aj.ax==1)=false:=by simpa using l
 rw[ai]at f;simp only[q6,AD,cZ]at f;simp only[];refine b (λi=>?_) (λi=>?_);rw[i]at f;simp only[sN,l3]at f;have i:r.aj.ax=3:=by simpa using i
 let⟨d6,be,d5,J,dl⟩:=u.ali;simp only[O,d5];apply e4 _ (Ed be r.aj.au) (.ck (Ec J) (.ck (.str _ _) (.nil _))) (.int _ _);have c1:pk be r.aj.au=iN a r.aj.au:=dl _;rw[c1];refine tu n j (by simp[fb]) rfl rfl λP g=>?_;have g:Holds P ((U,.arr N 9 (b0.set z (fb (ic r o (iN a r.aj.au)) E)))::k):=g;simp only[p9 g,mY g,ss n g,O,e,fb,ic,de,eF,A];refine b (λt=>?_) (λt=>?_)
 have t:iN a r.aj.au<0:=by simpa using t
 have:y (0<=iN a r.aj.au)=false:=by simp;omega
 exact .bad 70 _ _ (by omega) (by grind) g;have t:0<=iN a r.aj.au:=by simpa using t
 let⟨p,a3,a4⟩:∃p:Nat,iN a r.aj.au=p/\p<Z a.aO:=by
  have:=Ad (λp:Fn=>p.au==r.aj.au) a.aO;grind[iN]
 rw[a3]at f g⊢;simp only[eN,bu a4]at f;have cc:y ((0:Int)<=(p:Int))=true:=by simp
 rw[cc,cZ]at f;have T:=V _ g.tail;let⟨el,d4,bD⟩:=T.aO;let⟨id,gi,K,v,L⟩:=bD.at a4;simp only[T.nc,T.ao,O,e,fW,d4,K,o8 v,cY v L,cg,de,eF,cx];refine b (λaA=>?_) (λaA=>?_);exact .bad 72 _ _ (by omega) (by grind) g;have ah:gN a r=true:=by rw[f];simpa using aA
 exact .mk 0 _ _ (by simp[ah]) (λ_=>by rw[tn,ac,W,if_neg l,if_pos i,a3]) g;rw[i]at f;simp only[q6,AD]at f;have i:r.aj.ax≠3:=by simpa using i
 exact .mk 0 _ _ (by simp[f]) (λ_=>by rw[tn,ac,W,if_neg l,if_neg i]) j
def ef(a:Lit):List AV:=[I a.ax,.str a.au,I a.ai,eS ab cT a.af,.str a.bind,.str a.aj,I a.iC,I a.op,I a.ba]
def Ae(b:D)(a:Lit)(h:aL)(f j k:Nat)(i:List (List AV))(l:AV)(g:List Obj):Prop:=∃d c e,l=I d/\(d=0<->hQ b a=ad)/\(hQ b a=ad->j9 a c e=iq b a)/\Holds g ((f,.arr j 9 (i.set k (ef (j9 a c e))))::h)
section
variable{P:D}{l:Lit}{X:aL}{B gB j:Nat}{es:List (List AV)}{H':List Obj}
theorem Ae.mk(b a c:Int)(d:b=0<->hQ P l=ad)(e:hQ P l=ad->j9 l a c=iq P l)(h:Holds H' ((B,.arr gB 9 (es.set j (ef (j9 l a c))))::X)):Ae P l X B gB j es (I b) H':=⟨b,a,c,rfl,d,e,h⟩
theorem Ae.bad(a:Int)(h:Holds H' ((B,.arr gB 9 (es.set j (ef (j9 l f b9))))::X))(b:a≠0)(c:hQ P l=ab):Ae P l X B gB j es (I a) H':=by grind[mk]
theorem Ae.ok(h:Holds H' ((B,.arr gB 9 (es.set j (ef (j9 l f b9))))::X))(b:hQ P l=ad)(a:j9 l f b9=iq P l):Ae P l X B gB j es (I 0) H':=by grind[mk]
end
theorem alk(d:D)(a:Lit)(be:eI d)(d2:Sm a.af)(ds:kN d)(Y:a.ax=5->Z a.af=2)(ac:(a.ax=3\/a.ax=4)<->a.aj≠[])(s:z<Z b0)(ai:∀M,Holds M k->SC d dh M)
 (J:Holds M ((U,.arr N 9 (b0.set z (ef a)))::k)):
 HR C 274 [.ptr dh 0 0 0,.ptr U N z 0] M (Ae d a k U N z b0):=by
 apply S1.hq;simp only[p9 J,mY J,O,e];refine tu s J (by simp[ef]) rfl rfl λd6 K=>?_;simp only[p9 K,mY K,O,e];refine tu s K (by simp[ef]) rfl rfl λbv m=>?_;have m:Holds bv ((U,.arr N 9 (b0.set z (ef (j9 a (-1) (-1)))))::k):=m;simp only[p9 m,mY m,ss s m,O,e,ef,j9,de,eF,di];clear K J;refine b (λh=>?_) (λh=>?_);have w:a.ax=5:=by simpa using h
 let⟨l,t,aR⟩:∃l t,a.af=[l,t]:=by
  have:=Y w
  match em:a.af,this with
  |[l,t],_=>grind
 have aA:hQ d a= !(l.aE==[]&&t.aE==[]&&l.const.ty !=t.const.ty):=by
  rw[hQ,if_pos w,aR]
 have B:j9 a (-1) (-1)=iq d a:=by
  rw[Hz,nN,if_pos w,zZ,if_neg (by omega)]
 have d3:∀M:List Obj,bT 4 (eS ab cT a.af) (I 0) M=aa (.aH ab (cT l) 0):=λM=>by rw[aR];exact aF (x:=[l,t]) (U:=0) (by simp) rfl
 have E:∀M:List Obj,bT 4 (eS ab cT a.af) (I 1) M=aa (.aH ab (cT t) 0):=λM=>by rw[aR];exact aF (x:=[l,t]) (U:=1) (by simp) rfl
 have ca:∀l:aJ,g (cT l) 0=.str l.aE:=λ_=>rfl;have cc:∀l:aJ,g (cT l) 1=I l.const.ty:=λ_=>rfl;simp only[d3,E,O,lL,xO,mf,true_and,ca,cc,gT,cx,bw,G];refine aW (λn=>aW (λX=>?_) (λX=>?_)) (λn=>?_);rw[n,X]at aA;refine b (λp=>?_) (λp=>?_);exact .bad 72 m (by omega) (by grind);exact .ok m (by grind) B;rw[n,X]at aA;simp only[c3,eZ,if_false];exact .ok m (by grind) B;rw[n]at aA;simp only[c3,eZ,if_false]
 exact .ok m (by grind) B;have w:a.ax≠5:=by simpa using h
 have o:hQ d a=(match d.Q[(eJ d a.au).toNat]? with
  |ae=>ab
  |aa f=>y (0<=eJ d a.au)&&nM f a.af&& !(y (f.of<0)&&(!(a.bind==[])||(a.ax==3||a.ax==4)))&&
   (!(a.ax==3||a.ax==4)||(y (0<=fw d f a.aj)&&(match d.aw[f.of.toNat]? with|aa a2=>fw d f a.aj !=eB a2 []|ae=>ab)))):=by
  rw[hQ,if_neg w]<;>rfl
 have L:=ai _ m.tail;let⟨fn,br,bm,a5,a9⟩:=L.WT;simp only[L.nc,L.ao,O,e,bm];apply e4 _ (Ed br a.au) (.ck (Ec a5) (.ck (.str _ _) (.nil _))) (.int _ _);have d0:pk br a.au=eJ d a.au:=a9 _;rw[d0];refine tu s m (by simp[ef]) rfl rfl λa3 j=>?_;have j:Holds a3 ((U,.arr N 9 (b0.set z (ef (j9 a (eJ d a.au) (-1)))))::k):=j;simp only[p9 j,mY j,ss s j,O,e,ef,j9,de,eF,A];clear L bm a5 a9 m
 refine b (λn=>?_) (λn=>?_);have n:eJ d a.au<0:=by simpa using n
 refine .bad 70 j (by omega) ?_;grind;have n:0<=eJ d a.au:=by simpa using n
 let⟨r,R,S⟩:∃r:Nat,eJ d a.au=r/\r<Z d.Q:=by
  have:=Ad (λa2:cO=>a2.au==a.au) d.Q;grind[eJ]
 have B:∀a0,a0=(if a.ax=3\/a.ax=4 then fw d d.Q[r] a.aj else -1)->j9 a (r:Int) a0=iq d a:=by
  rintro a0 rfl;rw[Hz,nN,if_neg w,R,zZ,R];simp only[eN,bu S]
 rw[R]at o n j;simp only[eN,bu S]at o;rw[R];have P:=ai _ j.tail;let⟨f0,bi,a4⟩:=P.s7;let⟨id,gi,E,T,V⟩:=a4.at S;simp only[P.nc,P.ao,O,e,fW,bi,E,mi T V (jg _ _),WU,rS,rT,rU,s9,rV,rW,rX];clear E T V a4 bi;generalize d1:d.Q[r]=f at*;have es:f.of<Z d.aw:=ds f (d1▸bp S);have ci:y ((0:Int)<=(r:Int))=true:=by simp
 rw[ci,cZ]at o;let⟨W,c1,c2⟩:=WJ (T:=false) (F:=false) f a.af d2;have cs:(AV.agg [.str f.au,eS ab cI f.aZ,.str f.aN,I f.of,.bool f.eo,I f.fx,I f.ba])=.agg (bO ab f):=rfl;rw[cs];apply c c1;simp only[cx,O];refine b (λp=>?_) (λp=>?_);have p:W≠0:=by simpa using p
 refine .bad W j p ?_;grind;have p:W=0:=by simpa using p
 rw[c2.1 p,cZ]at o;have co:(a.ax==3||a.ax==4)= !(a.aj==[]):=by
  rw[iQ];simpa using ac
 rw[co]at o;simp only[A,jD,O];refine yr (M:=a3) (y (f.of<0)&&(!(a.bind==[])|| !(a.aj==[]))) [.str f.au,eS ab cI f.aZ,.str f.aN,I f.of,.bool f.eo,I f.fx,I f.ba] (λex el=>?_) ?_;refine aW (λu=>h7 (λY=>?_) (λY=>?_)) (λu=>?_);grind;grind;grind;simp only[G,i];refine b (λu=>.bad 72 j (by omega) (by grind)) (λu=>?_);rw[u,q6,cZ,E3]at o;rw[bw];simp only[p9 j,mY j,ss s j,O,e,ef,j9,de,eF,jD]
 refine dw (λv=>?_) (λv=>?_);have eq:0<=f.of:=by
  rw[v]at u;simp at u;omega
 have ak:a.ax=3\/a.ax=4:=ac.2 (by simpa using v);let⟨H,am⟩:∃H:Nat,f.of=H:=⟨f.of.toNat,by omega⟩;have x:H<Z d.aw:=by omega
 have dl:fw d f a.aj=bV d.aw[H].az a.aj:=by
  rw[fw,am,eN,bu x]
 rw[v,am]at o;simp only[eN,bu x,l3]at o;rw[am];apply e4 _ (WN d.aw H x a.aj (be.aN _ (bp x))) (.ck P.ow (.ck (.int _ _ _) (.ck (.str _ _) (.nil _)))) (.int _ _);rw[<-dl];refine tu s j (by simp[ef]) rfl rfl λbD q=>?_;have q:Holds bD ((U,.arr N 9 (b0.set z (ef (j9 a r (fw d f a.aj)))))::k):=q;simp only[p9 q,mY q,ss s q,O,e,ef,j9,de,eF,A];refine b (λF=>?_) (λF=>?_)
 have d9:y (0<=fw d f a.aj)=false:=by simp at F⊢;omega
 exact .bad 70 q (by omega) (by grind);have F:y (0<=fw d f a.aj)=true:=by simpa using F
 rw[F,cZ]at o;have ah:=ai _ q.tail;let⟨fd,d4,ce⟩:=ah.aN;let⟨id,gi,E,T,V⟩:=ce.at x;simp only[ah.nc,ah.ao,O,fW,d4,E,mi T V (kH _ _)];apply c (Hb _ (be.aN _ (bp x)));simp only[di,O];refine b (λcl=>?_) (λcl=>?_);exact .bad 72 q (by omega) (by grind);exact .ok q (by grind) (B _ (by rw[if_pos ak]));have ak:¬(a.ax=3\/a.ax=4):=λh=>ac.1 h (by simpa using v);rw[v]at o
 exact .ok j (by grind) (B _ (by rw[if_neg ak]))
def vN(a:List d):hx:=a.zipIdx
theorem Mm(a:List d):(vN a).map Prod.fst=a:=by simp[vN]
theorem WV(a:List d):Z (vN a)=Z a:=by simp[vN]
theorem alm(a:List d)(b:d):vN a++[(b,Z a)]=vN (a++[b]):=by grind[vN]
theorem aln(c:p.Nodup)(e:U<Z p):pk (vN p) p[U]=U:=by
 unfold pk;rcases h:(vN p).find? (λx=>x.1==p[U])with _|x;rw[E5]at h;have:=h (p[U],U) (by grind[vN]);simp at this;have a:=I6 h;have b:=arT h;simp_all[vN,List.mem_zipIdx_iff_getElem?,fM,beq_iff_eq,List.getElem_inj]
def pc(a:Nat->Int):List AV:=(ay 36).map λb=>I (a b)
theorem BX(a:Nat->Int):Z (pc a)=36:=by simp[pc]
theorem WW(a:Nat->Int)(h:U<36):(pc a)[U]?=aa (I (a U)):=by simp[pc,h]
theorem WX(a:Nat->Int)(b:Int):(pc a).set U (I b)=pc (bN a U b):=by
 refine yR λc=>?_;grind[bN,pc]
theorem alo(b:Nat->Nat)(c d:Nat):(λa=>((bN b c d a:Nat):Int))=bN (λa=>(b a:Int)) c (d:Int):=by
 grind[bN]
def jU(b:Nat)(aC:Nat->Nat)(c:Nat->Int):List AV:=.b7 b::(pc (λa=>(aC a:Int))++pc c)
def ie(a c:Nat)(e:List d)(aC:Nat->Nat)(f:Nat->Int)(b:aL):aL:=(c,.arr 0 73 [jU a aC f])::(a,cf (vN e))::b
theorem Mn(a:Nat)(aC:Nat->Nat)(b:Nat->Int):Z (jU a aC b)=73:=by simp[jU,BX]
theorem clC_1(a:Nat)(aC:Nat->Nat)(b:Nat->Int)(h:U<36):(jU a aC b)[1+U]?=aa (I (aC U)):=by
 grind[jU,Nat.add_comm,List.getElem?_cons_succ,List.getElem?_append_left,BX,WW]
theorem clC_2(b:Nat)(aC:Nat->Nat)(a:Nat->Int)(h:U<36):(jU b aC a)[37+U]?=aa (I (a U)):=by
 grind[jU,List.getElem?_cons_succ,List.getElem?_append_right,BX,Nat.add_sub_cancel_left,WW]
theorem alp(a:Nat)(aC:Nat->Nat)(b:Nat->Int)(c:Nat)(h:U<36):(jU a aC b).set (1+U) (I c)=jU a (bN aC U c) b:=by
 simp_all[jU,Nat.add_comm,On,arQ,BX,WX,alo]
theorem alq(a:Nat)(aC:Nat->Nat)(b:Nat->Int)(c:Int):(jU a aC b).set (37+U) (I c)=jU a aC (bN b U c):=by
 rw[jU,show 37+U=(36+U)+1 by omega,On,Oo _ _ (by rw[BX];omega),BX,Nat.add_sub_cancel_left,WX,jU]
section
variable{H:List Obj}{m K:Nat}{V:List d}{aC:Nat->Nat}{ty:Nat->Int}{F:aL}
theorem Af(h:Holds H (ie m K V aC ty F)):H[K]?=aa (.arr 0 73 [jU m aC ty]):=h.get (by simp[ie])
theorem BY(h:Holds H (ie m K V aC ty F)):H[m]?=aa (cf (vN V)):=h.get (by simp[ie])
theorem qa(h:Holds H (ie m K V aC ty F)):Holds H F:=h.tail.tail
theorem uz(h:Holds H (ie m K V aC ty F))(off:Nat):iH (.ptr K 0 0 off) H=aa (.ptr K 0 0 off):=hT (Af h)
theorem tv(h:Holds H (ie m K V aC ty F))(off a:Nat):dD a (.ptr K 0 0 off) H=aa (.ptr K 0 0 (off+a)):=eD (Af h)
theorem cl_0(h:Holds H (ie m K V aC ty F)):aQ 1 ab (.ptr K 0 0 0) H=aa (.b7 m):=gx (Af h) rfl
theorem cl_1(h:Holds H (ie m K V aC ty F))(a:U<36):aQ 1 ab (.ptr K 0 0 (1+U)) H=aa (I (aC U)):=gx (Af h) (clC_1 m aC ty a)
theorem cl_2(h:Holds H (ie m K V aC ty F))(a:U<36):aQ 1 ab (.ptr K 0 0 (37+U)) H=aa (I (ty U)):=gx (Af h) (clC_2 m aC ty a)
theorem w6(h:Holds H (ie m K V aC ty F)){off:Nat}(a:U<36):pN 36 1 (.ptr K 0 0 off) (I U) H=aa (.ptr K 0 0 (off+U)):=by
 simp only[pN,AV.pl];grind[tv]
theorem WY(h:Holds H (ie m K V aC ty F))(a:Nat)(c:U<36)(d:∀b,Holds b (ie m K V (bN aC U a) ty F)->iz b):bd (dp 1 (.ptr K 0 0 (1+U)) (I a) H) iz:=by
 refine aI (lE (Af h) (Mn _ _ _) (by omega) rfl rfl) (d _ ?_);rw[alp m aC ty a c];exact Holds.set h _
theorem WZ(h:Holds H (ie m K V aC ty F))(a:Int)(d:U<36)(c:∀b,Holds b (ie m K V aC (bN ty U a) F)->iz b):bd (dp 1 (.ptr K 0 0 (37+U)) (I a) H) iz:=by
 refine aI (lE (Af h) (Mn _ _ _) (by omega) rfl rfl) (c _ ?_);rw[alq m aC ty a];exact Holds.set h _
end
theorem alr{id:Nat}(a:d)(h:M[id]?=aa (cf iA))(b:(iA.map Prod.fst).contains a=ab):A2 ⟨ab,1,[1]⟩ (I 0) (.b7 id) (.str a) M=aa (.aB [I 0,I (Z iA)],M.set id (cf (iA++[(a,0)]))):=by
 have c:(⟨ab,1,[1]⟩:KD)=rZ:=rfl;rw[c];simp only[A2,h,cf,zl,tc,oD,if_true];rw[HE,td];have:(iA.map Prod.fst).findIdx? (a==·)=none:=by
  rw[yT];intro f e;rw[beq_eq_false_iff_ne];rintro rfl;simp only[E7,decide_eq_false_iff_not]at b;exact b e
 grind[qZ,uy,iU,Function.comp_def]
theorem als{id:Nat}(a:d)(b:Nat)(h:M[id]?=aa (cf (iA++[(a,0)]))):A3 (.b7 id) (I (Z iA)) (I b) M=aa (M.set id (cf (iA++[(a,b)]))):=by
 have c:(Z iA:Int)=cu (Z iA):=rfl;rw[c];simp only[A3,h,cf];rw[if_pos (by simp[qZ])];have e:qZ (iA++[(a,0)])=qZ (iA++[(a,b)]):=by simp[qZ]
 have f:(uy (iA++[(a,0)])).set (Z iA) (I b).pl=uy (iA++[(a,b)]):=by
  have:Z (iA.map λg=>I (g.2:Int))=Z iA:=by simp
  rw[uy,uy,hE,hE,<-this,Oo _ _ (c5 _),Ot]<;>rfl
 rw[e,f]
theorem HG{aC:Nat->Nat}(a:d)(V:p.Nodup)(E:Z p<=36)(A:∀b,b<Z p->aC b<Z p):
 (∀b j r,∀h:b<Z p,p[b]=a->Rt aC j b r->∀c,Holds c (ie U N p aC dt k)->C 318 [.ptr N 0 0 0,.str a] c (I (r:Int)) c)/\
 (a∉p->Z p<36->∀c,Holds c (ie U N p aC dt k)->HR C 318 [.ptr N 0 0 0,.str a] c (λB x=>B=I (Z p:Int)/\Holds x (ie U N (p++[a]) (bN aC (Z p) (Z p)) dt k))):=by
 have key:∀(Q:AV->List Obj->Prop)(p:List d)(aC:Nat->Nat)(c:List Obj),Holds c (ie U N p aC dt k)->Z p<=36->(∀b,b<Z p->aC b<Z p)->∀j b r,b<Z p->Rt aC j b r->Q (I (r:Int)) c->
  jA (λt i af=>bd (iH (.ptr N 0 0 0) i) λaj=>bd (dD 1 aj i) λak=>bd (pN 36 1 ak (g t 0) i) λam=>bd (aQ 1 ab am i) λau=>bd (aT .s .neq au (g t 0)) λax=>
   ez ax (bd (iH (.ptr N 0 0 0) i) λaz=>bd (dD 1 az i) λaA=>bd (pN 36 1 aA (g t 0) i) λaE=>bd (aQ 1 ab aE i) λaR=>af [aR] i) (Q (AV.pl (g t 0)) i)) [I (b:Int)] c:=by
  intro Q p aC c f E A j b r l o a2;apply bG (λa=>[I (a.2:Int)]) (λ_=>c) (λa=>a.1) (λa=>a.2<Z p/\Rt aC a.1 a.2 r) (j,b) ⟨l,o⟩;rintro⟨j,b⟩ ⟨l,o⟩ a0 M;simp only at l o M⊢;have K:b<36:=by omega
  simp only[uz f,tv f,O,e,G,w6 f K,cl_1 f K,cx];cases o with
  |stop _ u=>
   simp_all
  |up j _ _ a4 Y=>
   have:((aC b:Int) !=(b:Int))=true:=by rw[bne_iff_ne];omega
   rw[this];simp only[c3,if_true];exact M (j,aC b) ⟨A b l,Y⟩ (by simp)
 refine⟨λb j r l u o c f=>?_,λX J c f=>?_⟩;refine KE.hr ?_;let⟨ac,n,D⟩:=Eb (E:=.b7 U) (iA:=vN p) (M:=c) a (by simp[mc,BY f,cf]);have q:((vN p).map Prod.fst).contains a=true:=by rw[Mm];simp[<-u]
 rw[D q,<-u,aln V l]at n;rw[u,q]at n;simp only[uz f,tv f,O,e,cl_0 f,n,fH,de,eF,bw,bK,sN,c3,eZ,if_false,G,fW];exact key (λai R=>ai=I (r:Int)/\R=c) p aC c f E A j b r l o ⟨rfl,rfl⟩
 ·refine KE.hq ?_
  let⟨ac,n,D⟩:=Eb (E:=.b7 U) (iA:=vN p) (M:=c) a (by simp[mc,BY f,cf]);have q:((vN p).map Prod.fst).contains a=false:=by rw[Mm];simpa using X
  rw[q]at n;have W:gk .map (.b7 U) c=aa (I (Z p)):=by simp[gk,BY f,cf,qZ,WV]
  simp only[uz f,tv f,O,e,cl_0 f,n,fH,de,eF,bw,bK,q6,c3,if_true,G,fW,W];apply aY (alr a (BY f) q);have L:∀(w:List Obj)(P v:Obj),Holds w ((N,.arr 0 73 [jU U aC dt])::(U,P)::k)->Holds (w.set U v) ((N,.arr 0 73 [jU U aC dt])::(U,v)::k):=by
   intro w P v T;have:=Holds.set (T.perm (List.Perm.swap _ _ _)) v;exact this.perm (List.Perm.swap _ _ _)
  have z:=L c _ (cf (vN p++[(a,0)])) f;generalize c.set U (cf (vN p++[(a,0)]))=y at*;have H:y[N]?=aa (.arr 0 73 [jU U aC dt]):=z.get (by simp);simp only[hT H,eD H,O,e,mf,true_and,eF,de];apply aI (als a (Z p) (z.get (by simp)));have m:=L y _ (cf (vN p++[(a,Z p)])) z;rw[alm]at m⊢;generalize y.set U (cf (vN (p++[a])))=aZ at*;have m:=m;simp only[uz m,tv m,O,mf,true_and,e,w6 m J]
  refine WY m (Z p) J λS F=>?_;have a3:Z (p++[a])=Z p+1:=by simp
  refine key (λB x=>B=I (Z p:Int)/\Holds x (ie U N (p++[a]) (bN aC (Z p) (Z p)) dt k)) (p++[a]) (bN aC (Z p) (Z p)) S F (by omega) (λb l=>?_) 0 (Z p) (Z p) (by omega) (.stop _ (by simp[bN])) ⟨rfl,F⟩;grind[bN]
end AM
end Go
