/- The law DeriveRoundsUptoCardSaid: part 4 of 14 of the proof. No condition. -/
import Derived.Test.YtegalmbcaggfiaaGreatDoorXc
set_option maxRecDepth 100000
open List renaming length->Z,range->ay,filterMap_append->aa6,find?_cons->ar3,find?_eq_some_iff_getElem->aa0,length_zip->ar6,map_id'->Jf
open Option renaming some->aa,none->ae,bind_some->CG
open Bool renaming true->ad,false->ab
open Decidable renaming decide->y
open Int renaming ofNat->b4
open BitVec renaming eq_of_getLsbD_eq->aaY,getLsbD_and->Fg,getLsbD_not->arY,getLsbD_one->arX,getLsbD_or->arZ,getLsbD_ushiftRight->arW
open Nat renaming div_eq_of_lt->arU,le_of_lt->aaZ,le_total->arS,min_eq_right->arT,pow_le_pow_right->arV
open Option.some renaming inj->zc
namespace Go
namespace AM
open Go.Law
def mn(d:Nat)(c:cA)(a b:Nat):Bool:=(a !=b&&c a b&&c b a)||y (qW d c (λe=>y ((e:Int)∈[(a:Int),(b:Int)]))<0)
def eY(a:bQ):Int:=
 if p6 a≠0 then p6 a else
 if((ay (Z a.az)).any λb=>(ay (Z a.az)).any (mn (Z a.az) (dB a) b))=ad then 30 else
 if qW (Z a.az) (dB a) (λ_=>ab)<0 then 30 else 0
def vr(a:bQ)(b c:Int):Bool:=eY a==0&&eC a b&&eC a c&&dB a b.toNat c.toNat
def eD(a:bQ)(b:List Int):Int:=if eY a≠0 then -1 else if b.all (eC a)=ab then -1 else qW (Z a.az) (dB a) λc=>y ((c:Int)∈b)
def ot(a:bQ)(b:List Int):Bool:=eY a==0&&(Z b:Int)==Z a.az&&b.all (eC a)&&
 (ay (Z a.az)).all λc=>(ay (Z a.az)).all λd=> !dB a c d||dB a (b.getD c 0).toNat (b.getD d 0).toNat
variable{dS:bQ}
theorem zT(h:p6 dS=0):(0<Z dS.az/\Z dS.az<=8)/\dS.eK.all (p5 dS)=true:=by
 grind[p6]
theorem BQ(h:eY dS=0):p6 dS=0:=by
 grind[eY]
theorem Hh(a b:Int):fS 1 [(I 0)] 2 [(0,I a),(1,I b)]=aa (eS ab cI [a,b]):=rfl
variable{T:Bool}
theorem Lu(g:bQ)(p:lP g):PR C 194 [.agg (bp T g)] (I (eY g)):=by
 refine aex.pr ?_;simp only[mQ,O,jj];refine c (ai6 g p) ?_;simp only[cv,O];refine b (by simp_all[eY]) (λh=>?_);have o:p6 g=0:=by simpa using h
 obtain⟨u,t⟩:=zT o;rw[eY,if_neg (by simp[o])];refine c (Lt g u t p) ?_;simp only[BM,O];generalize Z g.az=f at*;generalize dB g=j at*;refine eB (U:=f) (c:=λd=>[I 0,I d]) (λd=>∀n,n<d->∀T,T<f->mn f j n T=ab) (by simp) rfl (λd l w q J=>?_) (λw q=>?_);simp only[i,G,A,O,a,l,decide_true];refine a8 ?_
 refine eB (U:=f) (c:=λe=>[I 0,I e]) (λe=>∀T,T<e->mn f j d T=ab) (by simp) rfl (λe m x r L=>?_) (λx r=>?_);simp only[i,G,A,O,a,m,decide_true,wW l,wW m,ur l,ur m,aJ,BN,zD,cv,Hh];refine a8 (dA (M:=[]) (mn f j d e) (λy K=>?_) ?_);have qB:(d !=e&&j d e&&j e d)=ab->cp C 208 [I f,eS ab cI [(d:Int),(e:Int)]] [] λz=>cp C 206 [eM f j,z] [] λB=>bd (aT .s .lss B (I 0)) λD=>y [D] []:=by
  intro k;refine c (Vk [(d:Int),(e:Int)] (by omega) (by simp[Sm]) (by simp;omega)) ?_;refine c (Lr (by omega) _) ?_;simp only[A,O];exact(by grind[mn])
 have v:((d:Int) !=(e:Int))=(d !=e):=by
  rw[iA];simp;omega
 rw[v];exact aV (λF=>aV (λH=>dH (by grind) (by grind[mn])) (by grind)) (by grind);simp only[G];refine b (λk=>jS ?_) (λk=>?_);grind;rw[aZ,O];grind;simp only[i,G,A,O,a,cn,decide_false];refine bw ?_;rw[aZ,O];grind;simp only[i,G,A,O,a,cn,decide_false];rw[if_neg];refine bw (aY (se (by omega) (by omega)) ?_);rw[BP];refine eV _ (Lr (by omega) λ_=>ab) (.ck eu (.ck (Vj rfl) (.nil _))) (.int _ _) ?_
 simp only[A,O];refine b (by simp) (by simp);grind
variable{f:Int}
theorem mo(h:eC dS f=ad):∃a:Nat,f=a/\a<Z dS.az:=by
 simp only[eC,ba,decide_eq_true_eq]at h;exact⟨f.toNat,by omega,by omega⟩
variable{F:Bool}
theorem Vn(d:bQ)(f:List Int)(o:lP d)(m:Sm f):PR C 149 [.agg (bp T d),eS F cI f] (I (eD d f)):=by
 apply afV.pr;simp only[mQ,O,jj,aX,bh,aJ,pa,e];apply c (Lu d o);simp only[cv,O];refine b (by simp_all[eD]) (λh=>?_);have l:eY d=0:=by simpa using h
 rw[eD,if_neg (by simp[l])];let⟨r,q⟩:=zT (BQ l);refine eB (U:=Z f) (c:=λj=>[I 0,I j]) (λj=>(f.take j).all (eC d)=ad) (by simp) rfl (λj g n p s=>?_) (λn p=>?_);simp only[i,G,A,O,a,g,decide_true,aE g (jh _),aJ,lN];refine a8 (c (G1 d _) ?_);simp only[bI,O];refine dw (λk=>jS (by rw[if_pos (yr g k)])) (λk=>?_);rw[m.inc g,O];grind[oi,eC];rw[dY]at n;simp only[i,G,A,O,a,cn,decide_false]
 rw[if_neg (by grind)];refine bw (c (Lt d r q o) (c (Vk f (by omega) m λv t=>?_) (c (Lr (by omega) _) (jS rfl))));grind[eC]
theorem Vo(a:bQ)(b d:Int)(e:lP a):PR C 89 [.agg (bp T a),I b,I d] (I (eD a [b,d])):=by
 apply age.pr;simp only[mQ,O,jj,Hh];exact c (Vn a [b,d] e (by simp[Sm])) (by simp)
theorem BO(a:bQ)(b:lP a):PR C 88 [.agg (bp T a)] (I (eD a [])):=by
 apply afn.pr;simp only[mQ,O,jj];refine⟨.dm,[.agg (bp T a),eS ab cI []],I (eD a []),by decide,?_,Vn a [] b (by simp[Sm]),by simp,by simp⟩;exact .ck eu (.ck (.aq _ _) (.nil _))
theorem ai7(f:bQ)(b:List Int)(E:lP f)(t:Sm b):PR C 252 [.agg (bp T f),eS F cI b] (.bool (ot f b)):=by
 refine afD.pr ?_;simp only[mQ,O,jj,aX,bh,aJ,pa,e,cv];refine dA (M:=[]) (!(eY f==0&&(Z b:Int)==Z f.az)) (λm r=>c (Lu f E) ?_) ?_;simp only[cv,O];exact ea (by grind) (by grind);simp only[G];refine dw (by simp_all[ot]) (λh=>?_);have R:ot f b=(b.all (eC f)&&(ay (Z f.az)).all λg=>(ay (Z f.az)).all λT=> !dB f g T||dB f (b.getD g 0).toNat (b.getD T 0).toNat):=by
  rw[ot,h]<;>rfl
 rw[R];simp only[ba,beq_iff_eq]at h;obtain⟨Q,D⟩:=h;have D:Z b=Z f.az:=by omega
 obtain⟨X,S⟩:=zT (BQ Q);refine c (Lt f X S E) ?_;refine eB (U:=Z b) (c:=λd=>[ff,I d]) (λd=>(b.take d).all (eC f)=ad) (by simp) rfl (λd k p q r=>?_) (λp q=>?_);simp only[i,G,A,O,a,k,decide_true,aE k (jh _),aJ,lN];refine a8 (c (G1 f _) ?_);simp only[bI,O];refine dw (by grind[bK,yr,eC]) (λn=>?_);rw[t.inc k,O];grind[oi,eC];rw[dY]at p;simp only[i,G,A,O,a,cn,decide_false];rw[p,c3,<-D]
 have B:=λah af=>mo (eQ.1 p ah af);refine bw ?_;generalize ak:dB f=l at*;have fail:∀g j,g<Z b->j<Z b->(!l g j||l (b.getD g 0).toNat (b.getD j 0).toNat)=ab->((ay (Z b)).all λg=>(ay (Z b)).all λT=> !l g T||l (b.getD g 0).toNat (b.getD T 0).toNat)=false:=by
  intro g j y z U;rw[<-vY,eQ];intro V;have:=V g (by simpa using y);rw[eQ]at this;have:=this j (by simpa using z);rw[U]at this;cases this
 refine eB (U:=Z b) (c:=λd=>[ff,I d]) (λd=>∀g,g<d->∀j,j<Z b->(!l g j||l (b.getD g 0).toNat (b.getD j 0).toNat)=ad) (by simp) rfl (λd k Y q r=>?_) (λY q=>?_);simp only[i,G,A,O,a,k,decide_true];refine a8 ?_;refine eB (U:=Z b) (c:=λd=>[ff,I d]) (λm=>∀j,j<m->(!l d j||l (b.getD d 0).toNat (b.getD j 0).toNat)=ad) (by simp) rfl (λm o ac w W=>?_) (λac w=>?_);obtain⟨u,H,J⟩:=B b[d] (bn k)
 obtain⟨v,K,L⟩:=B b[m] (bn o);have J:u<Z b:=by omega
 have L:v<Z b:=by omega
 have gi:b.getD d 0=u:=by rw[oK,bq k];simpa using H
 have x:b.getD m 0=v:=by rw[oK,bq o];simpa using K
 have step:(!l d m||l u v)=ad->bd (aT .s .add (I m) (I 1)) λai=>w [ff,ai] []:=by
  intro n;rw[t.inc o,O];refine W λj z=>?_;by_cases N:j=m;subst N;rw[gi,x];simpa using n;grind
 simp only[i,G,A,O,a,o,decide_true,wW k,aJ,BN,ur o,zD,aE k (jh _),aE o (jh _),lN,H,K,wW J,ur L,bI,bz];refine a8 (aV (λn=>dw (λP=>bK (fail d m k o ?_)) (by grind)) (by grind[bw]));rw[gi,x,n];simpa using P;simp only[i,G,A,O,a,cn,decide_false];refine bw ?_;rw[t.inc k,O];refine r λg y=>?_;grind;simp only[i,G,A,O,a,cn,decide_false];refine bw (jk ?_);grind
def W(a:BitVec 8):AV:=.int .u8 (a.toNat:Int)
@[simp] theorem auJ(a:BitVec 8):Im (W a):=.int _ _
@[simp] theorem auK(a:BitVec 8):(W a).pl=W a:=rfl
@[simp] theorem auL(a:BitVec 8):(W a).bU=true:=rfl
@[simp] theorem auM(a:BitVec 8):(W a).cells=[W a]:=rfl
theorem w0:AV.int .u8 0=W 0#8:=rfl
theorem w1:AV.int .u8 1=W 1#8:=rfl
theorem Lv(a:BitVec 8):IntKind.u8.wrap (a.toNat:Int)=(a.toNat:Int):=wraps_u8 _ (by omega) (by omega)
theorem Lw(a:BitVec 8):BitVec.ofInt IntKind.u8.bits (a.toNat:Int)=a:=by
 show BitVec.ofInt 8 (a.toNat:Int)=a;grind
theorem BR(bk:BK)(a b:BitVec 8):aT bk .and (W a) (W b)=aa (W (a&&&b)):=by
 simp only[aT,W,if_true,kp,Lw];exact congrArg (λc=>aa (AV.int .u8 c)) (Lv (a&&&b))
theorem Vp(bk:BK)(a b:BitVec 8):aT bk .or (W a) (W b)=aa (W (a|||b)):=by
 simp only[aT,W,if_true,kp,Lw];exact congrArg (λc=>aa (AV.int .u8 c)) (Lv (a|||b))
theorem ai8(bk:BK)(a b:BitVec 8):aT bk .andNot (W a) (W b)=aa (W (a&&&~~~b)):=by
 simp only[aT,W,if_true,kp,Lw];exact congrArg (λc=>aa (AV.int .u8 c)) (Lv (a&&&~~~b))
theorem Lx(bk:BK)(a b:BitVec 8):aT bk .sub (W a) (W b)=aa (W (a -b)):=by
 simp only[aT,W,if_true,kp]
 congr 2
 rw[IntKind.wrap_u8,BitVec.toNat_sub];omega
theorem Hi(bk:BK)(a:BitVec 8)(b:Nat):aT bk .shl (W a) (I (b:Int))=aa (W (a<<<b)):=by
 simp only[aT,W];rw[if_neg (by omega)]
 congr 2
 rw[IntKind.wrap_u8,BitVec.toNat_shiftLeft,Nat.shiftLeft_eq];simp only[eR];show(a.toNat:Int)*2^(min b 8)%256=((a.toNat*2^b%2^8:Nat):Int);rcases arS b 8 with h|h;grind;rw[arT h];obtain⟨c,rfl⟩:=Nat.exists_eq_add_of_le h;have d:a.toNat*2^(8+c)%2^8=0:=by
  rw[Nat.pow_add,<-Nat.mul_assoc,Nat.mul_right_comm];exact Nat.mul_mod_left _ _
 omega
theorem D1(bk:BK)(a:BitVec 8)(b:Nat):aT bk .shr (W a) (I (b:Int))=aa (W (a>>>b)):=by
 simp only[aT,W];rw[if_neg (by omega)]
 congr 2
 simp only[eR,BitVec.toNat_ushiftRight,Nat.shiftRight_eq_div_pow];show(a.toNat:Int).fdiv (2^(min b 8))=((a.toNat/2^b:Nat):Int);rcases arS b 8 with h|h;grind;rw[arT h];have c:a.toNat/2^b=0:=arU (jM a.isLt (arV (by omega) h));have d:a.toNat/256=0:=arU a.isLt;grind
theorem BS(bk:BK)(a b:BitVec 8):aT bk .eql (W a) (W b)=aa (.bool (a==b)):=by
 simp only[aT,W,if_true,kp]
 congr 2
 grind[BitVec.eq_of_toNat_eq]
theorem ai9(bk:BK)(a b:BitVec 8):aT bk .neq (W a) (W b)=aa (.bool (!(a==b))):=by
 have:=BS bk a b;simp only[aT,W,if_true,kp,e7,AV.bool.injEq]at this⊢;grind
theorem D2(a:BitVec 8)(b:Nat):(a>>>b&&&1#8==1#8)=a.getLsbD b:=by
 have h:a>>>b&&&1#8=if a.getLsbD b=ad then 1#8 else 0#8:=by
  apply aaY;intro d e;rw[Fg,arW];by_cases c:d=0;subst c;cases a.getLsbD b<;>simp
  have:(1#8).getLsbD d=false:=by
   rw[arX];simp[c]
  rw[this,CI];cases a.getLsbD b<;>simp[this]
 rw[h];cases a.getLsbD b<;>simp
theorem aja(a:BitVec 8)(b:Nat):(a>>>b&&&1#8==0#8)= !a.getLsbD b:=by
 have h:a>>>b&&&1#8=if a.getLsbD b=ad then 1#8 else 0#8:=by
  have:=D2 a b;rcases d:a.getLsbD b with _|_;apply aaY;intro e f;rw[Fg,arW];by_cases c:e=0;subst c;simp[d];have:(1#8).getLsbD e=false:=by
   rw[arX];simp[c]
  rw[this,CI];simp;rw[d]at this;simpa using this
 rw[h];cases a.getLsbD b<;>simp
def dC(a:Nat->BitVec 8):List AV:=[W (a 0),W (a 1),W (a 2),W (a 3),W (a 4),W (a 5),W (a 6),W (a 7)]
@[simp] theorem auN(a:Nat->BitVec 8):bT (dC a):=by simp[dC]
variable{U:Nat}
theorem Vq(a:Nat->BitVec 8)(h:U<8):(dC a)[U]?=aa (W (a U)):=by
 match U,h with
 |0,_=>rfl
 |1,_=>rfl
 |2,_=>rfl
 |3,_=>rfl
 |4,_=>rfl
 |5,_=>rfl
 |6,_=>rfl
 |7,_=>rfl
def wY(c:Nat->BitVec 8)(b:Nat)(d:BitVec 8):Nat->BitVec 8:=λa=>if a=b then d else c a
theorem ajb(a:Nat->BitVec 8)(b:BitVec 8)(h:U<8):e3 (dC a) U [W b]=dC (wY a U b):=by
 match U,h with
 |0,_=>rfl
 |1,_=>rfl
 |2,_=>rfl
 |3,_=>rfl
 |4,_=>rfl
 |5,_=>rfl
 |6,_=>rfl
 |7,_=>rfl
def si(c:Nat)(e:Nat->BitVec 8)(d:cA):Prop:=∀a,a<c->∀b,(e a).getLsbD b=(y (b<c)&&d a b)
def zU(d:Nat)(b:BitVec 8)(c:Nat->Bool):Prop:=∀a,b.getLsbD a=(y (a<d)&&c a)
variable{cj:Nat -> Bool}
theorem ajc{d T:BitVec 8}{h:Nat->Bool}(c:zU U d cj)(e:zU U T h):(d&&&~~~T==0#8)=(ay U).all λa=> !cj a||h a:=by
 rw[iA,beq_iff_eq,eQ];constructor;intro f a b;have b:a<U:=by simpa using b
 have:=congrArg (λg=>BitVec.getLsbD g a) f;simp only[Fg,arY,c a,e a,b,decide_true,c3]at this;rcases l:cj a with _|_;rfl;by_cases j:a<8;grind;have i:=c a;grind;intro k;apply aaY;intro a b;simp only[Fg,arY,c a,e a];grind
variable{bF:List AV}{M:List Obj}
theorem ajd(h:U<8):pT 8 1 (.aH T bF 0) (I U) M=aa (.aH T bF U):=by
 rw[Vi h];simp
variable{cZ:cA}
theorem Ly(e:Nat->BitVec 8)(d:BitVec 8)(u:U<=8)(p:si U e cZ)(l:zU U d cj):PR C 226 [.agg (dC e),W d,I U] (I (po U cZ cj)):=by
 apply afb.pr;apply aI (uc rfl rfl);refine eB (U:=U) (c:=λc=>[I 0,I c]) (λc=>∀n,n<c->lT U cZ cj n=ab) (by simp) rfl (λc g m k t=>?_) (λm k=>?_);have j:lT U cZ cj c=(d.getLsbD c&&(d&&&~~~(e c)==0#8)):=by
  rw[lT,ajc l (λo=>p c g o),l c];simp[g]
 simp only[i,G,A,O,a,g,decide_true,w1,w0,D1,BR,BS,D2,bz,ajd (show c<8 by omega),aJ,Vq e (show c<8 by omega),ai8];have yes:lT U cZ cj c=ad->aM [] .res (AV.pl (I c)) (I (po U cZ cj)):=by grind[jS,Hf]
 have no:lT U cZ cj c=ab->bd (aT .s .add (I c) (I 1)) λq=>k [I 0,q] []:=λh=>by
  rw[aZ,O];grind
 exact a8 (aV (λh=>b (λf=>yes (by rw[j,h,f]<;>rfl)) (λf=>no (by rw[j,f];simp))) (λh=>bw (no (by rw[j,h]<;>rfl))));simp only[i,G,A,O,a,cn,decide_false];exact bw (jS (Lq m))
variable{rH:Nat -> BitVec 8}
theorem vt{id:Nat}(h:M[id]?=aa (.arr 0 8 [dC rH]))(a:U<8):pT 8 1 (.ptr id 0 0 0) (I U) M=aa (.ptr id 0 0 U):=by
 grind[Vi,pg]
theorem wZ{id:Nat}(h:M[id]?=aa (.arr 0 8 [dC rH]))(a:U<8):aQ 1 ab (.ptr id 0 0 U) M=aa (W (rH U)):=by
 rw[c0 h (bF:=dC rH) rfl,Vq rH a]
theorem LA{id:Nat}{a:BitVec 8}(h:M[id]?=aa (.arr 0 8 [dC rH]))(b:U<8):du 1 (.ptr id 0 0 U) (W a) M=aa (M.set id (.arr 0 8 [dC (wY rH U a)])):=by
 have:U+1<=Z (dC rH):=by show U+1<=8;omega
 simp_all[du,ajb]
theorem zW{id:Nat}(h:M[id]?=aa (.arr 0 8 [dC rH])):aQ 8 ad (.ptr id 0 0 0) M=aa (.agg (dC rH)):=mj h rfl rfl
theorem BT(a:Nat->BitVec 8):dO 8 (.agg (dC a))=aa (dC a):=iT rfl rfl
def z8:List AV:=[.int .u8 0,.int .u8 0,.int .u8 0,.int .u8 0,.int .u8 0,.int .u8 0,.int .u8 0,.int .u8 0]
theorem aje(o:Nat->BitVec 8)(T:U<=8)(M:si U o cZ):∃g,si U g (kN cZ U)/\PR C 323 [.agg (dC o),I U] (.agg (dC g)):=by
 have key:∃q r,C 323 [.agg (dC o),I U] [] q r/\∃g,si U g (kN cZ U)/\q=.agg (dC g):=by
  apply aej.hq (Q:=λq r=>∃g,si U g (kN cZ U)/\q=.agg (dC g));refine aY (dW:=.ptr 0 0 0 0) (oR:=[.arr 0 8 [dC o]]) (by rw[nC,BT]<;>rfl) ?_;apply bG (K:=Nat×(Nat->BitVec 8)) (λd=>I d.1::z8) (λd=>[.arr 0 8 [dC d.2]]) (λd=>U -d.1) (λd=>d.1<=U/\si U d.2 (kN cZ d.1)) (0,o) ⟨by simp,M⟩;rintro⟨e,z⟩ ⟨L,u⟩ Q D;simp only at L u D⊢;simp only[i,G,A,O,a,z8];refine b (λh=>?_) (λh=>?_)
  have h:e<U:=by simpa using h
  refine bG (K:=Nat×(Nat->BitVec 8)) (λd=>I d.1::z8) (λd=>[.arr 0 8 [dC d.2]]) (λd=>U -d.1) (λd=>d.1<=U/\si U d.2 (lC (kN cZ e) e d.1 0)) (0,z) ⟨by simp,λc v f=>by rw[u c v f];simp[lC]⟩ ?_;rintro⟨c,k⟩ ⟨v,l⟩ R x;simp only at v l x⊢;simp only[i,G,A,O,a,z8];refine b (λm=>?_) (λK=>?_);have m:c<U:=by simpa using m
  have w:c<8:=by omega
  have B:e<8:=by omega
  have p:[Obj.arr 0 8 [dC k]][0]?=aa (.arr 0 8 [dC k]):=rfl;have H:(k c).getLsbD e=kN cZ e c e:=by
   rw[l c m e,Vf];simp[h]
  simp only[bz,vt p w,vt p B,wZ p w,wZ p B,O,w1,D1,BR,BS,D2,Vp,LA p w,H,y9,aZ (show c<4611686018427387904 by omega)];have E:∀s:Nat->BitVec 8,(∀j,j≠c->s j=k j)->(∀f,(s c).getLsbD f=(y (f<U)&&tj (kN cZ e) e c f))->si U s (lC (kN cZ e) e (c+1) 0):=by
   intro s F S j n f;by_cases t:j=c;grind[lC];rw[F j t,l j n f];simp only[lC];grind
  refine b (λt=>?_) (λt=>?_);refine x (c+1,wY k c (k c|||k e)) ⟨m,E _ (λj n=>by simp[wY,n]) λf=>?_⟩ (by simp;omega);simp only[wY,if_true,arZ,l c m f,l e h f,Vg];grind[lC,kN,tj,decide];refine x (c+1,k) ⟨m,E _ (λ_ _=>rfl) λf=>?_⟩ (by simp;omega);rw[l c m f];grind[lC,kN,tj];have:c=U:=by simp at K;omega
  subst this;rw[aZ,O];refine D (e+1,k) ⟨h,λj n f=>?_⟩ (by simp;omega);rw[l j n f,Lo];simp[lC,n];have:e=U:=by simp at h;omega
  subst this;rw[zW (rH:=z) rfl,O,BT,O];exact⟨z,u,rfl⟩
 obtain⟨q,r,J,g,N,rfl⟩:=key;exact⟨g,N,_,r,J,eu⟩
theorem ajf(a:d):gM.contains a=mR a:=rfl
theorem Vr(g:d):PR C 322 [.str g] (.bool (bY g)):=by
 apply agz.pr rfl;simp only[cK,hZ];rcases g with _|⟨e,f⟩;simp only[gW,O];apply dA (M:=[]) ad (by simp);exact a8 (bK rfl);simp only[zA,O,eU,A,BA,gW,Kp,Kr,aX];have o:((e::f)==([]:d))=false:=rfl;refine dA (M:=[]) (!(!y (16<(Z (e::f):Int))&& !y ((e.toNat:Int)<97)&& !y (122<(e.toNat:Int))&& !mR (e::f))) (λn j=>?_) ?_;have B:aQ 1 ab (gv G0 2) []=aa (eS ab cS gM):=rfl;rw[o,B,O]
 refine dH (λ_=>?_) (λh=>by cases h);refine ea (by grind) (λJ=>ea (by grind) (λK=>ea (by grind) (λL=>?_)));refine c (yj gM (e::f) (by simp[Sm,gM])) (kB j ?_);grind[ajf];simp only[G];have s:bY (e::f)=(!y (16<(Z (e::f):Int))&& !y ((e.toNat:Int)<97)&& !y (122<(e.toNat:Int))&& !mR (e::f)&&f.all fa):=by
  rw[bY,mS,<-lQ,<-lQ,<-lQ];have:y ((Z (e::f):Int)<=16)=y (Z (e::f)<=16):=by
   rw[iA];simp;omega
  rw[this];generalize y (Z (e::f)<=16)=u;generalize y ((97:Int)<=e.toNat)=z;generalize y ((e.toNat:Int)<=122)=v;generalize f.all fa=w;generalize mR (e::f)=x;revert u z v w x;decide
 refine dw (by simp_all) (λh=>?_);rw[s,h,c3];have q:fa e=true:=by
  simp only[ba,hv,decide_eq_false_iff_not]at h;exact DH (by omega) (by omega)
 have r:Sm (e::f):=by
  simp only[ba,hv,decide_eq_false_iff_not]at h;unfold Sm;omega
 have p:f.all fa=(e::f).all fa:=by rw[oF,q,c3]
 rw[p];clear p q s h o;generalize e::f=g at*;refine BF (ee:=fa) (Q:=λH t=>aM t .res H (.bool (g.all fa))) r (λk I=>⟨λh F D=>?_,λh E=>?_⟩) (λh=>jk h) (λh=>bK h);simp only[O,i,G,A,a,h,decide_true,aE h (Gk _),aJ,Gl,kL,c6];refine a8 (dA (M:=[]) (fa g[k]) (λn j=>?_) ?_);rw[fa,pc]at j;apply dA (M:=[]) (y (97<=(g[k].toNat:Int))&&y ((g[k].toNat:Int)<=122)) (λn j=>aV (by grind) (by grind));simp only[G]
 refine b (by grind) (λl=>?_);rw[l,l4]at j;apply dA (M:=[]) (y (65<=(g[k].toNat:Int))&&y ((g[k].toNat:Int)<=90)) (λn j=>aV (by grind) (by grind));simp only[G];refine b (by grind) (λl=>?_);rw[l,l4]at j;apply dA (M:=[]) (y (48<=(g[k].toNat:Int))&&y ((g[k].toNat:Int)<=57)) (λn j=>aV (by grind) (by grind));simp only[G];refine b (by grind) (λl=>?_);grind;simp only[G];refine b (λl=>?_) D;rw[r.inc h,O]
 exact F l;simp only[O,i,G,A,a];exact bw E (by simp;omega)
theorem Vs:∀b<9,∀a<8,((1#8<<<b) -1#8).getLsbD a=y (a<b):=by decide
variable{K:Type}{a7:K -> List AV}{x:List K}{N:Nat}
theorem Hj(e:∀a,Z (a7 a)=U)(f:N<=Z x):fA (.sl U) (eS T a7 x) ae (aa (I N)) M=aa (eS T a7 (x.take N)):=by
 have c:eT (Z x) (Z x) (aa (I (N:Int)))=aa N:=by
  simp only[eT];rw[if_pos (by omega)];simp
 have d:∀a b,eT a b ae=aa b:=λ_ _=>rfl;simp only[fA,eS,jX,c,d,UB e x,if_true,lq,OV]
theorem Hk{a:Nat->BitVec 8}{id:Nat}(h:M[id]?=aa (.arr 0 8 [dC rH])):du 8 (.ptr id 0 0 0) (.agg (dC a)) M=aa (M.set id (.arr 0 8 [dC a])):=by
 have f:(AV.agg (dC a)).pl.cells=dC a:=rfl;have b:Z (dC a)=8:=rfl;have c:Z (dC rH)=8:=rfl;have d:(dC a).all AV.bU=true:=rfl;have e:e3 (dC rH) 0 (dC a)=dC a:=rfl;simp[du,b,c,d,e,h]
theorem LB{h:Nat->Bool}(f:∀a,a<U->cj a=h a):po U cZ cj=po U cZ h:=by
 have l:∀a,a<U->lT U cZ cj a=lT U cZ h a:=by
  intro a m;rw[lT,lT,f a m]
  congr 1
  rw[iA,eQ,eQ];constructor<;>intro j c d
  rw[<-f c (by simpa using d)];exact j c d;rw[f c (by simpa using d)];exact j c d
 by_cases o:∃a,a<U/\lT U cZ cj a=ad;let⟨k,n⟩:∃k,(ay U).find? (lT U cZ cj)=aa k:=by
  rcases p:(ay U).find? (lT U cZ cj)with _|k;grind;grind
 have b:=za.1 n;have i:k<U:=by simpa using b.2.1
 rw[Hf i b.1 (λe g=>by simpa using b.2.2 e g),Hf i (by rw[<-l k i];exact b.1) (λe g=>by rw[<-l e (by omega)];simpa using b.2.2 e g)];grind[Lq]
theorem Vt:qW U cZ (λ_=>ab)=po U cZ λ_=>true:=
 LB (by grind[lU])
variable{z:Nat}
theorem ajg(c:N<U)(d:z<U):qW U cZ (λb=>y ((b:Int)∈[(N:Int),(z:Int)]))=po U cZ λa=>cZ N a&&cZ z a:=by
 refine LB λa _=>?_;grind[lU]
theorem Hl(h:p6 dS=f)(a:f≠0):eY dS=f:=by grind[eY]
theorem ajh(h:p6 dS=0)(a:qW (Z dS.az) (dB dS) (λ_=>ab)<0):eY dS=30:=by
 grind[eY]
theorem aji(h:p6 dS=0)(a:U<Z dS.az)(b:N<Z dS.az)(c:mn (Z dS.az) (dB dS) U N=ad):eY dS=30:=by
 grind[eY]
theorem chk_0(h:p6 dS=0)(c:¬qW (Z dS.az) (dB dS) (λ_=>ab)<0)(d:∀a,a<Z dS.az->∀b,b<Z dS.az->mn (Z dS.az) (dB dS) a b=ab):eY dS=0:=by
 grind[eY]
def BU(a:bQ)(r:AV):Prop:=∃b,r=.aB [.agg (dC b),I (eY a)]/\(eY a=0->si (Z a.az) b (dB a))
theorem min2(a b:Int):tW [I a,I b]=aa (I (if b<a then b else a)):=rfl
theorem max2(a b:Int):sT [I a,I b]=aa (I (if a<b then b else a)):=rfl
theorem ajj(c a b:Int):(y ((if b<a then b else a)<0)||y (c<=if a<b then b else a))= !(y (0<=a)&&y (a<c)&&(y (0<=b)&&y (b<c))):=by
 grind
@[simp] theorem ajk(a:Int×Int):dO 2 (.agg (b3 a))=aa (b3 a):=iT rfl rfl
@[simp] theorem ajl(a:Int×Int):g (b3 a) 0=I a.1:=rfl
@[simp] theorem ajm(a:Int×Int):g (b3 a) 1=I a.2:=rfl
theorem Vu(d:bQ)(co:lP d):∃r,BU d r/\PR C 278 [.agg (bp T d)] r:=by
 have key:∃M N,C 278 [.agg (bp T d)] [] M N/\BU d M:=by
  refine aeF.hq (Q:=λM N=>BU d M) ?_;have ret:∀(m:Nat->BitVec 8)(l:Int),eY d=l->(l=0->si (Z d.az) m (dB d))->bd (aQ 8 ad (.ptr 0 0 0 0) [.arr 0 8 [dC m]]) λq=>bd (dO 8 q) λj=>BU d (.aB [(AV.agg [g j 0,g j 1,g j 2,g j 3,g j 4,g j 5,g j 6,g j 7]).pl,(I l).pl]):=by
   intro m l aF v;rw[zW (rH:=m) rfl,O,BT,O];exact⟨m,by rw[aF]<;>rfl,λh=>v (aF▸h)⟩
  simp only[mQ,O,lB,e4,e2,dR,bh,aJ,QK,pa,Gd,e,aX,A,eU,bz];have c1:([AV.int .u8 0,.int .u8 0,.int .u8 0,.int .u8 0,.int .u8 0,.int .u8 0,.int .u8 0,.int .u8 0]:List AV)=dC λ_=>0#8:=rfl;refine c (Vr _) ?_;simp only[bI,O,G,i];have J:p6 d=if(bY d.au&& !y ((Z d.az:Int)<1)&& !y (8<(Z d.az:Int))&& !y (64<(Z d.eK:Int)))=ab then 1 else
   if d.az.all bY=ab then 1 else if d.eK.all (p5 d)=ab then 1 else if((ay (Z d.az)).any (wX d.az))=ad then 5 else 0:=rfl
  have P:(bY d.au&& !y ((Z d.az:Int)<1)&& !y (8<(Z d.az:Int))&& !y (64<(Z d.eK:Int)))=ab->eY d=1:=λh=>by simp_all[Hl]
  refine ib (λa9=>?_) (λh=>a8 (ret (λ_=>0#8) 1 (P (by rw[h]<;>rfl)) (λh=>by cases h)));refine ea (λh=>a8 (ret (λ_=>0#8) 1 (by grind) (λh=>by cases h))) (λam=>?_);refine ea (λh=>a8 (ret (λ_=>0#8) 1 (P (by rw[h];simp)) (λh=>by cases h))) (λax=>?_);refine b (λh=>ret (λ_=>0#8) 1 (P (by rw[h];simp)) (λh=>by cases h)) (λbe=>?_);rw[a9,am,ax,be,if_neg (by decide)]at J;clear P
  have d2:1<=Z d.az:=by simp at am;omega
  have ac:Z d.az<=8:=by simp at ax;omega
  have bv:=co.2;refine bG (K:=Nat) (λf=>I 0::I f::z8) (λf=>[.arr 0 8 [dC λk=>if k<f then 1#8<<<k else 0#8]]) (λf=>Z d.az -f) (λf=>f<=Z d.az/\(d.az.take f).all bY=ad) 0 (by simp) ?_ rfl (by simp[c1]);rintro f ⟨t,af⟩ F E;simp only[z8,i,G,A,O,a];refine b (λh=>?_) (λh=>?_);have h:f<Z d.az:=by simpa using h
  have K:f<8:=by omega
  simp only[aE h (iS _),O,aJ,lO];refine c (Vr _) ?_;simp only[bI,O];refine dw (λl=>ret _ 1 (Hl (by grind[yr]) (by decide)) (λh=>by cases h)) (λl=>?_);rw[w1,Hi,O,vt (rH:=λk=>if k<f then 1#8<<<k else 0#8) rfl K,O,LA (rH:=λk=>if k<f then 1#8<<<k else 0#8) rfl K,O,aZ,O];have:=E (f+1) ⟨h,by rw[oi h,af,l]<;>rfl⟩ (by omega)
  have ce:wY (λk=>if k<f then 1#8<<<k else 0#8) f (1#8<<<f)=λk=>if k<f+1 then 1#8<<<k else 0#8:=by
   funext k
   simp only[wY];by_cases S:k=f;grind;rw[if_neg S];by_cases z:k<f;grind;grind
  rw[ce];exact this;have:f=Z d.az:=by simp at h;omega
  subst this;rw[dY]at af;rw[af,if_neg (by decide)]at J;clear E;refine bG (K:=Nat×(Nat->BitVec 8)) (λu=>I 0::I u.1::z8) (λu=>[.arr 0 8 [dC u.2]]) (λu=>Z d.eK -u.1) (λu=>u.1<=Z d.eK/\(d.eK.take u.1).all (p5 d)=ad/\si (Z d.az) u.2 (qX vq (d.eK.take u.1))) (0,λk=>if k<Z d.az then 1#8<<<k else 0#8) ⟨by simp,by simp,λk B q=>?_⟩ ?_;grind[qX,vq];rintro⟨p,m⟩ ⟨aR,ah,v⟩ F E;simp only at aR ah v E⊢
  simp only[z8,i,G,A,O,a];refine b (λh=>?_) (λh=>?_);have h:p<Z d.eK:=by simpa using h
  simp only[aE h (ub _),O,QI,ajk,ajl,ajm,min2,max2,A,hz];have x:=ajj (Z d.az) d.eK[p].1 d.eK[p].2;have aA:p5 d d.eK[p]=(y (0<=d.eK[p].1)&&y (d.eK[p].1<Z d.az)&&(y (0<=d.eK[p].2)&&y (d.eK[p].2<Z d.az))):=rfl;rw[<-aA]at x;have bad:p5 d d.eK[p]=ab->eY d=1:=λl=>Hl (by grind) (by decide);refine ea (λl=>a8 (ret _ 1 (bad (by rw[l]at x;simpa using x.symm)) (λh=>by cases h))) (λS=>?_)
  refine b (λl=>ret _ 1 (bad (by rw[l]at x;simpa using x.symm)) (λh=>by cases h)) (λz=>?_);rw[S,z]at x;have ci:p5 d d.eK[p]=true:=by simpa using x.symm
  have a2:=ci;rw[aA]at a2;simp only[ba,decide_eq_true_eq]at a2;obtain⟨q,L⟩:∃q:Nat,d.eK[p].1=q:=⟨d.eK[p].1.toNat,by omega⟩;obtain⟨Q,a5⟩:∃Q:Nat,d.eK[p].2=Q:=⟨d.eK[p].2.toNat,by omega⟩;have d3:q<Z d.az:=by omega
  have d4:Q<Z d.az:=by omega
  have ai:q<8:=by omega
  simp only[L,a5,w1,Hi,vt (rH:=m) (M:=[.arr 0 8 [dC m]]) (id:=0) rfl ai,wZ (rH:=m) (M:=[.arr 0 8 [dC m]]) (id:=0) rfl ai,O,Vp,LA (rH:=m) (M:=[.arr 0 8 [dC m]]) (id:=0) rfl ai,aZ (bv.lt h)];refine E (p+1,wY m q (m q|||1#8<<<Q)) ⟨h,by grind[oi],?_⟩ (by simp;omega);rw[<-Ls vq h L a5];intro k B j;simp only[wY,bW];by_cases U:k=q;subst U;rw[if_pos rfl,arZ,v k B j];grind;rw[if_neg U,v k B j];simp[U]
  have:p=Z d.eK:=by simp at h;omega
  subst this;rw[dY]at ah v;rw[ah,if_neg (by decide)]at J;clear E;refine eB (U:=Z d.az) (c:=λf=>I 0::I f::z8) (λf=>∀p,p<f->wX d.az p=ab) (by simp) rfl (λf t a3 F Y=>?_) (λa3 F=>?_);simp only[z8,i,G,A,O,a,t,decide_true,aE t (iS _),aJ,lO,Hj iS (aaZ t)];have d1:wX d.az f=(d.az.take f).contains d.az[f]:=by rw[wX,bq t]
  refine a8 (c (yj _ _ (by grind[Sm])) ?_);refine b (λl=>ret _ 5 (Hl (by
   grind) (by decide)) (λh=>by cases h)) (λl=>?_)
  rw[aZ,O];refine Y λp aR=>?_;grind;have V:p6 d=0:=by
   rw[J,if_neg];rw[ai5 (λq L=>a3 q (by simpa using L))];decide
  clear J;simp only[z8,i,G,A,O,a,cn,decide_false];refine bw ?_;rw[zW (rH:=m) rfl,O];obtain⟨o,w,bb⟩:=aje m ac v;have w:si (Z d.az) o (dB d):=w;refine c bb ?_;rw[Hk (rH:=m) rfl,O];simp only[y9];rw[zW (rH:=o) rfl,O,w1,Hi,O,Lx,O];have cb:zU (Z d.az) ((1#8<<<(Z d.az)) -1#8) λ_=>true:=by
   intro q;by_cases L:q<8;grind[Vs];grind
  refine c (Ly o _ ac w cb) ?_;simp only[A,O];refine b (λl=>ret o 30 (ajh V (by rw[Vt];simpa using l)) (λh=>by cases h)) (λl=>?_);have br:¬qW (Z d.az) (dB d) (λ_=>ab)<0:=by rw[Vt];simpa using l
  refine eB (U:=Z d.az) (c:=λf=>I 0::I f::z8) (λf=>∀k,k<f->∀j,j<Z d.az->mn (Z d.az) (dB d) k j=ab) (by simp) rfl (λf t a4 F Y=>?_) (λa4 F=>?_);simp only[z8,i,G,A,O,a,t,decide_true];refine a8 ?_;refine eB (U:=Z d.az) (c:=λf=>I 0::I f::z8) (λn=>∀j,j<n->mn (Z d.az) (dB d) f j=ab) (by simp) rfl (λn D cl R bD=>?_) (λcl R=>?_);have K:f<8:=by omega
  have a0:n<8:=by omega
  have H:[Obj.arr 0 8 [dC o]][0]?=aa (.arr 0 8 [dC o]):=rfl;have cs:zU (Z d.az) (o f&&&o n) λj=>dB d f j&&dB d n j:=by
   intro q;rw[Fg,w f t q,w n D q];grind
  have bi:(o f).getLsbD n=dB d f n:=by rw[w f t n];simp[D]
  have bm:(o n).getLsbD f=dB d n f:=by rw[w n D f];simp[t]
  simp only[z8,i,G,A,O,a,D,decide_true,cv,vt H K,vt H a0,wZ H K,wZ H a0,zW H,D1,BR,BS,D2,bi,bm];have cc:((f:Int) !=(n:Int))=(f !=n):=by
   rw[iA];simp;omega
  rw[cc];have yes:mn (Z d.az) (dB d) f n=ad->bd (aa (AV.agg (dC o))) λq=>bd (dO 8 q) λj=>BU d (.aB [(AV.agg [g j 0,g j 1,g j 2,g j 3,g j 4,g j 5,g j 6,g j 7]).pl,(I 30).pl]):=λl=>by
   have:=ret o 30 (aji V t D l) (λh=>by cases h);grind[zW]
  simp only[O]at yes;have no:mn (Z d.az) (dB d) f n=ab->bd (aT .s .add (I n) (I 1)) λaj=>R [I 0,aj,.int .u8 0,.int .u8 0,.int .u8 0,.int .u8 0,.int .u8 0,.int .u8 0,.int .u8 0,.int .u8 0] [.arr 0 8 [dC o]]:=λl=>by
   rw[aZ,O];refine bD λj X=>?_;grind
  have qB:(f !=n&&dB d f n&&dB d n f)=ab->mn (Z d.az) (dB d) f n=y (po (Z d.az) (dB d) (λj=>dB d f j&&dB d n j)<0):=λl=>by
   rw[mn,l,ajg t D]<;>rfl
  have d0:(f !=n&&dB d f n&&dB d n f)=ab->cp C 226 [.agg (dC o),W (o f&&&o n),I (Z d.az)] [.arr 0 8 [dC o]] λc2=>bd (aT .s .lss c2 (I 0)) λdl=>ez dl (bd (dO 8 (.agg (dC o))) λj=>BU d (.aB [(AV.agg [g j 0,g j 1,g j 2,g j 3,g j 4,g j 5,g j 6,g j 7]).pl,(I 30).pl])) (bd (aT .s .add (I n) (I 1)) λaj=>R [I 0,aj,.int .u8 0,.int .u8 0,.int .u8 0,.int .u8 0,.int .u8 0,.int .u8 0,.int .u8 0,.int .u8 0] [.arr 0 8 [dC o]]):=λl=>by
   refine c (Ly o _ ac w cs) ?_;simp only[A,O];exact b (λz=>yes (by rw[qB l,z])) (λz=>no (by rw[qB l,z]))
  simp_all[mn];simp only[z8,i,G,A,O,a,cn,decide_false];refine bw ?_;rw[aZ,O];refine Y λk B j X=>?_;grind;simp only[z8,i,G,A,O,a,cn,decide_false];exact bw (ret o 0 (chk_0 V br a4) (λ_=>w))
 obtain⟨M,N,X,B⟩:=key;obtain⟨m,rfl,v⟩:=B;exact⟨_,⟨m,rfl,v⟩,_,N,X,eu⟩
theorem ajn(a:bQ)(b:lP a):PR C 266 [.agg (bp T a)] (I (eY a)):=by
 apply aed.pr;obtain⟨r,⟨d,rfl,_⟩,h⟩:=Vu a b;simp only[mQ,O,jj];apply c h;simp only[fK,dj,eH,O,BT];simp
theorem LC(a:bQ)(e:lP a):∃b,(eY a=0->si (Z a.az) b (dB a))/\PR C 224 [.agg (bp T a)] (.aB [.agg (dC b),.bool (eY a==0)]):=by
 obtain⟨r,⟨b,rfl,d⟩,h⟩:=Vu a e;refine⟨b,d,agr.pr ?_⟩;simp only[mQ,O,jj];apply c h;simp only[fK,dj,eH,O,BT,c6];apply aI (BT b);simp[Im.snap,dC,eY]
theorem LD(c:bQ)(b:List Int)(g:Sm b):PR C 225 [.agg (bp T c),eS F cI b] (.bool (b.all (eC c))):=by
 apply aeA.pr;simp only[mQ,O,aX,bh,aJ,pa,e];refine BF (Q:=λq m=>aM m .res q (.bool (b.all (eC c)))) g (λj r=>⟨λh t o=>?_,λh p=>?_⟩) (λh=>jk h) (λh=>bK h);simp only[O,i,G,A,a,h,decide_true,aE h (jh _),aJ,lN,hz,bz];have f:∀k l:Int,y (l<=k)= !y (k<l):=by grind
 have n:y (0<=b[j])= !y (b[j]<0):=f _ _;refine a8 (dH (λd=>?_) (λd=>a8 (o (by rw[eC,n,d]<;>rfl))));rw[f];refine dw (by grind[eC]) (λs=>?_);rw[g.inc h,O];grind[eC];simp only[O,i,G,A,a];exact bw p (by simp;omega)
theorem LF:([AV.int .u8 0,.int .u8 0,.int .u8 0,.int .u8 0,.int .u8 0,.int .u8 0,.int .u8 0,.int .u8 0]:List AV)=dC λ_=>0#8:=rfl
theorem ajo(h:U<=8):zU U ((1#8<<<U) -1#8) λ_=>true:=by
 intro a;grind[Vs]
theorem Vv(d:bQ)(f:List Int)(z:lP d)(t:Sm f):PR C 168 [.agg (bp T d),eS F cI f] (I (eD d f)):=by
 apply afW.pr;obtain⟨g,l,w⟩:=LC d z;simp only[mQ,O,jj,lB,e4,e2,dR,aX,bh,aJ,pa,e];apply c w;simp only[fK,dj,eH,O,LF];apply aI (Hk rfl);simp only[y9];refine dA (M:=[.arr 0 8 [dC g]]) (!((eY d==0)&&f.all (eC d))) (λL y=>?_) ?_;simp only[bI,O];refine ib (λn=>c (LD d f t) ?_) (λn=>kB y (by rw[n]<;>rfl));simp only[bI,O];grind;simp only[G];refine dw (λh=>jS ?_) (λh=>?_);grind[eD,eY]
 simp only[ba,beq_iff_eq]at h;let⟨o,x⟩:=h;have l:=l o;let⟨u,_⟩:=zT (BQ o);rw[eD,if_neg (by simp[o]),if_neg (by grind)];simp only[w1,Hi,Lx,O];apply bG (K:=Nat×BitVec 8) (λj=>[W j.2,I j.1]) (λ_=>[.arr 0 8 [dC g]]) (λj=>Z f -j.1) (λj=>j.1<=Z f/\zU (Z d.az) j.2 λk=>(f.take j.1).all λm=>dB d m.toNat k) (0,(1#8<<<(Z d.az)) -1#8) ⟨by simp,by simpa using ajo u.2⟩;rintro⟨q,up⟩ ⟨K,p⟩ J E
 simp only[i,G,A,O,a];refine b (λh=>?_) (λh=>?_);have h:q<Z f:=by simpa using h
 let⟨r,B,D⟩:=mo (eQ.1 x _ (bn h));have v:r<8:=by omega
 have s:[Obj.arr 0 8 [dC g]][0]?=aa (.arr 0 8 [dC g]):=rfl;simp only[aE h (jh _),O,aJ,lN,B,vt s v,wZ s v,BR,aZ (t.lt h)];refine E (q+1,up&&&g r) ⟨h,λk=>?_⟩ (by simp;omega);rw[Fg,p k,l r D k];have n:=oi (ee:=λm:Int=>dB d m.toNat k) h;grind;have:q=Z f:=by simp at h;omega
 subst this;rw[dY]at p;rw[zW (rH:=g) rfl,O];refine c (Ly g up u.2 l p) (jS ?_);refine(LB λk _=>?_).symm;rw[iA,eQ,lU,eQ];grind[Int.toNat_natCast,mo,List.all_eq_true]
theorem ajp(a:bQ)(b d:Int)(e:lP a):PR C 122 [.agg (bp T a),I b,I d] (I (eD a [b,d])):=by
 apply ae3.pr;simp only[mQ,O,jj,Hh];exact c (Vv a [b,d] e (by simp[Sm])) (by simp)
theorem Hm(a:bQ)(b:lP a):PR C 102 [.agg (bp T a)] (I (eD a [])):=by
 apply aeu.pr;simp only[mQ,O,jj];refine⟨.dm,[.agg (bp T a),eS ab cI []],I (eD a []),by decide,?_,Vv a [] b (by simp[Sm]),by simp,by simp⟩;exact .ck eu (.ck (.aq _ _) (.nil _))
theorem ajq(b:bQ)(f g:Int)(q:lP b):PR C 276 [.agg (bp T b),I f,I g] (.bool (vr b f g)):=by
 apply afE.pr;obtain⟨l,e,n⟩:=LC b q;simp only[mQ,O,jj,lB,e4,e2,dR,Hh];apply c n;simp only[fK,dj,eH,O,LF];apply aI (Hk rfl);simp only[y9,bz,G];refine aV (λd=>c (LD b [f,g] (by simp[Sm])) (aV (λa=>?_) (λa=>bK ?_))) (λd=>bK (by rw[vr,d]<;>rfl));have i:eY b=0:=by simpa using d
 have e:=e i;let⟨r,_⟩:=zT (BQ i);simp only[oF,AO,y4,ba]at a;rw[vr,d,a.1,a.2];obtain⟨h,rfl,o⟩:=mo a.1;obtain⟨m,rfl,p⟩:=mo a.2;have k:h<8:=by omega
 have j:[Obj.arr 0 8 [dC l]][0]?=aa (.arr 0 8 [dC l]):=rfl;simp only[vt j k,wZ j k,O,w1,D1,BR,BS,D2];exact iW (by rw[e h o m];simp[p]);grind[vr]
def sj(a:BitVec 8):Nat:=(yh[a.toNat]?.getD 0).toNat
def Vw(c:Nat):Bool:=
 let a:=BitVec.ofNat 8 c
 c==0||(y (sj a<8)&&a.getLsbD (sj a)&&y ((a&&&(a -1#8)).toNat<a.toNat)&&(ay 8).all λb=>(a&&&(a -1#8)).getLsbD b==(a.getLsbD b&& !(b==sj a)))
theorem ajr:(ay 256).all Vw=true:=by decide+kernel
theorem ajs{a:BitVec 8}(h:(a==0#8)=ab):sj a<8/\a.getLsbD (sj a)=ad/\(a&&&(a -1#8)).toNat<a.toNat/\∀b,(a&&&(a -1#8)).getLsbD b=(a.getLsbD b&& !(b==sj a)):=by
 have c:=a.isLt;have:=eQ.1 ajr a.toNat (by simpa using c);grind[BitVec.ofNat,Vw]
theorem ajt:Z yh=256:=by decide+kernel
theorem aju(a:BitVec 8)(h:(a==0#8)=ab):PR C 340 [W a] (I (sj a:Nat)):=by
 apply aeJ.pr rfl;simp only[cK,hZ];have b:a.toNat<Z yh:=by rw[ajt];exact a.isLt
 have c:mc (.str yh) (W a)=aa (.int .u8 (yh[a.toNat].toNat:Int)):=by
  simp only[mc,W,AV.pl];rw[if_pos (by omega)];simp[bq b]
 have d:(sj a:Int)=(yh[a.toNat].toNat:Int):=by
  rw[sj,bq b]<;>rfl
 have go:bd (mc (.str yh) (W a)) λe=>bd (pU (.int .i64) e) λf=>aM [] .res (AV.pl f) (I (sj a:Nat)):=by
  apply aI c;simp only[Br,O,Kq];rw[d];simp
 exact go
theorem ajv(l:bQ)(b:List Int)(ax:lP l)(N:Sm b):PR C 314 [.agg (bp T l),eS F cI b] (.bool (ot l b)):=by
 refine aeh.pr ?_;obtain⟨k,r,U⟩:=LC (T:=T) l ax;simp only[mQ,O,jj,lB,e4,e2,dR,aX,bh,aJ,pa,e];refine c U ?_;simp only[fK,dj,eH,O,LF];refine aI (Hk (rH:=λ_=>0#8) (a:=k) rfl) ?_;simp only[y9,bI,O,cv];refine dA (M:=[.arr 0 8 [dC k]]) (!(eY l==0&&(Z b:Int)==Z l.az&&b.all (eC l))) (λbe v=>?_) ?_;refine ib (λo=>ea (λs=>kB v ?_) (λs=>c (LD l b N) ?_)) (λo=>kB v (by rw[o]<;>rfl));grind;simp only[bI,O]
 grind;simp only[G];refine dw (by grind[bK,ot]) (λh=>?_);rw[ot,h,c3];simp only[ba,beq_iff_eq]at h;obtain⟨⟨J,z⟩,x⟩:=h;have z:Z b=Z l.az:=by omega
 have r:=r J;obtain⟨am,_⟩:=zT (BQ J);have x:=λa3 a0=>mo (eQ.1 x a3 a0);rw[<-z];rw[<-z]at r am;generalize a6:dB l=n at*;have E:∀f(q:f<Z b),∃m:Nat,b[f]=m/\m<Z b/\b.getD f 0=m:=by
  intro f q;obtain⟨m,w,P⟩:=x b[f] (bn q);exact⟨m,w,by omega,by rw[oK,bq q];simpa using w⟩
 have fail:∀f d,f<Z b->d<Z b->(!n f d||n (b.getD f 0).toNat (b.getD d 0).toNat)=ab->((ay (Z b)).all λf=>(ay (Z b)).all λT=> !n f T||n (b.getD f 0).toNat (b.getD T 0).toNat)=false:=by
  intro f d q ac ah;rw[<-vY,eQ];intro ai;have:=ai f (by simpa using q);rw[eQ]at this;have:=this d (by simpa using ac);rw[ah]at this;cases this
 have u:[Obj.arr 0 8 [dC k]][0]?=aa (.arr 0 8 [dC k]):=rfl;refine eB (U:=Z b) (c:=λg=>[ff,I g]) (λg=>∀f,f<g->∀d,d<Z b->(!n f d||n (b.getD f 0).toNat (b.getD d 0).toNat)=ad) (by simp) rfl (λg p au R v=>?_) (λau R=>?_);have M:g<8:=by omega
 simp only[i,G,A,O,a,p,decide_true,vt u M,wZ u M];refine a8 ?_;refine bG (K:=BitVec 8) (λj=>[ff,W j]) (λ_=>[.arr 0 8 [dC k]]) (λj=>j.toNat) (λj=>(∀d,j.getLsbD d=ad->(k g).getLsbD d=ad)/\∀d,d<Z b->(k g).getLsbD d=ad->j.getLsbD d=ab->(!n g d||n (b.getD g 0).toNat (b.getD d 0).toNat)=ad) (k g) ⟨λ_ h=>h,λd _ K t=>by rw[K]at t;cases t⟩ ?_;rintro j ⟨aA,a9⟩ a5 a2;simp only[i,G,w0,ai9,O]
 refine dw (λo=>?_) (λo=>?_);let⟨bb,X,af,Y⟩:=ajs o;have B:=aA _ X;rw[r g p]at B;simp only[ba,decide_eq_true_eq]at B;let⟨y,aj⟩:=B;let⟨m,w,P,gi⟩:=E g p;let⟨D,aF,aR,H⟩:=E (sj j) y;have Q:m<8:=by omega
 apply c (aju j o);simp only[aE p (jh _),aE y (jh _),O,aJ,lN,w,aF,vt u Q,wZ u Q,D1,w1,BR,BS,aja,Lx];have ak:(k m).getLsbD D=n m D:=by rw[r m P D];simp[aR]
 rw[ak];refine dw (λs=>bK (fail g (sj j) p y (by rw[gi,H,aj];simpa using s))) (λs=>?_);refine a2 (j&&&(j -1#8)) ⟨λd L=>?_,λd L K t=>?_⟩ af;grind;rw[Y d]at t;by_cases ec:d=sj j;rw[ec,gi,H];simp[s];grind;rw[N.inc p,O];refine v λf q d L=>?_;by_cases S:f=g;subst S;cases V:(k f).getLsbD d with
 |true=>
  grind
 |false=>
  rw[r f p d]at V;grind
 grind;simp only[i,G,A,O,a,cn,decide_false];refine bw (jk ?_);grind
def dZ(b:D)(a:Int):Bool:=y (0<=a)&&y (a<Z b.Q)
def jG(a:Lit):Bool:=a.ax==2||a.ax==4
def nN(a:D)(r:aD)(b:Lit):Bool:=dZ a r.ah&&dZ a b.ah&&b.ax !=5
abbrev Edge:=(Int×Int)×Bool
def j6(c:D)(r:aD)(b:List Edge)(a:Lit):List Edge:=if nN c r a=ad then b++[((r.ah,a.ah),jG a)]else b
def p7(b:D)(a:List Edge)(r:aD):List Edge:=r.ai.foldl (j6 b r) a
def kO(a:D):List Edge:=a.ak.foldl (p7 a) []
theorem Vx(b:D)(a:Int):PR C 178 [.agg (cP T F b),I a] (.bool (dZ b a)):=by
 apply ae6.pr;simp only[eE,O,bh,aJ,kv,e,aX,hz,A,bz,G];exact aV (by simp_all[dZ]) (by grind[bK,dZ])
theorem Vy(a:Lit):PR C 116 [.agg (bg T a)] (.bool (jG a)):=by
 apply afq.pr;simp only[rU,O,bh,aJ,ud,e,c6,bz,G];exact dH (by simp_all[jG]) (by simp_all[jG])
variable{bC c8:Bool}
theorem Vz(a:D)(r:aD)(d:Lit):PR C 115 [.agg (cP T F a),.agg (aS bC r),.agg (bg c8 d)] (.bool (nN a r d)):=by
 apply aeZ.pr;simp only[eE,o9,rU,O,bh,aJ,gy,Bo,ud,zE,e,cv,bz,G];refine c (Vx a _) (aV (λh=>?_) (λh=>bK (by rw[nN,h]<;>rfl)));exact c (Vx a _) (aV (λb=>iW (by rw[nN,h,b]<;>rfl)) (λb=>bK (by rw[nN,b];simp)))
def ow(a:Edge):List AV:=b3 a.1
def so(a:Edge):List AV:=cB a.2
def pq(id:Nat)(a:List Edge):AV:=if Z a=0 then .dL else .q id (Z a -1) 0 (Z a)
def yx(a:List Edge):List Obj:=if Z a=0 then[.arr 0 2 [],.arr 0 1 []]else[.arr 0 2 [],.arr 0 1 [],.arr (Z a -1) 2 (a.map ow),.arr (Z a -1) 1 (a.map so)]
theorem ajw(a:List Edge)(b:Edge)(e:Z a<1099511627776):∃d,cJ 2 16 (pq 2 a) (.sl ab [b3 b.1]) (yx a)=aa (pq 2 (a++[b]),d)/\cJ 1 1 (pq 3 a) (.sl ab [cB b.2]) d=aa (pq 3 (a++[b]),yx (a++[b])):=by
 by_cases h:Z a=0;have:a=[]:=by grind
 subst this;exact⟨[.arr 0 2 [],.arr 0 1 [],.arr 0 2 [b3 b.1]],rfl,rfl⟩;refine⟨[.arr 0 2 [],.arr 0 1 [],.arr (Z a) 2 ((a++[b]).map ow),.arr (Z a -1) 1 (a.map so)],?_,?_⟩;simp only[pq,yx,if_neg h,gC,jY];rw[if_neg (by omega)];have c:([.arr 0 2 [],.arr 0 1 [],.arr (Z a -1) 2 (a.map ow),.arr (Z a -1) 1 (a.map so)]:List Obj)[2]?=aa (.arr (Z a -1) 2 (a.map ow)):=rfl
 simp only[cJ,h6,oF,AO,ub,beq_self_eq_true,y4,if_true,AV.isNil,e6,if_false,c,jX,true_and,c7,jY];rw[if_pos (by omega),gT (by simp),show Z a -1+1=Z a by omega];simp[ow];simp only[pq,yx,if_neg h,gC,jY];rw[if_neg (by omega),if_neg (by omega)];have c:([.arr 0 2 [],.arr 0 1 [],.arr (Z a) 2 ((a++[b]).map ow),.arr (Z a -1) 1 (a.map so)]:List Obj)[3]?=aa (.arr (Z a -1) 1 (a.map so)):=rfl
 simp only[cJ,h6,oF,AO,acY,beq_self_eq_true,y4,if_true,AV.isNil,e6,if_false,c,jX,true_and,c7,jY];rw[if_pos (by omega),gT (by simp),show Z a -1+1=Z a by omega];simp[so]
theorem VA(id:Nat)(a:List Edge):(pq id a).pl=pq id a:=by unfold pq;split<;>rfl
theorem ajx(a:List Edge):aM (yx a) .res (.aB [(pq 2 a).pl,(pq 3 a).pl]) (.aB [eS ab b3 (a.map (·.1)),eS ab cB (a.map (·.2))]):=by
 rw[VA,VA];by_cases h:Z a=0;have:a=[]:=by grind
 subst this;exact .aB _ _ _ (.ck (.dL _ _) (.ck (.dL _ _) (.nil _)));simp only[pq,yx,if_neg h];refine .aB _ _ _ (.ck ?_ (.ck ?_ (.nil _)));have:=ic (M:=[.arr 0 2 [],.arr 0 1 [],.arr (Z a -1) 2 (a.map ow),.arr (Z a -1) 1 (a.map so)]) (id:=2) (U:=2) (N:=Z a -1) (a7:=b3) (x:=a.map (·.1)) (by simp_all[ow]) (by simp);grind
 have:=ic (M:=[.arr 0 2 [],.arr 0 1 [],.arr (Z a -1) 2 (a.map ow),.arr (Z a -1) 1 (a.map so)]) (id:=3) (U:=1) (N:=Z a -1) (a7:=cB) (x:=a.map (·.2)) (by simp_all[so]) (by simp);grind
theorem Hn(c:D)(r:aD):∀(b:List Lit)(a:List Edge),Z (b.foldl (j6 c r) a)<=Z a+Z b
 |[],a=>by simp
 |x::b,a=>by
  have:=Hn c r b (j6 c r a x);grind[j6]
theorem D3(c:D)(d:Nat):∀(b:List aD)(_:∀r∈b,Z r.ai<=d)(a:List Edge),Z (b.foldl (p7 c) a)<=Z a+Z b*d
 |[],_,a=>by simp
 |r::b,h,a=>by
  have e:=h r (by simp);have f:=Hn c r r.ai a;have g:=D3 c d b (by grind) (p7 c a r);grind[p7,List.length_cons,Nat.succ_mul]
def mq(a:D):Prop:=Z a.ak<=100/\(∀r∈a.ak,Z r.ai<=100)/\Z a.Q<=1000
theorem ajy(d:D)(o:mq d):PR C 87 [.agg (cP T F d)] (.aB [eS ab b3 ((kO d).map (·.1)),eS ab cB ((kO d).map (·.2))]):=by
 apply aeX.pr;simp only[eE,O,e4,fh,bh,aJ,gy,pb,e,aX,dR,e2,hG];apply bG (K:=Nat) (λf=>[pq 2 ((d.ak.take f).foldl (p7 d) []),pq 3 ((d.ak.take f).foldl (p7 d) []),I f]) (λf=>yx ((d.ak.take f).foldl (p7 d) [])) (λf=>Z d.ak -f) (λf=>f<=Z d.ak) 0 (by simp);intro f M H y;simp only[i,G,A,O,a];refine b (λh=>?_) (λh=>?_);have h:f<Z d.ak:=by simpa using h
 have q:=y (f+1) h (by omega);simp only[mV h]at q;have L:=o.2.1 _ (bn h);have Q:=o.1;have u:=D3 d 100 (d.ak.take f) (λr x=>o.2.1 r (sL x)) [];rw[h0,e2]at u;have P:min f (Z d.ak)*100<=100*100:=mB _ (by omega);generalize(d.ak.take f).foldl (p7 d) []=k at*;simp only[aE h (mP _ _),O,nF,yd,vh,wN,vi,vj,vk,vl,wO,vm,uj]
 apply bG (K:=Nat) (λg=>pq 2 ((d.ak[f].ai.take g).foldl (j6 d d.ak[f]) k)::pq 3 ((d.ak[f].ai.take g).foldl (j6 d d.ak[f]) k)::I g::aS T d.ak[f]) (λg=>yx ((d.ak[f].ai.take g).foldl (j6 d d.ak[f]) k)) (λg=>Z d.ak[f].ai -g) (λg=>g<=Z d.ak[f].ai) 0 (by simp);intro g N J z;simp only[i,G,vh,wN,vi,vj,vk,vl,wO,vm,uj,aX,A,O,a];refine b (λj=>?_) (λj=>?_);have j:g<Z d.ak[f].ai:=by simpa using j
 have m:=z (g+1) j (by omega);simp only[mV j]at m;have v:=Hn d d.ak[f] (d.ak[f].ai.take g) k;rw[h0]at v;generalize(d.ak[f].ai.take g).foldl (j6 d d.ak[f]) k=l at*;simp only[aE j (jC _ _),O,o8,bh,aJ,zE,e,bz,wU,yv]
 have w:(AV.agg [AV.str d.ak[f].au,I d.ak[f].ah,eS T cT d.ak[f].af,I d.ak[f].aj.ax,.str d.ak[f].aj.au,.str d.ak[f].aj.aF,I d.ak[f].aj.aR,eS T (bg T) d.ak[f].ai,I d.ak[f].bb])=.agg (aS T d.ak[f]):=rfl;rw[w];refine c (Vz d d.ak[f] d.ak[f].ai[g]) (b (λn=>?_) (λn=>?_));have p:j6 d d.ak[f] l d.ak[f].ai[g]=l++[((d.ak[f].ah,d.ak[f].ai[g].ah),jG d.ak[f].ai[g])]:=by rw[j6,if_pos n]
 rw[p]at m;let⟨E,s,t⟩:=ajw l ((d.ak[f].ah,d.ak[f].ai[g].ah),jG d.ak[f].ai[g]) (by omega);refine aY s (c (Vy d.ak[f].ai[g]) ?_);refine aI (dW:=.sl ab [cB (jG d.ak[f].ai[g])]) rfl (aY t ?_);rw[aZ,O];exact m;have p:j6 d d.ak[f] l d.ak[f].ai[g]=l:=by rw[j6,if_neg (by rw[n];decide)]
 rw[p]at m;rw[aZ,O];exact m;have:g=Z d.ak[f].ai:=by simp at j;omega
 subst this;rw[aZ,O,dY];exact q;have:f=Z d.ak:=by simp at h;omega
 subst this;rw[dY];exact ajx _
theorem LG(b:N<U)(c:z<U):PR C 41 [eM U cZ,I N,I z] (.bool (N==z||cZ N z&&cZ z N)):=by
 apply aeo.pr;have d:((N:Int)==(z:Int))=(N==z):=by rw[iA];simp;omega
 simp only[c6,O,d,wW b,wW c,aJ,BN,ur b,ur c,zD,bz,G];exact dH (λh=>aV (λa=>iW (by rw[h,a]<;>rfl)) (λa=>bK (by rw[h,a]<;>rfl))) (λh=>jk (by rw[h]<;>rfl))
def ox(id:Nat)(a:List K):AV:=if Z a=0 then .dL else .q id (Z a -1) 0 (Z a)
def oy(b:List Obj)(d:Nat)(c:K->List AV)(a:List K):List Obj:=if Z a=0 then b else b++[.arr (Z a -1) d (a.map c)]
variable{dW:K}{iC:AV -> List Obj -> Prop}
theorem VB{bytes:Nat}(c:Z (a7 dW)=U)(b:(Z x+1)*bytes<=2^47)(a:iC (ox (Z M) (x++[dW])) (oy M U a7 (x++[dW]))):
 cq (cJ U bytes (ox (Z M) x) (.sl ab [a7 dW]) (oy M U a7 x)) iC:=by
 by_cases h:Z x=0;have:x=[]:=by grind
 simp_all[ox,oy,cJ,h6,AV.isNil];refine aY ?_ a;have d:(M++[Obj.arr (Z x -1) U (x.map a7)])[Z M]?=aa (.arr (Z x -1) U (x.map a7)):=by simp
 grind[ox,oy,cJ,h6,AV.isNil]
theorem ajz(id:Nat)(a:List K):(ox id a).pl=ox id a:=by unfold ox;split<;>rfl
theorem ajA(b:∀a∈x,bT (a7 a)):aM (oy M U a7 x) .res (ox (Z M) x).pl (eS ab a7 x):=by
 rw[ajz];by_cases h:Z x=0;have:x=[]:=by grind
 subst this;exact .dL _ _;simp_all[ox,oy,ic]
@[simp] theorem ajB(id:Nat)(a:List K)(b:List Obj):gu .sl (ox id a) b=aa (I (Z a)):=by
 unfold ox;split;rename_i h;simp[gu,h];rfl
variable{V:D}
theorem BV:∀a∈kO V,(0<=a.1.1/\a.1.1<Z V.Q)/\0<=a.1.2/\a.1.2<Z V.Q:=by
 have e:∀(r:aD)(b:List Lit)(c:List Edge),(∀a∈c,(0<=a.1.1/\a.1.1<Z V.Q)/\0<=a.1.2/\a.1.2<Z V.Q)->∀a∈b.foldl (j6 V r) c,(0<=a.1.1/\a.1.1<Z V.Q)/\0<=a.1.2/\a.1.2<Z V.Q:=by
  intro r b;induction b with
  |nil=>grind
  |cons i b d=>
   intro c h;refine d _ λa g=>?_;grind[j6,nN,dZ]
 have f:∀(b:List aD)(c:List Edge),(∀a∈c,(0<=a.1.1/\a.1.1<Z V.Q)/\0<=a.1.2/\a.1.2<Z V.Q)->∀a∈b.foldl (p7 V) c,(0<=a.1.1/\a.1.1<Z V.Q)/\0<=a.1.2/\a.1.2<Z V.Q:=by
  intro b;induction b with
  |nil=>grind
  |cons r b d=>exactλc h=>d _ (e r r.ai c h)
 exact f V.ak [] (by simp)
def p8(a:D):cA:=qX (λ_ _=>ab) ((kO a).map (·.1))
def cQ(a:D):cA:=kN (p8 a) (Z a.Q)
variable{iD:List Obj -> Prop}{E:AV}
theorem ajC(a:iD M):Hd E (I ((0:Nat):Int)) M iD:=by
 unfold Hd;apply bG (K:=Unit) (λ_=>[I 0]) (λ_=>M) (λ_=>0) (λ_=>True) () trivial;intro _ _ b _;simp only[G,A,O];exact bw a
theorem Ho(f:D)(p:mq f):PR C 40 [.agg (cP T F f)] (eM (Z f.Q) (cQ f)):=by
 refine afi.pr ?_;have U:=BV (V:=f);simp only[eE,O,e4,fh,bh,aJ,gy,kv,e,aX,dR];have ax:=p.2.2;have V:Z (kO f)<=10000:=by
  have:=D3 f 100 f.ak p.2.1 [];have am:Z f.ak*100<=100*100:=mB _ p.1;simp only[e2]at this;unfold kO;omega
 have L:=ajy (T:=T) (F:=F) f p;rw[cQ,p8];generalize Z f.Q=l at*;generalize kO f=j at*;refine bG (K:=Nat×List Obj) (λd=>[uu d.1,I d.1]) (λd=>d.2) (λd=>l -d.1) (λd=>d.1<=l/\zS l (λ_ _=>ab) d.1 d.2) (0,[.arr 0 1 []]) ⟨by simp,⟨by simp,λh=>absurd h (by simp),λv P=>absurd P (by simp)⟩⟩ ?_;rintro⟨g,r⟩ ⟨W,s⟩ ai t;simp only at W s t⊢;simp only[O,i,G,A,a];refine b (λh=>?_) (λh=>?_)
 have h:g<l:=by simpa using h
 refine aY (se (by omega) (by omega)) ?_;rw[BP];obtain⟨k,J,K⟩:=s.grow (by omega);refine aI (dW:=.sl ab [[.q (Z r) 0 0 l]]) rfl (aY J ?_);rw[aZ,O];exact t (g+1,k) ⟨h,K⟩ (by simp;omega);have:g=l:=by simp at h;omega
 subst this;clear t;refine c L ?_;simp only[fK,dj,eH,O,aX];by_cases y:g=0;subst y;have N:j=[]:=by
  cases j with
  |nil=>rfl
  |cons w j=>grind
 subst N;refine bG (K:=Unit) (λ_=>[I 0]) (λ_=>r) (λ_=>0) (λ_=>True) () trivial ?_;intro _ _ H _;simp only[G,A,O,ns,e2];refine bw ?_;refine ajC (iD:=λk=>aM k .res (uu 0).pl (eM 0 _)) ?_;exact .dL _ _;have Y:=s.Vm (by omega);have ac:uu g=.q 2 (g -1) 0 g:=by rw[uu,if_neg y]
 rw[ac];have M:∀n∈j.map (λaf:Edge=>af.1),(0<=n.1/\n.1<(g:Int))/\0<=n.2/\n.2<(g:Int):=by
  intro n R;obtain⟨w,S,rfl⟩:=cy.1 R;exact U w S
 have au:Z (j.map (·.1))<=10000:=by simpa using V
 generalize j.map (·.1)=m at*;refine bG (K:=Nat×List Obj) (λd=>[I d.1]) (λd=>d.2) (λd=>Z m -d.1) (λd=>d.1<=Z m/\j5 d.2 2 (g -1) mm g (qX (λ_ _=>ab) (m.take d.1))) (0,r) ⟨by simp,Y.congr λv T _ _=>by simp[qX]⟩ ?_;rintro⟨u,ah⟩ ⟨X,o⟩ H B;simp only at X o B⊢;simp only[O,G,A,a];refine b (λh=>?_) (λh=>?_);have h:u<Z m:=by simpa using h
 have z:=M _ (bn h);simp only[aE h (ub _),O,iaaO_0,iaaO_1,aJ,F9,Ga,fY,e];refine Vl o z.1 z.2 λk x=>?_;rw[aZ,O];refine B (u+1,k) ⟨h,?_⟩ (by simp;omega);grind[Ls];have:u=Z m:=by simp at h;omega
 subst this;rw[dY]at o;exact Vh (by omega) o λk x=>x.snap
def Hq(c:D)(a b:Nat):Bool:=a==b||cQ c a b&&cQ c b a
def lg(b:D)(r:aD)(a:Lit):Bool:=nN b r a&&jG a&&Hq b r.ah.toNat a.ah.toNat
def p9(b:D)(a:List (Int×Int))(r:aD):List (Int×Int):=match r.ai.find? (lg b r)with|aa c=>a++[(90,c.bb)]|ae=>a
def qY(a:D):List (Int×Int):=a.ak.foldl (p9 a) []
theorem LH(c:D):∀(b:List aD)(a:List (Int×Int)),Z (b.foldl (p9 c) a)<=Z a+Z b
 |[],a=>by simp
 |r::b,a=>by
  have:=LH c b (p9 c a r);grind[p9]
theorem BW(h:dZ V f=ad):∃a:Nat,f=a/\a<Z V.Q:=by
 simp only[dZ,ba,decide_eq_true_eq]at h;exact⟨f.toNat,by omega,by omega⟩
theorem ajD(d:D)(z:mq d)(az:Z d.ak<=20):PR C 65 [.agg (cP T F d)] (eS ab b3 (qY d)):=by
 refine afM.pr ?_;simp only[eE,O,e4,fh,bh,aJ,gy,pb,e,aX,dR];refine c (Ho d z) ?_;refine bG (K:=Nat) (λg=>[ox 1 ((d.ak.take g).foldl (p9 d) []),I g]) (λg=>oy [.arr 0 2 []] 2 b3 ((d.ak.take g).foldl (p9 d) [])) (λg=>Z d.ak -g) (λg=>g<=Z d.ak) 0 (by simp) ?_;intro g ac V R;simp only[i,G,A,O,a,bz,ajB];refine aV (λh=>?_) (λh=>bw ?_);have h:g<Z d.ak:=by simpa using h
 have S:=R (g+1) h (by omega);simp only[mV h]at S;have Y:=z.2.1 _ (bn h);have J:=LH d (d.ak.take g) [];rw[h0,e2]at J;generalize(d.ak.take g).foldl (p9 d) []=l at*;have H:y ((Z l:Int)<20)=true:=by simp;omega
 refine a8 ?_ H;simp only[aE h (mP _ _),O,nF,yd,vh,wN,vi,vj,vk,vl,wO,vm,uj];generalize d.ak[g]=r at*;refine eB (U:=Z r.ai) (c:=λf=>ox 1 l::I f::aS T r) (λf=>∀j(n:j<Z r.ai),j<f->lg d r r.ai[j]=ab) (by simp) rfl (λf w x v N=>?_) (λx v=>?_);simp only[i,G,vh,wN,vi,vj,vk,vl,wO,vm,uj,aX,A,O,a,w,decide_true,aE w (jC _ _),o8,yc,wG,wH,yp,wI,wJ,wK,yq,wL,wM]
 have K:(AV.agg [AV.str r.au,I r.ah,eS T cT r.af,I r.aj.ax,.str r.aj.au,.str r.aj.aF,I r.aj.aR,eS T (bg T) r.ai,I r.bb])=.agg (aS T r):=rfl;have L:(AV.agg [I r.ai[f].ax,.str r.ai[f].au,I r.ai[f].ah,eS T cT r.ai[f].af,.str r.ai[f].bind,.str r.ai[f].aj,I r.ai[f].iG,I r.ai[f].op,I r.ai[f].bb])=.agg (bg T r.ai[f]):=rfl;rw[K,L]
 have no:lg d r r.ai[f]=ab->bd (aT .s .add (I f) (I 1)) λU=>v (ox 1 l::U::aS T r) (oy [.arr 0 2 []] 2 b3 l):=λp=>by
  rw[aZ,O];refine N λj n am=>?_;grind
 refine a8 (c (Vz d r r.ai[f]) (aV (λm=>c (Vy r.ai[f]) (aV (λt=>?_) (λt=>bw (no (by rw[lg,t];simp))))) (λm=>bw (no (by rw[lg,m]<;>rfl)))));have q:=m;simp only[nN,ba]at q;obtain⟨o,k,P⟩:=BW q.1.1;obtain⟨u,B,Q⟩:=BW q.1.2;have X:lg d r r.ai[f]=(o==u||cQ d o u&&cQ d u o):=by
  rw[lg,m,t,k,B,Hq];simp
 rw[k,B];refine c (LG (cZ:=cQ d) P Q) ?_;refine b (λp=>?_) (λp=>?_);rw[wU,O,yv,O];refine VB (M:=[.arr 0 2 []]) (a7:=b3) rfl (by omega) ?_;rw[aZ,O];have M:r.ai.find? (lg d r)=aa r.ai[f]:=by
  rw[aa0];exact(by grind)
 simp_all[p9];rw[<-k];exact no (by grind);simp only[i,G,vm,aX,A,O,a,cn,decide_false];refine bw ?_;rw[aZ,O];have M:r.ai.find? (lg d r)=none:=by
  rw[Fh];intro o k;obtain⟨j,n,rfl⟩:=kg.1 k;rw[x j n n];decide
 grind[p9];have:g=Z d.ak:=by simp at h;omega
 subst this;rw[dY];exact ajA (M:=[.arr 0 2 []]) (by simp)
def cr(a b:S):Int:=if a.ah<b.ah then -1 else if b.ah<a.ah then 1 else jQ a.af b.af
def vu(op:Int)(a b:aG):Bool:=if op=1 then nI a b==0 else if op=2 then nI a b !=0 else if op=3 then y (nI a b<0)else y (nI a b<=0)
theorem Hr(a d:S)(f:dF a.af):PR C 39 [.agg (cF T a),.agg (cF F d)] (I (cr a d)):=by
 apply ad1.pr;simp only[pX,O,bh,aJ,oc,s7,e,A,eU];refine b (by simp_all[cr]) (λh=>?_);rw[cr,if_neg (by grind)];refine b (by simp_all) (λh=>?_);rw[if_neg (by grind)];exact c (mh _ _ f) (jS rfl)
def uv(d:List Int)(args:List aG)(a:Nat):Bool:=match args[a]?,d[a]? with|aa b,aa c=>nJ b&&b.ty==c|_,_=>ad
def vv(d:D)(c:cO)(a:S):Bool:=if c.of<0 then a.aj== -1 else match d.aw[c.of.toNat]? with|ae=>ab|aa b=>y (0<=a.aj)&&(y (a.aj<Z b.az)&&a.aj !=eD b [])
def vw(c:D)(b:cO)(a:S):Bool:=(Z a.af:Int)==Z b.a6&&(ay (Z a.af)).all (uv b.a6 a.af)&&vv c b a
def qZ(b:D)(a:S):Bool:=y (0<=a.ah)&&match b.Q[a.ah.toNat]? with|ae=>ab|aa c=>vw b c a
def kA(a:D):Prop:=∀b∈a.Q,b.of<Z a.aw
theorem zX(h:N<U)(a:cj N=ab):(ay U).all cj=false:=by
 grind
theorem ajE(j:D)(d:S)(t:eA j)(J:kA j)(E:Sm d.af):PR C 66 [.agg (cP T F j),.agg (cF bC d)] (.bool (qZ j d)):=by
 apply aeT.pr;simp only[eE,pX,O,bh,aJ,rW,kv,oc,s7,s8,e,aX,A,hz,bz,G];refine ea (λh=>a8 (bK ?_)) (λh=>?_);grind[decide,qZ];have w:y (0<=d.ah)=true:=by simp at h⊢;omega
 rw[qZ,w,c3];let⟨m,B⟩:∃m:Nat,d.ah=m:=⟨d.ah.toNat,by grind⟩;simp only[B,eR];refine ea (λh=>a8 (bK ?_)) (λh=>?_);grind;have o:m<Z j.Q:=by simp at h;omega
 rw[bq o];have n:=bn o;have N:=t.tb _ n;have M:=J _ n;simp only[aE o (ji _ _),O,bh,aJ,wx,e,aX,cv,wu,yb,rZ,r1,r2,te,sa,sb,sd];generalize j.Q[m]=f at*;refine b (λh=>bK ?_) (λh=>?_);grind[vw];have L:Z d.af=Z f.a6:=by simp at h;omega
 have z:vw j f d=((ay (Z d.af)).all (uv f.a6 d.af)&&vv j f d):=by
  rw[vw];have:((Z d.af:Int)==Z f.a6)=true:=by simpa using h
  rw[this]<;>rfl
 rw[z];refine eB (U:=Z d.af) (c:=λg=>ff::I g::bO T f) (λg=>(ay g).all (uv f.a6 d.af)=ad) (by simp) rfl (λg l s u H=>?_) (λs u=>?_);have r:g<Z f.a6:=by omega
 have x:uv f.a6 d.af g=(nJ d.af[g]&&d.af[g].ty==f.a6[g]):=by
  rw[uv,bq l,bq r]
 simp only[i,G,rZ,r1,r2,te,sa,sb,sd,A,O,a,l,decide_true,aE l (s4 _),aE r (jh _),u9,bh,aJ,Dr,lN,e,cv];refine a8 (c (wB _) ?_);simp only[bI,O];refine ib (λv=>?_) (λk=>a8 (bK (by rw[zX l (by rw[x,k]<;>rfl)]<;>rfl)));refine b (λk=>bK ?_) (λk=>?_);grind;have:(d.af[g].ty==f.a6[g])=true:=by simpa using k
 rw[E.inc l,O];exact H (by grind);rw[s,c3,vv];simp only[i,G,rZ,r1,r2,te,sa,sb,sd,A,O,a,cn,decide_false];refine bw (b (λk=>?_) (λk=>?_));rw[if_pos (by grind)];simp only[c6,O];simp;rw[if_neg (by grind)];let⟨q,n⟩:∃q:Nat,f.of=q:=⟨f.of.toNat,by grind⟩;have p:q<Z j.aw:=by omega
 simp only[n,eR,bq p,aE p (kK _ _),O,bh,aJ,pa,jj,aX,A,e];refine aV (λv=>aV (λK=>?_) (by grind[bK])) (by grind[bK]);apply c (BO _ (t.aN _ (bn p)));simp only[cv,O];simp_all
def vx(a:List S):Nat->Bool
 |0=>ad
 |j+1=>match a[j]?,a[j+1]? with|aa b,aa c=>y (cr b c<0)|_,_=>ad
def mW(d:D)(a:List S)(b:Nat):Bool:=(match a[b]? with|aa c=>qZ d c|ae=>ad)&&vx a b
def hR(b:D)(a:List S):Bool:=(ay (Z a)).all (mW b a)
theorem VC(e:D)(b:List S)(v:eA e)(u:kA e)(o:Sm b)(l:∀r∈b,dF r.af):PR C 24 [.agg (cP T F e),eS c8 (cF bC) b] (.bool (hR e b)):=by
 apply aeL.pr;simp only[eE,O,aX,gy];refine eB (U:=Z b) (c:=λd=>[ff,I d]) (λd=>(ay d).all (mW e b)=ad) (by simp) rfl (λd f p k z=>?_) (λp k=>?_);simp only[i,G,A,O,a,f,decide_true,aE f (fB _ _),ku,eU];have t:mW e b d=(qZ e b[d]&&vx b d):=by rw[mW,bq f]
 have no:mW e b d=ab->aM [] .res (AV.pl ff) (.bool (hR e b)):=λg=>bK (zX f g);have yes:mW e b d=ad->bd (aT .s .add (I d) (I 1)) λx=>k [ff,x] []:=λg=>by
  rw[o.inc f,O];grind
 refine a8 (dA (M:=[]) (!mW e b d) (λB n=>?_) ?_);rw[t]at n;apply c (ajE e b[d] v u (l _ (bn f)).1);simp only[bI,O];refine ib (λq=>?_) (by grind);rcases d with _|j;refine aV (λh=>by simp at h) (λ_=>kB n (by rw[q]<;>rfl));have m:j<Z b:=by omega
 have w:aT .s .sub (I ((j+1:Nat):Int)) (I 1)=aa (I (j:Int)):=by
  rw[nG (by omega) (by have:=o.lt f;omega)];simp
 refine aV (λ_=>?_) (λh=>by simp at h);rw[w,O];simp only[aE m (fB _ _),O,ku];apply c (Hr b[j] b[j+1] (l _ (bn m)));simp only[hz,O];grind[vx];simp only[G];exact dw no yes;simp only[i,G,A,O,a,cn,decide_false];exact bw (jk p)
def zV:aG:=⟨0,0,[]⟩
def cD(b:bc)(a:aK):aG×Bool:=if a.aF=[]then(a.const,ad)else match b.aA.findIdx? (λd=>d==a.aF)with|aa c=>(b.bH.getD c zV,ad)|ae=>(zV,ab)
def j7(a:bc)(b:List aK):List aG:=b.map λc=>(cD a c).1
structure TO{α:Type}(c:α->α->Int):Prop where
 eq:∀a b,c a b=0<->a=b
 uw:∀a b,c a b<0<->0<c b a
 trans:∀a b d,c a b<0->c b d<0->c a d<0
theorem TO.int:TO fE:=by
 refine⟨λa b=>yi,λa b=>?_,λa b c=>?_⟩;grind[fE];grind[fE]
def mX(b:K->K->Int):List K->List K->Int
 |[],[]=>0
 |[],_::_=> -1
 |_::_,[]=>1
 |a::d,c::e=>if b a c=0 then mX b d e else b a c
theorem TO.lex{e:K->K->Int}(h:TO e):TO (mX e):=by
 have heq:∀c a,mX e c a=0<->c=a:=by
  intro c;induction c with
  |nil=>intro a;cases a<;>simp[mX]
  |cons d c l=>
   intro a;rcases a with _|⟨b,a⟩;simp[mX];simp only[mX,CF];split;rename_i f;rw[l,<-h.eq d b];simp[f];rename_i f;rw[<-h.eq d b];simp[f]
 have p:∀c a,mX e c a<0<->0<mX e a c:=by
  intro c;induction c with
  |nil=>intro a;cases a<;>simp[mX]
  |cons d c l=>
   intro a;rcases a with _|⟨b,a⟩;simp[mX];simp only[mX];have q:e d b=0<->e b d=0:=by rw[h.eq,h.eq];exact eq_comm
   by_cases f:e d b=0;grind;rw[if_neg f,if_neg (λo=>f (q.2 o))];exact h.uw d b
 refine⟨heq,p,?_⟩;intro c;induction c with
 |nil=>
  intro a j g i;rcases a with _|⟨b,a⟩;omega;rcases j with _|⟨k,j⟩;grind;simp[mX]
 |cons d c l=>
  intro a j g i;rcases a with _|⟨b,a⟩;simp[mX]at g;rcases j with _|⟨k,j⟩;simp[mX]at i;simp only[mX]at g i⊢;by_cases m:e d b=0;have:=(h.eq d b).1 m;grind;rw[if_neg m]at g;by_cases n:e b k=0;have:=(h.eq b k).1 n;grind;rw[if_neg n]at i;have:=h.trans d b k g i;omega
theorem TO.of{d e:K->K->Int}(h:TO d)(c:∀a b,e a b=d a b):TO e:=
 ⟨λa b=>by rw[c];exact h.eq a b,λa b=>by rw[c,c];exact h.uw a b,λa b f=>by rw[c,c,c];exact h.trans a b f⟩
theorem TO.byte:TO (λa b:UInt8=>fE a.toNat b.toNat):=
 ⟨(by grind[yi,GI]),λa b=>TO.int.uw _ _,λa b c=>TO.int.trans _ _ _⟩
theorem VD:∀b c:d,oe b c=mX (λa e:UInt8=>fE a.toNat e.toNat) b c
 |[],[]=>rfl
 |[],_::_=>rfl
 |_::_,[]=>rfl
 |a::b,e::c=>by
  rw[oe,mX,VD b c];simp[yi,GI]
theorem TO.str:TO oe:=TO.byte.lex.of VD
theorem TO.val:TO nI:=by
 have q:∀j w:aG,nI j w=0<->j=w:=by
  rintro⟨a,b,k⟩ ⟨c,d,l⟩;simp only[nI,aG.mk.injEq];split;grind[yi];rename_i h;have h:a=c:=by simpa using h
  split;grind[yi];rename_i i;have i:b=d:=by simpa using i
  rw[TO.str.eq];simp[h,i]
 have i:∀j w:aG,nI j w<0<->0<nI w j:=by
  rintro⟨a,b,k⟩ ⟨c,d,l⟩;simp only[nI];by_cases f:a=c;subst f;by_cases g:b=d;subst g;simp only[ne_eq,not_true_eq_false,if_false];exact TO.str.uw k l;have s:¬d=b:=λh=>g h.symm;simp only[ne_eq,not_true_eq_false,if_false,g,s,not_false_eq_true,if_true];exact TO.int.uw b d;have r:¬c=a:=λh=>f h.symm;simp only[ne_eq,f,r,not_false_eq_true,if_true];exact TO.int.uw a c
 refine⟨q,i,?_⟩;rintro⟨a,b,k⟩ ⟨c,d,l⟩ ⟨o,p,t⟩;simp only[nI];intro h e;by_cases f:a=c;subst f;rw[if_neg (by simp)]at h;by_cases m:a=o;subst m;rw[if_neg (by simp)]at e⊢;by_cases g:b=d;subst g;rw[if_neg (by simp)]at h;by_cases n:b=p;subst n;rw[if_neg (by simp)]at e⊢;exact TO.str.trans _ _ _ h e;omega;rw[if_pos g]at h;by_cases n:d=p;grind;rw[if_pos n]at e;have:=TO.int.trans _ _ _ h e;grind[TM];omega
 rw[if_pos f]at h;by_cases m:c=o;grind;rw[if_pos m]at e;have:=TO.int.trans _ _ _ h e;grind[TM]
theorem VE:∀b c:List aG,jQ b c=mX nI b c
 |[],[]=>rfl
 |[],_::_=>rfl
 |_::_,[]=>rfl
 |a::b,d::c=>by rw[jQ,mX,VE b c]
theorem TO.aB:TO jQ:=TO.val.lex.of VE
theorem oz(a b:S):cr a b=0<->a.ah=b.ah/\a.af=b.af:=by
 unfold cr;split;simp;omega;split;simp;omega;rw[TO.aB.eq];grind
theorem w2(a b:S):cr a b<0<->0<cr b a:=by
 unfold cr;by_cases h:a.ah<b.ah;omega;by_cases c:b.ah<a.ah;omega;rw[if_neg h,if_neg c,if_neg c,if_neg h];exact TO.aB.uw _ _
theorem zY(b c d:S):cr b c<0->cr c d<0->cr b d<0:=by
 unfold cr;intro h a;split at h;omega;split at h;omega;split at a;omega;split at a;omega;rw[if_neg (by omega),if_neg (by omega)];exact TO.aB.trans _ _ _ h a
def gj(a:List S):Prop:=∀b c(d:b<Z a)(e:c<Z a),b<c->cr a[b] a[c]<0
variable{X:List S}
theorem ajF(h:∀b,b<Z X->vx X b=ad):gj X:=by
 intro b a i c j;induction a with
 |zero=>omega
 |succ a f=>
  have d:a<Z X:=by omega
  have e:=h (a+1) c;simp only[vx,bq d,bq c,decide_eq_true_eq]at e;by_cases g:b=a;grind;exact zY _ _ _ (f d (by omega)) e
def eL(b:Int)(args:List aG)(a:S):Bool:=a.ah==b&&y (a.af=args)
def mY(a:List S)(b:Int)(args:List aG):Int:=b2 (eL b args) a
theorem Hs(b:Int)(args:List aG)(a:S)(c:Int):eL b args a=ad<->cr a ⟨b,args,c⟩=0:=by
 rw[oz];simp[eL]
variable{bZ:S}{ca:Int}
theorem D4{args:List aG}(h:cr bZ ⟨f,args,ca⟩≠0):eL f args bZ=false:=by
 grind[Hs]
theorem VF(b:gj X){args:List aG}(a:U<Z X)(h:eL f args X[U]=ad):mY X f args=U:=by
 refine ue a (λe c d=>?_) h;have g:=b e U c a d;rw[Hs _ _ _ 0]at h;grind[oz,D4,cr,trans]
theorem ajG{bk:BK}(h:U<9223372036854775808):aT bk .quo (I (U:Int)) (I 2)=aa (I ((U/2:Nat):Int)):=by
 have a:((U:Int).tdiv 2)=((U/2:Nat):Int):=by
  rw[ar0 (by omega)];omega
 simp only[aT,if_true,kp];grind[wrap64]
theorem k9(d:List S)(f:Int)(args:List aG)(H:Sm d)(D:∀x∈d,dF x.af)(q:gj d):PR C 9 [eS F (cF T) d,I f,eS bC cV args] (I (mY d f args)):=by
 apply r9.pr;have E:mb [(I 0),.aq,(I 0)] [(0,1,I f),(1,1,eS bC cV args)]=aa (cF bC ⟨f,args,0⟩):=rfl;simp only[E,O,ac1,aX,aie,aif,aih]
 refine bG (K:=Nat×Nat) (λj=>[I 0,I j.1,I j.2,I f,eS bC cV args,I 0]) (λ_=>[]) (λj=>j.2 -j.1) (λj=>j.1<=j.2/\j.2<=Z d/\(∀e(m:e<Z d),e<j.1->cr d[e] ⟨f,args,0⟩<0)/\∀e(m:e<Z d),j.2<=e->0<cr d[e] ⟨f,args,0⟩) (0,Z d) ⟨by simp,by simp,by simp,λe m h=>by simp at h;omega⟩ ?_;rintro⟨n,o⟩ ⟨y,t,u,v⟩ J r;simp only at y t u v r⊢;simp only[i,G,A,O,a];unfold Sm at H;refine b (λh=>?_) (λh=>?_)
 have h:n<o:=by simpa using h
 have z:aT .s .add (I (n:Int)) (I (o:Int))=aa (I ((n+o:Nat):Int)):=by
  rw[ye (by omega) (by omega)];simp
 have p:(n+o)/2<Z d:=by omega
 rw[z,O,ajG (by omega),O];generalize K:(n+o)/2=g at*;simp only[aE p (fB _ _),O,ku];have B:(AV.agg [I f,eS bC cV args,I 0])=.agg (cF bC ⟨f,args,0⟩):=rfl;rw[B];apply c (Hr d[g] ⟨f,args,0⟩ (D _ (bn p)));simp only[c6,A,O];refine b (λk=>?_) (λk=>?_);have k:cr d[g] ⟨f,args,0⟩=0:=by simpa using k
 rw[VF q p ((Hs _ _ _ 0).2 k)];simp;have k:cr d[g] ⟨f,args,0⟩≠0:=by simpa using k
 refine b (λl=>?_) (λl=>?_);have l:cr d[g] ⟨f,args,0⟩<0:=by simpa using l
 rw[aZ,O];refine r (g+1,o) ⟨by simp;omega,t,λe m M=>?_,v⟩ (by simp;omega);by_cases w:e=g;grind;exact zY _ _ _ (q e g m p (by omega)) l;have l:0<cr d[g] ⟨f,args,0⟩:=by simp at l;omega
 refine r (n,g) ⟨by simp;omega,by simp;omega,u,λe m L=>?_⟩ (by simp;omega);by_cases w:e=g;grind;rw[<-w2];exact zY _ _ _ ((w2 _ _).2 l) (q g e p m (by omega));have:n=o:=by simp at h;omega
 subst this;refine jS (wC λe m=>D4 (ca:=0) ?_);grind
theorem sq(b:K->Bool)(a:List K):(∃i,∃h:i<Z a,b2 b a=i/\a.find? b=aa a[i])\/(b2 b a= -1/\a.find? b=ae):=by
 rcases h:a.findIdx? b with _|i;grind[b2];let⟨c,e,d⟩:=qt.1 h;refine .inl ⟨i,c,by rw[b2,h],?_⟩;grind[List.find?_eq_some_iff_getElem]
def LI(a:D)(c:Int):Int:=match a.Q[c.toNat]? with|aa d=>(match a.aw[d.of.toNat]? with|aa b=>eD b []|ae=> -1)|ae=> -1
def yy(d:D)(c:List S)(a:Int)(args:List aG):Int:=match c.find? (eL a args)with|aa b=>b.aj|ae=>LI d a
def sr(a:D)(e b c:Int):Bool:=match a.Q[e.toNat]? with|aa f=>(match a.aw[f.of.toNat]? with|aa d=>vr d b c|ae=>ab)|ae=>ab
def ss(d:D)(c:List S)(b:bc)(a:Lit):Bool:=
 if a.ax=1 then(match c.find? (eL a.ah (j7 b a.af))with
  |ae=>ab
  |aa e=>a.bind==[]||(match b.aw.findIdx? (λg=>g==a.bind)with|aa f=>b.az.getD f 0==e.aj|ae=>ab))
 else if a.ax=2 then(c.find? (eL a.ah (j7 b a.af))).isNone
 else if(a.ax==3||a.ax==4)=ad then sr d a.ah a.iG (yy d c a.ah (j7 b a.af))==(a.ax==3)
 else vu a.op ((j7 b a.af).getD 0 zV) ((j7 b a.af).getD 1 zV)
def jT(a:bc)(c:d):Int:=match a.aw.findIdx? (λe=>e==c)with|aa b=>a.az.getD b 0|ae=>0
def su(c:D)(r:aD)(a:bc):Int:=
 if r.aj.ax=1 then r.aj.aR else if r.aj.ax=2 then jT a r.aj.aF else
 if r.aj.ax=3 then(match c.aO[r.aj.aR.toNat]? with|aa b=>b.gU.getD (jT a r.aj.aF).toNat 0|ae=>0)else -1
def kP(b:D)(r:aD)(a:bc):S:=⟨r.ah,j7 a r.af,su b r a⟩
def jq(c:List S)(a:Int):Nat:=Z (c.filter λb=>b.ah==a)
def w3(a:List S)(b:Nat):Bool:=match a[b]? with|aa c=>y (2000<(jq (a.take (b+1)) c.ah:Int))|ae=>ab
def iP(a:List S):Bool:=(ay (Z a)).any (w3 a)
theorem VH(a:List S)(b:Int):jq a b<=Z a:=nX _ _
theorem LJ(h:U<Z X)(a:Int):jq (X.take (U+1)) a=jq (X.take U) a+if X[U].ah=a then 1 else 0:=by
 grind[List.take_succ_eq_append_getElem,jq,List.length_append]
def gN(c d:List Obj):Prop:=∀(a:Nat)(b:Obj),c[a]?=aa b->d[a]?=aa b
variable{fq:List Obj}
theorem gN.trans{a:List Obj}(h:gN M fq)(e:gN fq a):gN M a:=λb c d=>e b c (h b c d)
theorem gN.app(a b:List Obj):gN a (a++b):=λd e c=>by
 grind
variable{gF:Obj}
theorem gN.set(h:gN M fq)(d:Z M<=U):gN M (fq.set U gF):=λb c a=>by
 have:=(fH.1 a).1;rw[uS (by omega)];exact h b c a
def qa(c:List Obj)(d:AV)(b:List S):Prop:=∃id a,d=.q id a 0 (Z b)/\c[id]?=aa (.arr a 3 (b.map (cF ab)))
theorem qa.ext(h:qa M E X)(a:gN M fq):qa fq E X:=by
 let⟨id,b,c,d⟩:=h;exact⟨id,b,c,a _ _ d⟩
theorem qa.mr(h:qa M E X):aM M .cd E (eS ad (cF ab) X):=by
 obtain⟨id,a,rfl,b⟩:=h;simp_all[om]
theorem qa.pl(h:qa M E X):E.pl=E:=by
 obtain⟨id,a,rfl,b⟩:=h;rfl
def jH(b:List S)(a:S):Nat->Nat
 |0=>0
 |k+1=>match b[k]? with|aa c=>if 0<cr c a then jH b a k else k+1|ae=>k+1
def jI(a:List S)(b:S):List S:=a.take (jH a b (Z a))++b::a.drop (jH a b (Z a))
def dI(a:D)(c:Int):Option bQ:=match a.Q[c.toNat]? with|aa b=>if b.of<0 then ae else a.aw[b.of.toNat]?|ae=>ae
def db(f:D)(b:List S)(a:S):List S:=
 match dI f a.ah with
 |aa e=>if a.aj=eD e []then b else(match b.findIdx? (eL a.ah a.af)with
  |aa d=>(match b[d]? with|aa c=>b.set d ⟨c.ah,c.af,eD e [c.aj,a.aj]⟩|ae=>b)
  |ae=>jI b a)
 |ae=>if(b.findIdx? (eL a.ah a.af)).isSome=ad then b else jI b a
theorem VI(b:List S)(a:S):∀c,jH b a c<=c
 |0=>by simp[jH]
 |k+1=>by
  unfold jH;have:=VI b a k;grind
variable{b1:List (List AV)}
theorem VJ{id len:Nat}(h:M[id]?=aa (.arr U N b1))(e:z<=len):fA (.sl N) (.q id U 0 len) ae (aa (I z)) M=aa (.q id U 0 z):=by
 have b:eT len len (aa (I (z:Int)))=aa z:=by
  simp only[eT];rw[if_pos (by omega)];simp
 have c:∀d a,eT d a ae=aa a:=λ_ _=>rfl;simp[fA,b,c,h]
theorem Ht{id len:Nat}(h:M[id]?=aa (.arr U N b1))(e:z<=len):fA (.sl N) (.q id U 0 len) (aa (I z)) ae M=aa (.q id U z (len -z)):=by
 have b:eT len 0 (aa (I (z:Int)))=aa z:=by
  simp only[eT];rw[if_pos (by omega)];simp
 have c:∀d a,eT d a ae=aa a:=λ_ _=>rfl;simp[fA,b,c,h]
theorem BX{id off len:Nat}(h:M[id]?=aa (.arr U N b1))(a:off+len<=Z b1):h6 M N (.q id U off len)=aa ((b1.drop off).take len):=by
 grind[h6]
theorem ajJ(a:List S)(b:S):Z (jI a b)=Z a+1:=by
 grind[jI]
def yz(b:List Obj)(c:List S)(r:AV)(a:List Obj):Prop:=gN b a/\qa a r c
theorem ajK{id:Nat}(h:M[id]?=aa (.arr U 3 (X.map (cF ab))))(a:N<Z X):aQ 3 ad (.ptr id U N 0) M=aa (.agg (cF ab X[N])):=
 mj h (by simp[a]) rfl
theorem ajL{id:Nat}(a:List S)(e:S)(a3:Z a<4294967296)(X:∀e∈a,dF e.af)(i:M[id]?=aa (.arr U 3 (a.map (cF ab))))(Q:AV->List Obj->Prop)(V:∀r F,yz M (jI a e) r F->Q r F):
 jB (λf l aj=>
  jn (λL=>
  bd (aT .s .gtr (g f 0) (I 0)) λak=>
  gd ak ad (
  bd (aT .s .sub (g f 0) (I 1)) λam=>
  bd (bP 3 (.q id U 0 (Z a)) am l) λau=>
  bd (aQ 3 ad au l) λax=>
  bd (aQ 3 ad (.aH ab (cF ab e) 0) l) λaz=>
  cp C 39 [ax,az] l λaA=>
  bd (aT .s .gtr aA (I 0)) λaF=>
  L [aF] l) (
  L [ff] l)) λP n=>
  ez (g P 0) (
  bd (aT .s .sub (g f 0) (I 1)) λaR=>
  aj [aR] n) (
  bd (fA (.sl 3) (.q id U 0 (Z a)) ae (aa (g f 0)) n) λx=>
  bd (aQ 3 ad (.aH ab (cF ab e) 0) n) λN=>
  bd (fS 3 [(I 0),.aq,(I 0)] 1 [(0,N)]) λy=>
  bd (fA (.sl 3) (.q id U 0 (Z a)) (aa (g f 0)) ae n) λk=>
  cq (cJ 3 40 .dL x n) λz m=>
  (
  bd (fA (.sl 3) (.q id U 0 (Z a)) (aa (g f 0)) ae m) λA=>
  ob A k)/\(
  (
  bd (aQ 3 ad (.aH ab (cF ab e) 0) m) λa0=>
  ob a0 N)/\(
  cq (cJ 3 40 z y m) λB o=>
  (
  bd (fA (.sl 3) (.q id U 0 (Z a)) (aa (g f 0)) ae o) λD=>
  ob D k)/\(
  cq (cJ 3 40 B k o) λE u=>
  Q (AV.pl E) u))))) [I (Z a)] M:=by
 apply bG (K:=Nat) (λd=>[I d]) (λ_=>M) (λd=>d) (λd=>d<=Z a/\jH a e (Z a)=jH a e d) (Z a) ⟨c7 _,rfl⟩;rintro d ⟨p,W⟩ a2 a4;have Y:id<Z M:=(fH.1 i).1;simp only[G,eU,O,ku,bz];have H:jH a e (Z a)=d->(bd (fA (.sl 3) (.q id U 0 (Z a)) ae (aa (I d)) M) λx=>
  bd (fS 3 [(I 0),.aq,(I 0)] 1 [(0,.agg (cF ab e))]) λy=>
  bd (fA (.sl 3) (.q id U 0 (Z a)) (aa (I d)) ae M) λk=>
  cq (cJ 3 40 .dL x M) λz m=>
  (
  bd (fA (.sl 3) (.q id U 0 (Z a)) (aa (I d)) ae m) λA=>
  ob A k)/\(
  (ob (.agg (cF ab e)) (.agg (cF ab e)))/\(
  cq (cJ 3 40 z y m) λB o=>
  (
  bd (fA (.sl 3) (.q id U 0 (Z a)) (aa (I d)) ae o) λD=>
  ob D k)/\(
  cq (cJ 3 40 B k o) λE u=>
  Q (AV.pl E) u)))):=by
  intro K;rw[VJ i p,O,K8,O,Ht i p,O];have ah:h6 M 3 (.q id U 0 d)=aa ((a.take d).map (cF ab)):=by
   rw[BX i (by simpa using p),lq,OV]
  refine aY (pe (a7:=cF ab) (x:=a.take d) rfl ah (by simp;omega)) ?_;rw[K7 M 3 (cF ab) (a.take d) (.arr 0 3 [])];have v:Z M<Z (M++[Obj.arr 0 3 []]):=by simp
  have get:∀(J:Nat)(w:List S),(a1 (M++[Obj.arr 0 3 []]) (Z M) 3 (cF ab) J w)[id]?=aa (.arr U 3 (a.map (cF ab))):=by
   intro J w;simp only[a1];rw[uS (by omega),oG Y];exact i
  refine⟨by rw[Ht (get _ _) p,O];exact rfl,by simp,?_⟩;refine ys (a7:=cF ab) v rfl (by simp;omega) ?_;refine⟨by rw[Ht (get _ _) p,O];exact rfl,?_⟩;have ai:h6 (a1 (M++[Obj.arr 0 3 []]) (Z M) 3 (cF ab) (0+1) (a.take d++[e])) 3 (.q id U d (Z a -d))=aa ((a.drop d).map (cF ab)):=by
   rw[BX (get _ _) (by simp;omega),Ja,gT (by simp)]
  refine aY (GS v ai (by simp;omega)) ?_;have T:a.take d++[e]++a.drop d=jI a e:=by rw[jI,K];simp
  rw[T];exact V _ _ ⟨(gN.app _ _).set (c7 _),Z M,_,rfl,oj v⟩
 rcases d with _|j;exact aV (λh=>by simp at h) (λ_=>bw (H (by rw[W]<;>rfl)));have t:j<Z a:=by omega
 have ac:aT .s .sub (I ((j+1:Nat):Int)) (I 1)=aa (I (j:Int)):=by
  rw[nG (by omega) (by omega)];simp
 have K:jH a e (j+1)=if 0<cr a[j] e then jH a e j else j+1:=by
  rw[jH,bq t]
 refine aV (λ_=>?_) (λh=>by simp at h);simp only[ac,O,fw i t,ajK i t];apply c (Hr a[j] e (X _ (bn t)));simp only[eU,O];refine b (λR=>?_) (λR=>?_);grind;exact H (by grind)
theorem LL{id:Nat}(h:M[id]?=aa (.arr U 3 (X.map (cF ab))))(a:N<Z X):
 du 1 (.ptr id U N 2) (I f) M=aa (M.set id (.arr U 3 ((X.set N ⟨X[N].ah,X[N].af,f⟩).map (cF ab)))):=by
 have d:(X.map (cF ab))[N]?=aa (cF ab X[N]):=by simp[a]
 have c:(X.map (cF ab)).set N (e3 (cF ab X[N]) 2 [I f])=(X.set N ⟨X[N].ah,X[N].af,f⟩).map (cF ab):=by
  rw[List.map_set]<;>rfl
 have b:Z (cF ab X[N])=3:=rfl;simp[du,h,b,a,c]
theorem Hu(f:D)(a:List S)(d:S)(aF:eA f)(bm:kA f)(br:dZ f d.ah=ad)(be:Z a<4294967296)(au:∀d∈a,dF d.af)(a9:gj a)(bv:qa M E a):
 HR C 42 [.agg (cP T F f),E,.agg (cF ab d)] M (yz M (db f a d)):=by
 obtain⟨id,k,rfl,ax⟩:=bv;apply Ts.hq;let⟨o,K,V⟩:=BW br;have f3:id<Z M:=(fH.1 ax).1;simp only[eE,pX,O,fh,e4,bh,aJ,rW,kv,oc,s7,s8,e,K,aE V (ji _ _),Dv,hz];have L:gN M (M++[.arr 0 3 []]):=gN.app _ _;have A:=L _ _ ax;have bi:aM (M++[Obj.arr 0 3 []]) .cd (.q id k 0 (Z a)) (eS ad (cF ab) a):=om A (by simp);generalize f2:M++[Obj.arr 0 3 []]=l at*;have ce:yz M a (.q id k 0 (Z a)) l:=⟨L,id,k,rfl,A⟩
 have f4:=bm _ (bn V);have aA:dI f d.ah=if f.Q[o].of<0 then ae else f.aw[f.Q[o].of.toNat]?:=by
  rw[dI,K,eR,bq V]
 have tail:∀(of:Int),(0<=of->∃j:Nat,of=j/\j<Z f.aw)->
  ((of<0->db f a d=if(a.findIdx? (eL d.ah d.af)).isSome=ad then a else jI a d)/\
   (∀(j:Nat)(h:j<Z f.aw),of=j->db f a d=(match a.findIdx? (eL d.ah d.af)with
    |aa i=>(match a[i]? with|aa Y=>a.set i ⟨Y.ah,Y.af,eD f.aw[j] [Y.aj,d.aj]⟩|ae=>a)
    |ae=>jI a d)))->
  cp C 9 [.q id k 0 (Z a),I (o:Int),eS ab cV d.af] l λac=>
   bd (aT .s .geq ac (I 0)) λci=>ez ci (ez (.bool (y (0<=of))) (cq (cJ 3 40 .dL (.q id k 0 (Z a)) l) λa2 m=>
    bd (bP 4 (eS T (bp T) f.aw) (I of) m) λcl=>bd (aQ 4 ad cl m) λco=>bd (bP 3 (.q id k 0 (Z a)) ac m) λcs=>bd (dK 2 cs m) λc1=>bd (aQ 1 ab c1 m) λc2=>
    cp C 89 [co,c2,I d.aj] m λdl=>bd (bP 3 a2 ac m) λds=>bd (dK 2 ds m) λd0=>bd (du 1 d0 dl m) λa5=>yz M (db f a d) a2.pl a5) (yz M (db f a d) (AV.q id k 0 (Z a)).pl l))
   (jB (λn p cb=>
    jn (λa0=>
    bd (aT .s .gtr (g n 0) (I 0)) λd1=>
    gd d1 ad (
    bd (aT .s .sub (g n 0) (I 1)) λd2=>
    bd (bP 3 (.q id k 0 (Z a)) d2 p) λd3=>
    bd (aQ 3 ad d3 p) λd4=>
    bd (aQ 3 ad (.aH ab (cF ab d) 0) p) λd5=>
    cp C 39 [d4,d5] p λd6=>
    bd (aT .s .gtr d6 (I 0)) λd7=>
    a0 [d7] p) (
    a0 [ff] p)) λa4 z=>
    ez (g a4 0) (
    bd (aT .s .sub (g n 0) (I 1)) λd8=>
    cb [d8] z) (
    bd (fA (.sl 3) (.q id k 0 (Z a)) ae (aa (g n 0)) z) λd9=>
    bd (aQ 3 ad (.aH ab (cF ab d) 0) z) λa3=>
    bd (fS 3 [(I 0),.aq,(I 0)] 1 [(0,a3)]) λek=>
    bd (fA (.sl 3) (.q id k 0 (Z a)) (aa (g n 0)) ae z) λai=>
    cq (cJ 3 40 .dL d9 z) λel U=>
    (
    bd (fA (.sl 3) (.q id k 0 (Z a)) (aa (g n 0)) ae U) λem=>
    ob em ai)/\(
    (
    bd (aQ 3 ad (.aH ab (cF ab d) 0) U) λeq=>
    ob eq a3)/\(
    cq (cJ 3 40 el ek U) λes ak=>
    (
    bd (fA (.sl 3) (.q id k 0 (Z a)) (aa (g n 0)) ae ak) λex=>
    ob ex ai)/\(
    cq (cJ 3 40 es ai ak) λfd a6=>
    yz M (db f a d) (AV.pl fd) a6))))) [I (Z a)] l):=by
  intro of w H;have am:=k9 (T:=false) (F:=true) (bC:=false) a d.ah d.af (by grind[Sm]) au a9;rw[K]at am;apply eV _ am (.ck bi (.ck (.int _ _ _) (.ck eu (.nil _)))) (.int _ _);simp only[hz,O];rw[<-K];rcases u:a.findIdx? (eL d.ah d.af)with _|i;have P:mY a d.ah d.af= -1:=by rw[mY,b2,u]
  rw[P];refine bw ?_;have t:db f a d=jI a d:=by
   by_cases v:of<0;rw[H.1 v,u]<;>rfl
   obtain⟨j,R,x⟩:=w (by omega);rw[H.2 j x R,u]
  exact ajL a d be au A _ (λr fn h=>by rw[t];exact⟨L.trans h.1,h.2⟩);have B:i<Z a:=(qt.1 u).1;have P:mY a d.ah d.af=i:=by rw[mY,b2,u]
  rw[P];refine a8 ?_ (by simp);refine b (λN=>?_) (λN=>?_);let⟨j,R,x⟩:=w (by grind);subst R;have t:=H.2 j x rfl;rw[u]at t;simp only[bq B]at t;have bD:h6 l 3 (.q id k 0 (Z a))=aa (a.map (cF ab)):=by
   rw[BX A (by simp),lq,gT (by simp)]
  apply aY (pe (a7:=cF ab) (x:=a) rfl bD (by omega));have aR:gN l (l++[.arr 0 3 (a.map (cF ab))]):=gN.app _ _;have W:=aR _ _ A;have X:(l++[Obj.arr 0 3 (a.map (cF ab))])[Z l]?=aa (.arr 0 3 (a.map (cF ab))):=by simp
  have bb:(a.map (cF ab))[i]?=aa (cF ab a[i]):=by simp[B]
  simp only[aE x (kK _ _),O,jj,fw W B,pg W,c0 W bb,e,s8];apply c (Vo _ _ _ (aF.aN _ (bn x)));simp only[fw X B,O,pg X,e,LL X B];rw[t];refine⟨?_,Z l,0,by simp,?_⟩;exact(L.trans aR).set (by grind);grind;have v:of<0:=by simp at N;omega
  have t:=H.1 v;simp_all
 by_cases v:f.Q[o].of<0;have w:dI f d.ah=none:=by rw[aA,if_pos v]
 have:=tail f.Q[o].of (λh=>by omega) (by grind[db]);simp only[bz,G];refine aV (λh=>by simp at h;omega) (λ_=>bw ?_);exact this;let⟨j,az⟩:∃j:Nat,f.Q[o].of=j:=by grind
 have J:j<Z f.aw:=by omega
 have w:dI f d.ah=aa f.aw[j]:=by rw[aA,if_neg v,az,eR,bq J]
 rw[az];simp only[bz,G];refine aV (λ_=>?_) (λh=>by simp at h);simp only[aE J (kK _ _),O,jj];apply c (BO _ (aF.aN _ (bn J)));simp only[c6,O];refine b (λh=>?_) (λh=>?_);have:db f a d=a:=by rw[db,w];simp only;rw[if_pos (by simpa using h)]
 rw[this];exact ce;have:=tail j (by grind) ⟨λh=>by omega,λcc f1 N=>by
  have:j=cc:=by omega
  subst this;rw[db,w];simp only;rw[if_neg (by simpa using h)]<;>rfl⟩
 simp only[aE J (kK _ _),O,jj,bz,G]at this;simp only[oa,O];exact this
theorem nO:gj X<->X.Pairwise λf g=>cr f g<0:=by
 rw[ar1];exact⟨λh d e a b c=>h d e a b c,λh d e a b c=>h d e a b c⟩
theorem LM(e:gj X)(f:∀i∈X,cr i bZ≠0):∀c,c<=Z X->(∀a(b:a<Z X),c<=a->0<cr X[a] bZ)->
 (∀a(b:a<Z X),a<jH X bZ c->cr X[a] bZ<0)/\∀a(b:a<Z X),jH X bZ c<=a->0<cr X[a] bZ
 |0,_,h=>by grind[jH]
 |k+1,n,h=>by
  have d:k<Z X:=by omega
  rw[jH,bq d];simp only;split;rename_i g;refine LM e f k (by omega) λa b l=>?_;grind;rename_i g;have o:=f _ (bn d);refine⟨λa b m=>?_,h⟩;by_cases j:a=k;grind;exact zY _ _ _ (e a k b d (by omega)) (by omega)
theorem ajM(d:gj X)(i:∀c∈X,cr c bZ≠0):gj (jI X bZ):=by
 let⟨j,k⟩:=LM d i (Z X) (c7 _) (by omega);have l:=nO.1 d;rw[nO,jI];generalize jH X bZ (Z X)=n at*;rw[ar2,AR];refine⟨(by grind),⟨λc a=>?_,by grind⟩,λc a o b=>?_⟩;obtain⟨g,e,rfl⟩:=kg.1 a;simp_all[OW,w2];obtain⟨g,e,rfl⟩:=kg.1 a;rw[h0]at e;have f:cr X[g] bZ<0:=by grind
 rw[Fj];rcases b6.1 b with rfl|b;exact f;obtain⟨m,h,rfl⟩:=kg.1 b;rw[rh]at h;rw[OW];apply zY _ _ _ f;simp_all[w2]
theorem zZ{a:S}:a∈jI X bZ<->a=bZ\/a∈X:=by
 rw[jI,dt,b6];grind[List.mem_of_mem_take,List.mem_of_mem_drop,List.take_append_drop,jH]
theorem ajN{b a c:S}(d:bZ.ah=a.ah)(e:bZ.af=a.af)(f:b.ah=c.ah)(g:b.af=c.af):cr bZ b=cr a c:=by
 grind[cr]
theorem ajO(c:gj X)(h:U<Z X)(g:Int):gj (X.set U ⟨X[U].ah,X[U].af,g⟩):=by
 intro e f a b d;rw[aaJ]at a b;have:=c e f a b d;grind[ajN]
theorem ajP(h:X.findIdx? (eL bZ.ah bZ.af)=ae):∀a∈X,cr a bZ≠0:=by
 grind[List.findIdx?_eq_none_iff,oz,eL]
theorem VK(a:gj X):gj (db V X bZ):=by
 unfold db;grind[dI,ajM,ajP,eL,List.findIdx?_eq_some_iff_getElem,List.getElem?_eq_getElem,ajO]
theorem Hv{b:Int->List aG->Prop}(h:∀a∈X,b a.ah a.af)(d:b bZ.ah bZ.af):∀a∈db V X bZ,b a.ah a.af:=by
 have e:∀a∈jI X bZ,b a.ah a.af:=λa c=>by
  rcases zZ.1 c with rfl|c;exact d;exact h a c
 unfold db;grind
theorem VL:Z (db V X bZ)<=Z X+1:=by
 unfold db;grind[dI,ajJ,eL,List.findIdx?_eq_some_iff_getElem,List.getElem?_eq_getElem,List.length_set]
structure vy(p:D)(fs:List S):Prop where
 de:gj fs
 sm:∀f∈fs,dF f.af
 fz:∀f∈fs,dZ p f.ah=ad
theorem vy.add(h:vy V X)(f:dF bZ.af)(e:dZ V bZ.ah=ad):vy V (db V X bZ):=by
 have:=Hv (V:=V) (X:=X) (bZ:=bZ) (b:=λc d=>dF d/\dZ V c=ad) (λb a=>⟨h.sm b a,h.fz b a⟩) ⟨f,e⟩;exact⟨VK h.de,by grind,by grind⟩
def df(c:D)(a b:List S):List S:=b.foldl (db c) a
theorem LN:∀(b a:List S)(_:vy V a)(_:∀f∈b,dF f.af/\dZ V f.ah=ad),vy V (df V a b)
 |[],a,h,_=>h
 |f::b,a,h,c=>LN b _ (h.add (c f (by simp)).1 (c f (by simp)).2) (by grind)
theorem z1{c:D}:∀(b a:List S),Z (df c a b)<=Z a+Z b
 |[],a=>by simp[df]
 |f::b,a=>by
  have d:=z1 (c:=c) b (db c a f);grind[VL,df,List.length_cons]
theorem He(d:D)(f bs:List S)(J:eA d)(H:kA d)(L:Z f+Z bs<4294967296)(y:vy d f)(n:∀k∈bs,dF k.af/\dZ d k.ah=ad)(q:qa M E f):
 HR C 12 [.agg (cP T F d),E,eS bC (cF ab) bs] M (yz M (df d f bs)):=by
 refine KQ.hq ?_ (by simp[q.pl]);simp only[eE,O,fh,e4,aX,gy];apply bG (K:=Nat×AV×List Obj) (λc=>[c.2.1,I c.1]) (λc=>c.2.2) (λc=>Z bs -c.1) (λc=>c.1<=Z bs/\gN M c.2.2/\qa c.2.2 c.2.1 (df d f (bs.take c.1))) (0,E,M++[.arr 0 3 []]) ⟨by simp,gN.app _ _,q.ext (gN.app _ _)⟩;rintro⟨g,w,m⟩ ⟨B,j,e⟩ K s;simp only at B j e s⊢;simp only[i,G,A,O,a];refine b (λh=>?_) (λh=>?_);have h:g<Z bs:=by simpa using h
 have x:=n _ (bn h);have o:=z1 (c:=d) (bs.take g) f;rw[h0]at o;have l:=LN (bs.take g) f y λk z=>n k (sL z);have t:=λw m j e=>s (g+1,w,m) ⟨h,j,e⟩ (by simp;omega);simp only[df,mV h]at t;simp only[df]at e l o;generalize(bs.take g).foldl (db d) f=u at*;simp only[aE h (fB _ _),O,ku];refine c4 (Hu d u bs[g] J H x.2 (by omega) l.sm l.de e) (by simp[e.pl]) λr v p=>?_;rw[aZ,O]
 exact t r v (j.trans p.1) p.2;have:g=Z bs:=by simp at h;omega
 subst this;rw[dY]at e;rw[e.pl];exact⟨j,e⟩
theorem VM(b:bQ)(a:Nat):dB b a a=true:=by
 rw[dB,DX];exact .hy a a (by simp[qX,vq])
theorem LO(c:N<Z dS.az)(a:dB dS U N=ad)(b:dB dS N z=ad):dB dS U z=true:=by
 rw[dB,DX]at*;exact .via U N z a c b
theorem LP(h:eY dS=0)(a:U<Z dS.az)(b:N<Z dS.az):mn (Z dS.az) (dB dS) U N=false:=by
 grind[eY,mn,dB,ay]
theorem Hw(h:eY dS=0)(a:U<Z dS.az)(b:N<Z dS.az)(c:dB dS U N=ad)(d:dB dS N U=ad):U=N:=by
 have:=LP h a b;grind[mn]
theorem ajQ(h:0<=po U cZ cj):∃a:Nat,po U cZ cj=a/\a<U/\cj a=ad/\∀b,b<U->cj b=ad->cZ a b=true:=by
 unfold po at h⊢;rcases c:(ay U).find? (lT U cZ cj)with _|a;grind;rw[za]at c;grind[lT]
theorem LQ(h:0<=qW U cZ cj):∃b:Nat,qW U cZ cj=b/\b<U/\(∀a,a<U->cj a=ad->cZ a b=ad)/\∀c,c<U->(∀a,a<U->cj a=ad->cZ a c=ad)->cZ b c=true:=by
 let⟨b,d,e,f,g⟩:=ajQ h;have up:∀c,lU U cZ cj c=ad<->∀a,a<U->cj a=ad->cZ a c=true:=by
  intro c;simp only[lU,eQ,iz,h5,hv];constructor;grind;grind
 exact⟨b,d,e,(up b).1 f,by grind⟩
theorem BY(h:U<Z dS.az):eC dS (U:Int)=true:=by
 grind[eC]
theorem VN(h:eY dS=0)(d:U<Z dS.az)(e:N<Z dS.az):
 ∃a:Nat,eD dS [(U:Int),(N:Int)]=a/\a<Z dS.az/\dB dS U a=ad/\dB dS N a=true:=by
 have b:=LP h d e;unfold mn at b;simp only[Jb,decide_eq_false_iff_not,aa1]at b;let⟨a,g,f,c,_⟩:=LQ b.2;refine⟨a,?_,f,c U d (by simp),c N e (by simp)⟩;simp_all[eD,BY]
theorem VO(h:eY dS=0):∃a:Nat,eD dS []=a/\a<Z dS.az/\∀b,b<Z dS.az->dB dS a b=true:=by
 have f:=h;unfold eY at h;rw[if_neg (by omega)]at h;split at h;cases h
 split at h;cases h
 rename_i g;let⟨a,d,c,_,e⟩:=LQ (by omega:0<=qW (Z dS.az) (dB dS) λ_=>ab);refine⟨a,?_,c,by grind⟩;grind[eD,decide]
def z6(a:bQ)(b:Nat):Nat:=Z ((ay (Z a.az)).filter λc=>dB a c b)
theorem ajR(a:bQ)(b:Nat):z6 a b<=Z a.az:=by
 grind[dB,ay,z6]
variable{ee:K -> Bool}
theorem LR{b:K->Bool}:∀{a:List K}(_:∀x∈a,ee x=ad->b x=ad),Z (a.filter ee)<=Z (a.filter b)
 |[],_=>c7 _
 |x::a,h=>by
  have e:=LR (a:=a) λf d=>h f (by simp[d]);simp only[Fa];rcases c:ee x with _|_;cases b x<;>simp<;>omega
  simp[h x (by simp) c,e]
theorem VP{d:K->Bool}:∀{a:List K}{b:K}(_:∀x∈a,ee x=ad->d x=ad),b∈a->d b=ad->ee b=ab->Z (a.filter ee)<Z (a.filter d)
 |x::a,b,h,c,f,e=>by
  simp only[Fa];rcases b6.1 c with rfl|c;have:=LR (a:=a) λi g=>h i (by simp[g]);grind;have j:=VP (by grind) c f e;grind
theorem ajS(h:eY dS=0)(a:U<Z dS.az)(b:N<Z dS.az)(c:dB dS U N=ad)(d:U≠N):z6 dS U<z6 dS N:=by
 refine VP (b:=N) (by grind[LO]) (by grind) (VM dS N) ?_;grind[dB,absurd,Hw]
def lV(b:D):Prop:=∀a∈b.aw,eY a=0
theorem vz(h:dI V f=aa dS):dS∈V.aw:=by
 grind[dI]
def gw(c:D)(a:S):Prop:=∀b,dI c a.ah=aa b->eC b a.aj=ad
def vA(c:D)(a:S):Nat:=1+match dI c a.ah with|aa b=>z6 b a.aj.toNat|ae=>0
def lW(b:D)(a:List S):Nat:=(a.map (vA b)).sum
theorem ajT:lW V (jI X bZ)=lW V X+vA V bZ:=by
 grind[vA,jH,List.take_append_drop,lW,jI]
theorem VQ{g:S->Nat}:∀{a:List S}{b:Nat}(h:b<Z a)(c:S),((a.set b c).map g).sum+g a[b]=(a.map g).sum+g c
 |y::a,0,_,c=>by simp;omega
 |y::a,b+1,h,c=>by
  have d:b<Z a:=by simpa using h
  have:=VQ (g:=g) d c;grind
theorem z7(x:lV V)(o:∀b∈X,gw V b)(n:gw V bZ):
 (db V X bZ=X\/lW V X<lW V (db V X bZ))/\∀b∈db V X bZ,gw V b:=by
 have A:lW V X<lW V (jI X bZ):=by rw[ajT];unfold vA;omega
 have B:∀b∈jI X bZ,gw V b:=λb c=>by
  rcases zZ.1 c with rfl|c;exact n;exact o b c
 unfold db;rcases g:dI V bZ.ah with _|l;grind;simp only;split;grind;cases t:X.findIdx? (eL bZ.ah bZ.af)with
 |none=>grind
 |some a=>
  let⟨f,p,_⟩:=qt.1 t;simp only[bq f];have w:X[a].ah=bZ.ah:=by
   simp only[eL,ba,beq_iff_eq]at p;exact p.1
  have h:dI V X[a].ah=aa l:=by rw[w];exact g
  let⟨i,e,k⟩:=mo (o _ (bn f) l h);let⟨y,r,s⟩:=mo (n l g);have m:=x l (vz g);let⟨d,u,v,q,z⟩:=VN m k s;rw[e,r,u];refine⟨?_,λb c=>?_⟩;by_cases j:i=d;refine .inl ?_;have:(⟨X[a].ah,X[a].af,(d:Int)⟩:S)=X[a]:=by
   rw[<-j,<-e]
  simp_all;refine .inr ?_;have F:=VQ (g:=vA V) f ⟨X[a].ah,X[a].af,(d:Int)⟩;have E:=ajS m k v q j;have w1:vA V X[a]=1+z6 l i:=by unfold vA;rw[h,e]<;>rfl
  have H:vA V ⟨X[a].ah,X[a].af,(d:Int)⟩=1+z6 l d:=by unfold vA;rw[h]<;>rfl
  unfold lW;omega;rcases OX c with c|rfl;grind;intro G C;grind[dI,Option.some.inj,BY]
theorem Hy(e:lV V):∀(bs:List S){a:List S},(∀c∈a,gw V c)->(∀c∈bs,gw V c)->
 (df V a bs=a\/lW V a<lW V (df V a bs))/\∀c∈df V a bs,gw V c
 |[],a,h,_=>⟨.inl rfl,h⟩
 |b::bs,a,h,d=>by
  have f:=z7 e h (d b (by simp));have i:=Hy e bs f.2 λc g=>d c (by simp[g]);grind[df]
theorem ajV(d:∀a∈X,0<=a.ah/\a.ah<U)(c:∀b:Nat,b<U->jq X b<=2000):Z X<=2000*U:=by
 have key:∀(U:Nat)(X:List S),(∀a∈X,0<=a.ah/\a.ah<U)->(∀b:Nat,b<U->jq X b<=2000)->Z X<=2000*U:=by
  intro U;induction U with
  |zero=>
   intro X d _;rcases X with _|⟨f,i⟩;simp;have:=d f (by simp);omega
  |succ U e=>
   intro X d c;have g:=e (X.filter λa=> !(a.ah==(U:Int))) (by grind) (λb k=>by
    have:=c b (by omega);refine ix ?_ this;simp_all[jq,Jc,LR])
   have h:=c U (by omega);have j:Z X=Z (X.filter λa=>a.ah==(U:Int))+Z (X.filter λa=> !(a.ah==(U:Int))):=by
    clear g h e d c;induction X with
    |nil=>rfl
    |cons f i e=>simp only[Fa];grind
   grind[jq]
 simp_all
theorem VR(h:iP X=ab)(d:Int):jq X d<=2000:=by
 have g:∀b,b<Z X->w3 X b=false:=by
  intro b i;rcases e:w3 X b with _|_;rfl;have:iP X=true:=by
   rw[iP,Jd];exact⟨b,by simpa using i,e⟩
  rw[this]at h;cases h
 have key:∀a,a<=Z X->jq (X.take a) d<=2000:=by
  intro a;induction a with
  |zero=>grind[jq]
  |succ a j=>
   intro l;have c:a<Z X:=by omega
   have k:=j (by omega);rw[LJ c];split;rename_i e;have f:=g a c;rw[w3,bq c]at f;grind[LJ];omega
 grind[List.take_length]
theorem ajW(b:∀a∈X,dZ V a.ah=ad)(h:iP X=ab):Z X<=2000*Z V.Q:=
 by simp_all[ajV,dZ,ba,decide_eq_true_eq,VR]
theorem LS(b:∀c∈V.aw,Z c.az<=U):∀a:List S,lW V a<=(U+1)*Z a
 |[]=>by simp[lW]
 |f::a=>by
  have d:=LS b a;grind[vA,ajR,vz,lW,List.length_cons,Nat.mul_add]
def gO(a:bc)(b:aK)(c:aG):bc:=⟨a.aA++[b.aF],a.bH++[c],a.aw,a.az⟩
def gP:bc->List aK->List aG->Option bc
 |e,[],_=>aa e
 |_,_::_,[]=>ae
 |e,a::b,c::vs=>if(cD e a).2=ad then(if(cD e a).1=c then gP e b vs else ae)else gP (gO e a c) b vs
def kC(a:bc)(b:Lit)(c:Int):bc:=if b.bind=[]then a else⟨a.aA,a.bH,a.aw++[b.bind],a.az++[c]⟩
def j8(c:D)(a:Lit)(b:S):Bool:=b.ah==a.ah&&(a.ax !=3||sr c a.ah a.iG b.aj)
def kQ(a:bc)(d:Lit):bc:=
 match d.af with
 |[b,c]=>if(d.ax==5&&d.op==1)=ad then
  (if((cD a b).2&& !(cD a c).2)=ad then gO a c (cD a b).1 else if((cD a c).2&& !(cD a b).2)=ad then gO a b (cD a c).1 else a)else a
 |_=>a
def q0(c:bc)(b:Lit)(a:S):Option bc:=(gP c b.af a.af).map λd=>kC d b a.aj
def gk(d:D)(c:List S)(b:bc)(a:Lit):List bc:=
 if(a.ax==1||a.ax==3)=ad then(c.filter (j8 d a)).filterMap (q0 b a)
 else if ss d c (kQ b a) a=ad then[kQ b a]else[]
def tm(f:D)(d:List S)(b:List Lit)(a:List bc)(e:Nat):List bc:=match b[e]? with|aa g=>a.flatMap λc=>gk f d c g|ae=>a
def e0:bc:=⟨[],[],[],[]⟩
def im(c:D)(a:List S)(r:aD):List bc:=match ord r.ai []with|ae=>[]|aa b=>b.foldl (tm c a r.ai) [e0]
def kR(d:D)(c:List S)(b:List Lit):List Nat->bc->List bc
 |[],a=>[a]
 |i::e,a=>match b[i]? with|aa f=>(gk d c a f).flatMap (kR d c b e)|ae=>kR d c b e a
variable{lr:List Lit}
theorem VS:∀(b:List Nat)(a:List bc),b.foldl (tm V X lr) a=a.flatMap (kR V X lr b)
 |[],a=>by
  simp_all[kR]
 |i::b,a=>by
  rw[np,VS b];unfold tm;rcases h:lr[i]? with _|x;simp_all[kR];simp_all[kR,gk,List.flatMap_assoc]
variable{H:bc}{bR:aK}
theorem nP:(cD H bR).2=known H.aA bR:=by
 grind[cD,known]
variable{fI:bc}{p:List d}
theorem LU{w:List aG}(e:Z H.bH=Z H.aA)(b:fI.aA=H.aA++p)(c:fI.bH=H.bH++w)(a:known H.aA bR=ad):cD fI bR=cD H bR:=by
 unfold cD;by_cases h:bR.aF=[];simp[h];rw[if_neg h,if_neg h];have f:bR.aF∈H.aA:=by
  simp only[known,h5,beq_iff_eq,decide_eq_true_eq]at a;exact a.resolve_left h
 grind[List.findIdx?_eq_some_iff_getElem]
variable{ju:aG}
theorem LV(b:Z H.bH=Z H.aA)(a:known H.aA bR=ab):cD (gO H bR ju) bR=(ju,ad):=by
 grind[known,cD,gO]
structure vB(e x:bc):Prop where
 aA:∃a,x.aA=e.aA++a
 bH:∃a,x.bH=e.bH++a
 len:Z x.bH=Z x.aA
theorem vB.get(h:vB H fI)(f:Z H.bH=Z H.aA)(e:known H.aA bR=ad):cD fI bR=cD H bR:=by
 let⟨a,c⟩:=h.aA;let⟨b,d⟩:=h.bH;grind[LU]
theorem vB.known(h:vB H fI)(a:known H.aA bR=ad):known fI.aA bR=true:=by
 let⟨c,b⟩:=h.aA;simp only[AM.known,h5,beq_iff_eq,decide_eq_true_eq]at a⊢;rcases a with h|h;exact .inl h;exact .inr (by rw[b];simp[h])
theorem vB.trans{b:bc}(h:vB H fI)(a:vB fI b):vB H b:=by
 let⟨c,g⟩:=h.aA;let⟨d,i⟩:=h.bH;let⟨e,j⟩:=a.aA;let⟨f,k⟩:=a.bH;exact⟨(by grind),by grind,a.len⟩
theorem LW(a:known p bR=ab):eo p bR.aF=p++[bR.aF]:=by
 grind[known,eo]
theorem LX(a:known p bR=ad):eo p bR.aF=p:=by
 grind[known,eo]
theorem Aa:∀(c:List aK)(vs:List aG){a b:bc},Z a.bH=Z a.aA->gP a c vs=aa b->
 vB a b/\b.aA=c9 a.aA c/\b.aw=a.aw/\b.az=a.az/\Z c<=Z vs/\(∀d∈b.bH,d∈a.bH\/d∈vs)/\(∀t∈c,known b.aA t=ad)/\vs.take (Z c)=c.map λt=>(cD b t).1
 |[],vs,a,b,g,h=>by
  simp only[gP,e7]at h;subst h;exact⟨⟨⟨[],by simp⟩,⟨[],by simp⟩,g⟩,rfl,rfl,rfl,by simp,λd n=>.inl n,by simp,by simp⟩
 |t::c,[],a,b,g,h=>by simp[gP]at h
 |t::c,d::vs,a,b,g,h=>by
  rw[gP]at h;split at h;rename_i f;split at h;rename_i n;let⟨e,o,j,k,s,p,u,l⟩:=Aa c vs g h;rw[nP]at f;refine⟨e,?_,j,k,by grind,λw r=>?_,λx i=>?_,?_⟩;grind[c9,LX];grind;rcases b6.1 i with rfl|i;exact e.known f;grind;simp only[kI,OM,ej,l,e.get g f,n];cases h
  rename_i f;rw[nP,vY]at f;have m:Z (gO a t d).bH=Z (gO a t d).aA:=by simp[gO,g]
  let⟨e,o,j,k,s,p,u,l⟩:=Aa c vs m h;have v:vB a (gO a t d):=⟨⟨_,rfl⟩,⟨_,rfl⟩,m⟩;have q:known (gO a t d).aA t=true:=by simp[known,gO]
  refine⟨v.trans e,?_,j,k,by grind,λw r=>?_,λx i=>?_,?_⟩;rw[o];simp only[c9,np,LW f]<;>rfl
  rcases p w r with h|h;rcases dt.1 h with h|h;exact .inl h;grind;grind;rcases b6.1 i with rfl|i;exact e.known q;grind;simp only[kI,OM,ej,l,e.get m q,LV g f]
structure ux(V:List d)(cf:List aG)(l:List bc):Prop where
 aA:∀e∈l,e.aA=V
 bH:∀e∈l,Z e.bH=Z V
 nd:(l.map bc.bH).Nodup
 cf:∀e∈l,∀v∈e.bH,v∈cf
def w4(a:List d)(e:Lit):List d:=
 match e.af with
 |[b,c]=>if(e.ax==5&&e.op==1)=ad then(if(known a b&& !known a c)=ad then a++[c.aF]else if(known a c&& !known a b)=ad then a++[b.aF]else a)else a
 |_=>a
def vC(b:List d)(a:Lit):List d:=if(a.ax==1||a.ax==3)=ad then c9 b a.af else w4 b a
structure yA(fs:List S)(l:Lit)(cf:List aG):Prop where
 de:gj fs
 len:∀f∈fs,f.ah=l.ah->Z f.af=Z l.af
 bH:∀f∈fs,∀v∈f.af,v∈cf
 yB:∀t∈l.af,t.aF=[]->t.const∈cf
variable{aP:List aG}
theorem LY(e:Z H.bH=Z H.aA)(c:∀a∈H.bH,a∈aP)(b:bR.aF=[]->bR.const∈aP)(d:known H.aA bR=ad):(cD H bR).1∈aP:=by
 grind[nP,cD,List.findIdx?_eq_some_iff_getElem]
variable{b0:Type}{rE:K -> List b0}
theorem VT:∀{a:List K},a.Nodup->(∀x∈a,(rE x).Nodup)->(∀x∈a,∀c∈a,x≠c->∀e∈rE x,e∉rE c)->(a.flatMap rE).Nodup
 |[],_,_,_=>by simp
 |x::a,b,d,f=>by
  rw[k0]at b;rw[aa3,tQ];refine⟨d x (by simp),VT b.2 (by grind) (by grind),?_⟩;grind
theorem LZ(a:bc)(b:Lit)(c:Int):(kC a b c).bH=a.bH:=by grind[kC]
theorem VU(a:bc)(b:Lit)(c:Int):(kC a b c).aA=a.aA:=by grind[kC]
theorem yC(d:gj X):∀a∈X,∀g∈X,a.ah=g.ah->a.af=g.af->a=g:=by
 intro a k g l i j;obtain⟨b,e,rfl⟩:=kg.1 k;obtain⟨c,f,rfl⟩:=kg.1 l;have n:cr X[b] X[c]=0:=by rw[oz];exact⟨i,j⟩
 rcases I2 b c with h|h|h;have:=d b c e f h;omega;subst h;rfl;have m:=d c b f e h;grind[w2]
theorem BZ(a:gj X):X.Nodup:=by
 have:=nO.1 a;rw[aa4];apply this.imp;grind[oz]
variable{P:Lit}
theorem ajX(g:H.aA=p)(k:Z H.bH=Z p)(j:∀b∈H.bH,b∈aP)(n:∀a∈P.af,a.aF=[]->a.const∈aP):
 (kQ H P).aA=w4 p P/\Z (kQ H P).bH=Z (w4 p P)/\(∃w,(kQ H P).bH=H.bH++w)/\∀b∈(kQ H P).bH,b∈aP:=by
 have s:H.aA=p/\Z H.bH=Z p/\(∃w,H.bH=H.bH++w)/\∀b∈H.bH,b∈aP:=by simp_all
 unfold kQ w4;split;rename_i e f i;have l:e∈P.af:=by rw[i];simp
 have m:f∈P.af:=by rw[i];simp
 simp only[nP,g];have put:∀(a c:aK),a∈P.af->known p a=ad->(gO H c (cD H a).1).aA=p++[c.aF]/\Z (gO H c (cD H a).1).bH=Z (p++[c.aF])/\(∃w,(gO H c (cD H a).1).bH=H.bH++w)/\∀b∈(gO H c (cD H a).1).bH,b∈aP:=by
  intro a c o r;refine⟨by rw[gO,g],by simp[gO,k],⟨_,rfl⟩,λb q=>?_⟩;rcases dt.1 q with h|h;exact j b h;simp only[l6]at h;subst h;exact LY (by rw[k,g]) j (n a o) (by grind)
 split;split;rename_i h;simp only[ba]at h;exact put e f l h.1;split;rename_i h;simp only[ba]at h;exact put f e m h.1;omega;omega;omega
theorem L0(c:yA X P aP)(e:H.aA=p)(j:Z H.bH=Z p)(z:∀b∈H.bH,b∈aP):
 (∀f∈gk V X H P,f.aA=vC p P/\Z f.bH=Z (vC p P)/\(∃w,f.bH=H.bH++w)/\∀b∈f.bH,b∈aP)/\((gk V X H P).map bc.bH).Nodup:=by
 unfold gk vC;split;refine⟨λf i=>?_,?_⟩;let⟨a,q,i⟩:=xE.1 i;obtain⟨T,v,rfl⟩:=dq.1 i;let⟨n,o,_,_,_,F,_,_⟩:=Aa P.af a.af (by rw[j,e]) v;rw[LZ,VU];refine⟨by rw[o,e],by rw[n.len,o,e],n.bH,λb M=>?_⟩;rcases F b M with h|h;exact z b h;exact c.bH a (by grind) b h;rw[List.map_filterMap];have u:(X.filter (j8 V P)).Nodup:=(BZ c.de).sublist I8;have k:∀a∈X.filter (j8 V P),a∈X/\a.ah=P.ah:=by grind[j8]
 generalize X.filter (j8 V P)=gs at u k;induction gs with
 |nil=>simp
 |cons a gs l=>
  rw[k0]at u;have l:=l u.2 λg s=>k g (by simp[s]);rw[OS];rcases q:(q0 H P a).map bc.bH with _|w;simpa[q]using l;simp only[];rw[k0];refine⟨λN=>?_,l⟩;let⟨g,s,L⟩:=xE.1 N;let⟨f,i,A⟩:=dq.1 q;let⟨T,v,B⟩:=dq.1 L;obtain⟨R,O,rfl⟩:=dq.1 i;obtain⟨U,Q,rfl⟩:=dq.1 v;rw[LZ]at A B;let⟨_,C,_,_,_,_,_,x⟩:=Aa P.af a.af (by rw[j,e]) O;let⟨_,E,_,_,_,_,_,y⟩:=Aa P.af g.af (by rw[j,e]) Q;have r:=k a (by simp)
  have t:=k g (by simp[s]);have I:=c.len a r.1 r.2;have K:=c.len g t.1 t.2;have J:∀m,cD R m=cD U m:=by
   intro m;unfold cD;rw[C,E,A,B]
  rw[<-I,dY]at x;rw[<-K,dY]at y;have G:a.af=g.af:=by
   rw[x,y];exact sP λm _=>by rw[J]
  have:=yC c.de a r.1 g t.1 (by omega) G;grind
 let⟨n,o,W,Y⟩:=ajX (P:=P) e j z c.yB;grind
theorem ux.next{c:List bc}(h:ux p aP c)(n:yA X P aP):ux (vC p P) aP (c.flatMap λa=>gk V X a P):=by
 have j:∀a∈c,_:=λa b=>L0 (V:=V) n (h.aA a b) (h.bH a b) (h.cf a b);refine⟨λg f=>?_,λg f=>?_,?_,λg f=>?_⟩;grind;grind;rw[List.map_flatMap];have o:c.Nodup:=by
  have:=h.nd;clear j h;induction c with
  |nil=>simp
  |cons a c u=>
   grind
 refine VT o (by grind) λa b e i q w r s=>?_;obtain⟨g,f,rfl⟩:=cy.1 r;let⟨v,t,k⟩:=cy.1 s;let⟨x,l⟩:=((j a b).1 g f).2.2.1;let⟨y,m⟩:=((j e i).1 v t).2.2.1;rw[l,m]at k;have:=List.append_inj k (by rw[h.bH a b,h.bH e i]);have heq:a.bH=e.bH:=this.1.symm;have key:∀{P:List bc},(P.map bc.bH).Nodup->a∈P->e∈P->a=e:=by
  intro P;induction P with
  |nil=>grind
  |cons z P u=>
   grind
 exact q (key h.nd b i);grind
def yD(a:List aG):Nat->List (List aG)
 |0=>[[]]
 |k+1=>a.flatMap λb=>(yD a k).map (b::·)
theorem VV(a:List aG):∀k,Z (yD a k)=Z a^k
 |0=>rfl
 |k+1=>by
  have:∀b:List aG,Z (b.flatMap λd=>(yD a k).map (d::·))=Z b*Z a^k:=by
   intro b;induction b with
   |nil=>simp
   |cons e b c=>rw[aa3,gC,jX,VV a k,c,kI,re];omega
  grind[yD]
theorem VW:∀{a:List aG},(∀v∈a,v∈aP)->a∈yD aP (Z a)
 |[],_=>by simp[yD]
 |v::a,h=>by
  simp only[kI,yD,aa5,cy];exact⟨v,h v (by simp),a,VW (by grind),rfl⟩
theorem Ab[DecidableEq K]:∀{b a:List K},b.Nodup->(∀x∈b,x∈a)->Z b<=Z a
 |[],_,_,_=>by simp
 |x::b,a,c,h=>by
  rw[k0]at c;have f:=h x (by simp);have d:Z (a.erase x)=Z a -1:=by grind
  have e:0<Z a:=by grind
  have:=Ab (a:=a.erase x) c.2 (by grind);grind
theorem ux.len{b:List bc}(h:ux p aP b):Z b<=Z aP^Z p:=by
 have:=Ab (a:=yD aP (Z p)) h.nd λw e=>by
  obtain⟨a,c,rfl⟩:=cy.1 e;have:=VW (h.cf a c);rwa[h.bH a c]at this
 rw[jX,VV]at this;exact this
theorem ux.start(a:List aG):ux [] a [e0]:=by
 refine⟨?_,?_,by simp,?_⟩<;>simp[e0]
variable{bL:d}
theorem VX(h:p.Nodup):(eo p bL).Nodup:=by
 grind[eo]
variable{mG:d}
theorem VY:mG∈eo p bL<->mG∈p\/(mG=bL/\bL≠[]):=by
 grind[eo]
theorem VZ:∀(b:List aK){a:List d},a.Nodup->(c9 a b).Nodup
 |[],_,h=>h
 |t::b,a,h=>VZ b (VX h)
theorem HA:∀{c:List aK}{a:List d}{b:d},b∈c9 a c<->b∈a\/(b≠[]/\∃t∈c,t.aF=b)
 |[],a,b=>by simp[c9]
 |t::c,a,b=>by
  have:c9 a (t::c)=c9 (eo a t.aF) c:=rfl;rw[this,HA,VY];grind
theorem L1:∀{c:List (List aK)}{b:List d}{a:d},a∈c.foldl c9 b<->a∈b\/(a≠[]/\∃l∈c,∃e∈l,e.aF=a)
 |[],b,a=>by simp
 |l::c,b,a=>by
  rw[np,L1,HA];grind
theorem ajY(e:p.Nodup):(w4 p P).Nodup/\∀a∈w4 p P,a∈p\/(a≠[]/\∃b∈P.af,b.aF=a):=by
 have i:p.Nodup/\∀a∈p,a∈p\/(a≠[]/\∃b∈P.af,b.aF=a):=by grind
 have put:∀b∈P.af,known p b=ab->(p++[b.aF]).Nodup/\∀a∈p++[b.aF],a∈p\/(a≠[]/\∃b∈P.af,b.aF=a):=by
  intro b g c;rw[<-LW c];refine⟨VX e,λa f=>?_⟩;rcases VY.1 f with h|⟨rfl,h⟩;exact .inl h;grind
 grind[w4]
theorem ajZ(c:p.Nodup):(vC p P).Nodup/\∀a∈vC p P,a∈p\/(a≠[]/\∃b∈P.af,b.aF=a):=by
 grind[vC,VZ,HA,ajY]
theorem aj0{r:aD}(q:∀l∈r.ai,yA X l aP):∀(b:List Nat),∃a,a.Nodup/\(∀c∈a,c∈fF r)/\ux a aP (b.foldl (tm V X r.ai) [e0]):=by
 have key:∀(b:List Nat)(a:List d)(e:List bc),a.Nodup->(∀c∈a,c∈fF r)->ux a aP e->∃f,f.Nodup/\(∀c∈f,c∈fF r)/\ux f aP (b.foldl (tm V X r.ai) e):=by
  intro b;induction b with
  |nil=>grind
  |cons j b t=>
   intro a e m n o;rw[np];rcases g:r.ai[j]? with _|l;grind[tm];have p:l∈r.ai:=qp g;have:tm V X r.ai e j=e.flatMap λk=>gk V X k l:=by rw[tm,g]
   rw[this];have i:=ajZ (P:=l) m;refine t (vC a l) _ i.1 (λc s=>?_) (o.next (q l p));rcases i.2 c s with h|⟨h,v,u,rfl⟩;exact n c h;grind[fF,L1]
 exactλb=>key b [] [e0] xF (by simp) (ux.start aP)
theorem V0(b:1<=f):∀(k:Nat){a:Int},0<=a->lR f ca k a<=ca->a*f^k<=ca
 |0,a,_,h=>by grind[lR]
 |k+1,a,c,h=>by
  rw[lR]at h;split at h;rename_i d;have:=V0 b k (Int.mul_nonneg c (by omega)) h;grind[Int.mul_comm];omega
variable{dp:Nat}
theorem aj1(f:1<=N)(b:z<=dp)(h:lR U N dp 1<=N):U^z<=N:=by
 by_cases e:U=0;grind[Nat.zero_pow];have a:=V0 (f:=(U:Int)) (by omega) dp (by omega:(0:Int)<=1) h;rw[Int.one_mul]at a;have c:((U^dp:Nat):Int)<=N:=by rw[Int.natCast_pow];exact a
 have d:U^z<=U^dp:=arV (by omega) b;omega
theorem aj2{r:aD}(f:∀g∈r.ai,yA X g aP)(e:1<=U)(h:lR (Z aP) U (Z (fF r)) 1<=U)(a:List Nat):Z (a.foldl (tm V X r.ai) [e0])<=U:=by
 let⟨i,b,c,d⟩:=aj0 (V:=V) f a;exact ix d.len (aj1 e (Ab b c) h)
inductive Seq(body:List Lit):List Nat->List d->List Nat->Prop
 |nil (out:List Nat) (V:List d):Seq body out V []
 |cons (out:List Nat) (V:List d) (i:Nat) (t:List Nat) (l:Lit) (hl:body[i]?=aa l) (hn:i∉out) (hr:j4 V l=ad) (h:Seq body (out++[i]) (c9 V l.af) t):Seq body out V (i::t)
theorem V1:∀(n:Nat){out:List Nat}{a:List d}{g:List Nat},oq lr n out a=aa g->∃c,g=out++c/\Z c=n/\Seq lr out a c
 |0,out,a,g,h=>by
  simp only[oq,e7]at h;exact⟨[],by simp[h],rfl,.nil _ _⟩
 |n+1,out,a,g,h=>by
  rw[oq]at h;rcases f:yu lr out a with _|i;grind;rw[f]at h;let⟨c,k,l,j⟩:=V1 n h;unfold yu at f;rw[za]at f;let⟨e,b,_⟩:=f;have b:i<Z lr:=by simpa using b
  rw[nM,bq b]at e;simp only[ba,hv,decide_eq_false_iff_not]at e;have m:zQ lr i=lr[i].af:=by rw[zQ,bq b]<;>rfl
  rw[m]at j;exact⟨i::c,by simp[k],by simp[l],.cons _ _ _ _ _ (bq b) e.1 e.2 j⟩
variable{bu:List Nat}
theorem HB(h:ord lr []=aa bu):Seq lr [] [] bu/\Z bu=Z lr:=by
 let⟨d,a,b,c⟩:=V1 _ h;grind
theorem Seq.spec{out:List Nat}(h:Seq lr out p bu):(out.Nodup->(out++bu).Nodup)/\∀a∈bu,a<Z lr:=by
 induction h with
 |nil out p=>grind
 |cons out p a i g b c e h f=>
  grind
theorem aj3(h:ord lr []=aa bu):bu.Nodup/\∀a,a<Z lr<->a∈bu:=by
 let⟨b,f⟩:=HB h;let⟨c,d⟩:=b.spec;have e:bu.Nodup:=by simpa using c xF
 refine⟨e,λa=>⟨λi=>?_,d a⟩⟩;refine xG λg=>?_;have:=Ab (b:=a::bu) (a:=ay (Z lr)) (by grind) (by grind);grind
theorem V2:∀{b:List aK}{a:List d},(∀t∈b,known a t=ad)->c9 a b=a
 |[],_,_=>rfl
 |t::b,a,h=>by
  have c:c9 a (t::b)=c9 (eo a t.aF) b:=rfl;rw[c,LX (h t (by simp))];exact V2 (by grind)
theorem V3(h:j4 p P=ad):vC p P=c9 p P.af:=by
 unfold j4 at h;unfold vC;split;rfl;rename_i e;rw[if_neg e]at h;split at h;rename_i f;simp only[ba,beq_iff_eq]at f;let⟨a,b,c⟩:∃a b,P.af=[a,b]:=by
  match i:P.af with
  |[a,b]=>grind
  |[]=>grind
  |[_]=>grind
  |_::_::_::_=>grind
 have g:c9 p [a,b]=eo (eo p a.aF) b.aF:=rfl;simp only[w4,c];rw[if_pos (by grind),g];rw[c]at h;simp only[aaW,aaX,OT,h5]at h;grind[known,LX,LW];grind[V2,w4]
theorem V4(w:∀e∈lr,yA X e aP)(k:List Nat->bc->Prop)
 (step:∀(done:List Nat)(b:List d)(a c:bc)(g:Nat)(e:Lit),lr[g]?=aa e->g∉done->j4 b e=ad->a.aA=b->Z a.bH=Z b->(∀j∈a.bH,j∈aP)->k done a->c∈gk V X a e->k (done++[g]) c):
 ∀{done:List Nat}{b:List d}{i:List Nat},Seq lr done b i->∀a,a.aA=b->Z a.bH=Z b->(∀j∈a.bH,j∈aP)->k done a->∀c∈kR V X lr i a,k (done++i) c/\Z c.bH=Z c.aA/\(∀j∈c.bH,j∈aP)/\∀f,f∈c.aA<->f∈b\/(f≠[]/\∃g∈i,∃e,lr[g]?=aa e/\∃n∈e.af,n.aF=f):=by
 intro done b i h;induction h with
 |nil out b=>
  grind[kR]
 |cons out b g n e r x s h u=>
  intro a o p q v c m;rw[kR,r]at m;let⟨f,t,m⟩:=aa5.1 m;have l:=(L0 (V:=V) (by grind) o p q).1 f t;rw[V3 s]at l;have:=u f l.1 l.2.1 l.2.2.2 (by grind) c m;grind[List.append_assoc,HA]
theorem D5{r:aD}(h:ord r.ai []=aa bu):im V X r=kR V X r.ai bu e0:=by
 grind[im,VS]
structure D6(p:D)(r:aD)(l:Lit):Prop where
 ax:1<=l.ax/\l.ax<=5
 cmp:l.ax=5->Z l.af=2/\l.ah= -1
 ah:l.ax≠5->∃a:Nat,∃h:a<Z p.Q,l.ah=a/\Z l.af=Z p.Q[a].a6
 iG:l.ax=3\/l.ax=4->∃q,dI p l.ah=aa q/\eC q l.iG=ad
 bind:l.bind≠[]->l.ax=1/\l.bind=r.aj.aF/\∃q,dI p l.ah=aa q/\dI p r.ah=aa q
structure Ad(p:D)(r:aD):Prop where
 lits:∀l∈r.ai,D6 p r l
 one:∀(i j:Nat)(l m:Lit),r.ai[i]?=aa l->r.ai[j]?=aa m->l.bind≠[]->m.bind≠[]->i=j
 head:0<=r.ah->∃a:Nat,∃h:a<Z p.Q,r.ah=a/\Z r.af=Z p.Q[a].a6
 none:0<=r.ah->(r.aj.ax=0<->dI p r.ah=Option.none)
 const:0<=r.ah->r.aj.ax=1->∃q,dI p r.ah=aa q/\eC q r.aj.aR=ad
 aF:r.aj.ax=2\/r.aj.ax=3->r.aj.aF≠[]/\∃l∈r.ai,l.bind=r.aj.aF
 fn:0<=r.ah->r.aj.ax=3->∃a:Nat,∃h:a<Z p.aO,r.aj.aR=a/\∃q,dI p r.ah=aa q/\Z p.aO[a].gU=Z q.az/\p.aO[a].gU.all (eC q)=ad
 kinds:0<=r.aj.ax/\r.aj.ax<=3
structure vD(p:D)(r:aD)(done:List Nat)(e:bc):Prop where
 len:Z e.az=Z e.aw
 aw:e.aw=done.filterMap λi=>match r.ai[i]? with|aa l=>if l.bind=[]then ae else aa l.bind|ae=>ae
 az:∀x∈e.az,∃q,dI p r.ah=aa q/\eC q x=ad
theorem aj4(a:bc)(b:Lit):(kQ a b).aw=a.aw/\(kQ a b).az=a.az:=by
 unfold kQ;split;split;split;exact⟨rfl,rfl⟩;split;exact⟨rfl,rfl⟩;grind;grind;grind
theorem vD.step{r:aD}(m:Ad V r)(o:∀b∈X,gw V b){done:List Nat}(s:r.ai[U]?=aa P)(u:Z H.bH=Z H.aA)(h:vD V r done H)(a:fI∈gk V X H P):vD V r (done++[U]) fI:=by
 have k:P∈r.ai:=qp s;unfold gk at a;split at a;let⟨b,p,a⟩:=xE.1 a;obtain⟨c,v,rfl⟩:=dq.1 a;let⟨_,_,f,g,_,_,_,_⟩:=Aa P.af b.af u v;have l:=l5.1 p;by_cases e:P.bind=[];have d:kC c P b.aj=c:=by unfold kC;rw[if_pos e]
 rw[d];refine⟨by rw[g,f,h.len],?_,by rw[g];exact h.az⟩;rw[f,h.aw,aa6];grind;have d:kC c P b.aj=⟨c.aA,c.bH,c.aw++[P.bind],c.az++[b.aj]⟩:=by unfold kC;rw[if_neg e]
 rw[d];refine⟨by simp[g,f,h.len],?_,λw i=>?_⟩;simp only;rw[f,h.aw,aa6];grind;simp only[g,dt,l6]at i;rcases i with i|rfl;exact h.az w i;let⟨_,_,n,y,t⟩:=(m.lits P k).bind e;have x:b.ah=P.ah:=by
  have:=l.2;simp only[j8,ba,beq_iff_eq]at this;exact this.1
 exact⟨n,t,o b l.1 n (by grind)⟩;rename_i q;split at a;simp only[l6]at a;subst a;let⟨d,j⟩:=aj4 H P;have e:P.bind=[]:=by
  refine xG λe=>?_;have:=((m.lits P k).bind e).1;simp[this]at q
 refine⟨by rw[d,j,h.len],?_,by rw[j];exact h.az⟩;rw[d,h.aw,aa6];grind;cases a
structure yE(p:D)(cf:List aG)(f:S):Prop where
 fz:∃a:Nat,∃h:a<Z p.Q,f.ah=a/\Z f.af=Z p.Q[a].a6
 cf:∀v∈f.af,v∈cf
 aj:gw p f
 none:dI p f.ah=Option.none->f.aj= -1
structure V5(p:D)(r:aD)(cf:List aG)(e:bc):Prop where
 len:Z e.bH=Z e.aA
 cf:∀v∈e.bH,v∈cf
 aA:∀t∈r.af,known e.aA t=ad
 Ae:Z e.az=Z e.aw
 aw:r.aj.ax=2\/r.aj.ax=3->r.aj.aF∈e.aw
 az:∀x∈e.az,∃q,dI p r.ah=aa q/\eC q x=ad
theorem aj5{r:aD}:bL∈gz r<->bL≠[]/\∃a∈r.ai,∃b∈a.af,b.aF=bL:=by
 have:gz r=(r.ai.map Lit.af).foldl c9 []:=by
  unfold gz;rw[aa7]
 grind[L1]
theorem D7{r:aD}(t:Ad V r)(g:uo r=ad)(s:∀i∈r.ai,yA X i aP)(z:∀l∈X,gw V l):∀a∈im V X r,V5 V r aP a:=by
 intro a k;simp only[uo,ba]at g;let⟨A,f⟩:=sK.1 g.1.1;let⟨u,_⟩:=HB f;let⟨_,p⟩:=aj3 f;rw[D5 f]at k;have key:=V4 (V:=V) s (λdone a=>vD V r done a) (by grind[vD.step]) u e0 rfl rfl (by simp[e0]) ⟨rfl,rfl,by simp[e0]⟩ a k;rw[dR]at key;let⟨c,m,n,o⟩:=key;refine⟨m,n,λx v=>?_,c.len,λq=>?_,c.az⟩;have:=g.1.2;rw[eQ]at this;have:=this x v;simp only[known,h5,beq_iff_eq,decide_eq_true_eq]at this⊢
 rcases this with h|h;exact .inl h;refine .inr ((o _).2 (.inr ?_));let⟨j,i,e,y,w,a⟩:=aj5.1 h;obtain⟨b,d,rfl⟩:=kg.1 e;exact⟨j,b,(p b).1 d,r.ai[b],bq d,y,w,a⟩;let⟨j,i,e,a⟩:=t.aF q;obtain⟨b,d,rfl⟩:=kg.1 e;rw[c.aw,xE];grind
theorem D8(a:Z H.az=Z H.aw)(b:bL∈H.aw):jT H bL∈H.az:=by
 grind[jT,List.findIdx?_eq_none_iff,List.findIdx?_eq_some_iff_getElem,List.getElem?_eq_getElem,List.getElem_mem]
theorem aj6{r:aD}(c:Ad V r)(e:0<=r.ah)(n:∀g∈r.af,g.aF=[]->g.const∈aP)(a:V5 V r aP H):yE V aP (kP V r H):=by
 let⟨p,y,w,x⟩:=c.head e;refine⟨(by grind[kP,j7]),λC l=>?_,λm f=>?_,λh=>?_⟩;simp only[kP,j7,cy]at l;obtain⟨g,k,rfl⟩:=l;exact LY a.len a.cf (n g k) (a.aA g k);have f:dI V r.ah=aa m:=f;show eC m (su V r H)=ad;have o:r.aj.ax≠0:=λH=>by rw[(c.none e).1 H]at f;cases f
 let⟨A,B⟩:=c.kinds;unfold su;split;rename_i b;let⟨i,j,d⟩:=c.const e b;grind;split;rename_i b;let⟨i,j,d⟩:=a.az _ (D8 a.Ae (a.aw (.inl b)));grind;split;rename_i b;let⟨q,z,j,i,d,s,t⟩:=c.fn e b;rw[f]at d;simp only[e7]at d;subst d;let⟨i,u,v⟩:=a.az _ (D8 a.Ae (a.aw (.inr b)));grind[Option.some.injEq,mo,Int.toNat_natCast,List.getElem?_eq_getElem,List.all_eq_true,List.getElem_mem];omega
 have h:dI V r.ah=none:=h;have o:=(c.none e).2 h;show su V r H= -1;grind[su]
def lD(a:D)(b:List S)(r:aD):List S:=(im a b r).map (kP a r)
def iq(a:List Int)(r:aD):Bool:=y (0<=r.ah)&&a.contains r.ah
def kD(a:D)(b:List Int)(c out:List S)(r:aD):List S:=if iq b r=ad then df a out (lD a c r)else out
def fD(a:D)(b:List Int)(c:List S):List S:=a.ak.foldl (kD a b c) []
def ir(b:D)(c:List Int)(a:List S):List S:=df b a (fD b c a)
inductive qb(p:D)(c:List Int):Nat->List S->Option (List S)->Prop
 |over (n:Nat) (fs:List S) (h:iP (ir p c fs)=ad):qb p c n fs ae
 |stop (n:Nat) (fs:List S) (h:iP (ir p c fs)=ab) (e:ir p c fs=fs):qb p c n fs (aa fs)
 |next (n:Nat) (fs:List S) (r:Option (List S)) (h:iP (ir p c fs)=ab) (e:ir p c fs≠fs) (t:qb p c n (ir p c fs) r):qb p c (n+1) fs r
inductive j9(p:D):List (List Int)->List S->Option (List S)->Prop
 |nil (fs:List S):j9 p [] fs (aa fs)
 |none (c:List Int) (cs:List (List Int)) (n:Nat) (fs:List S) (h:qb p c n fs Option.none):j9 p (c::cs) fs Option.none
 |cons (c:List Int) (cs:List (List Int)) (n:Nat) (fs gs:List S) (r:Option (List S)) (h:qb p c n fs (aa gs)) (t:j9 p cs gs r):j9 p (c::cs) fs r
structure bE(p:D)(cf:List aG)(fs:List S):Prop where
 de:gj fs
 ok:∀f∈fs,yE p cf f
structure fb(p:D)(cf:List aG):Prop where
 aN:lV p
 V6:∀l∈p.aw,Z l.az<=8
 iU:∀r∈p.ak,Ad p r
 safe:∀r∈p.ak,uo r=ad
 yB:∀r∈p.ak,(∀t∈r.af,t.aF=[]->t.const∈cf)/\∀l∈r.ai,∀t∈l.af,t.aF=[]->t.const∈cf
 ak:Z p.ak<=20
 Q:Z p.Q<=24
 ml:∀r∈p.ak,lR (Z cf) (3000:Nat) (Z (fF r)) 1<=(3000:Nat)
theorem yE.D9(h:yE V aP bZ):dZ V bZ.ah=true:=by
 let⟨a,c,b,_⟩:=h.fz;grind[dZ]
theorem bE.meet(f:fb V aP)(h:bE V aP X){r:aD}(g:r∈V.ak):∀a∈r.ai,yA X a aP:=by
 intro a e;have i:=(f.iU r g).lits a e;refine⟨h.de,λb c l=>?_,λb c=>(h.ok b c).cf,(f.yB r g).2 a e⟩;let⟨j,q,m,n⟩:=(h.ok b c).fz;by_cases d:a.ax=5;have:=(i.cmp d).2;omega;let⟨k,s,o,p⟩:=i.ah d;grind
theorem V7(o:lV V)(h:bE V aP X)(c:yE V aP bZ):bE V aP (db V X bZ):=by
 have m:=z7 o (λb a=>(h.ok b a).aj) c.aj;have f:=Hv (V:=V) (X:=X) (bZ:=bZ) (b:=λk e=>(∃d:Nat,∃h:d<Z V.Q,k=d/\Z e=Z V.Q[d].a6)/\∀s∈e,s∈aP) (λb a=>⟨(h.ok b a).fz,(h.ok b a).cf⟩) ⟨c.fz,c.cf⟩;have n:∀b∈db V X bZ,dI V b.ah=ae->b.aj= -1:=by
  intro b a j;have q:b∈X\/b=bZ\/∃l,dI V b.ah=aa l:=by
   have u:∀{y},y∈jI X bZ->y∈X\/y=bZ:=by grind[zZ]
   unfold db at a;rcases r:dI V bZ.ah with _|l;grind;rw[r]at a;simp only at a;split at a;grind;cases g:X.findIdx? (eL bZ.ah bZ.af)with
   |none=>
    grind
   |some d=>
    rw[g]at a;let⟨p,v,_⟩:=qt.1 g;simp only[bq p]at a;rcases OX a with a|rfl;grind;grind[eL,dI]
  rcases q with i|rfl|⟨l,i⟩;exact(h.ok b i).none j;exact c.none j;grind
 exact⟨VK h.de,λb a=>⟨(f b a).1,(f b a).2,m.2 b a,n b a⟩⟩
theorem w5(d:lV V):∀(bs:List S){a:List S},bE V aP a->(∀c∈bs,yE V aP c)->bE V aP (df V a bs)
 |[],_,h,_=>h
 |b::bs,a,h,e=>w5 d bs (by grind[V7]) (by grind)
theorem uy(a:fb V aP)(h:bE V aP X){r:aD}(b:r∈V.ak)(f:0<=r.ah):∀c∈lD V X r,yE V aP c:=by
 intro c d;obtain⟨e,g,rfl⟩:=cy.1 d;exact aj6 (a.iU r b) f (a.yB r b).1 (D7 (a.iU r b) (a.safe r b) (h.meet a b) (λc d=>(h.ok c d).aj) e g)
theorem V8(a:fb V aP)(h:bE V aP X){r:aD}(b:r∈V.ak):Z (lD V X r)<=3000:=by
 rw[lD,jX,im];split;simp;exact aj2 (h.meet a b) (by omega) (a.ml r b) _
theorem HC(c:fb V aP)(h:bE V aP X)(b:List Int):∀(a:List aD)(_:∀r∈a,r∈V.ak){out:List S},bE V aP out->
 bE V aP (a.foldl (kD V b X) out)/\Z (a.foldl (kD V b X) out)<=Z out+Z a*3000
 |[],_,out,d=>⟨d,by simp⟩
 |r::a,f,out,d=>by
  have g:=f r (by simp);have i:bE V aP (kD V b X out r)/\Z (kD V b X out r)<=Z out+3000:=by
   unfold kD;split;rename_i e;simp only[iq,ba,decide_eq_true_eq]at e;have j:=V8 c h g;have m:=z1 (c:=V) (lD V X r) out;exact⟨w5 c.aN _ d (uy c h g e.1),by omega⟩;grind
  have j:=HC c h b a (λl k=>f l (by simp[k])) i.1;grind
theorem bE.nil(c:D)(a:List aG):bE c a []:=⟨λd e b=>by simp at b,by simp⟩
theorem oA(c:fb V aP)(h:bE V aP X)(a:List Int):bE V aP (fD V a X)/\Z (fD V a X)<=60000:=by
 have b:=HC c h a V.ak (λ_ h=>h) (bE.nil V aP);refine⟨b.1,?_⟩;have d:=b.2;have e:=mB 3000 c.ak;grind[fD]
theorem Af(b:fb V aP)(h:bE V aP X)(a:List Int):bE V aP (ir V a X)/\Z (ir V a X)<=Z X+60000:=by
 have c:=oA b h a;have d:=z1 (c:=V) (fD V a X) X;exact⟨w5 b.aN _ h c.1.ok,by unfold ir;omega⟩
theorem bE.small(d:fb V aP)(h:bE V aP X)(c:iP X=ab):Z X<=48000:=by
 have:=ajW (V:=V) (λa b=>(h.ok a b).D9) c;have:=d.Q;omega
theorem aj7(c:fb V aP)(b:List Int):∀(d:Nat){a:List S},bE V aP a->iP a=ab->9*48000+1 -lW V a<=d->
 ∃r,qb V b d a r/\∀gs,r=aa gs->bE V aP gs/\iP gs=false:=by
 intro d;induction d with
 |zero=>
  intro a h l n;have j:=h.small c l;have k:=LS (V:=V) c.V6 a;omega
 |succ d p=>
  intro a h l n;cases e:iP (ir V b a)with
  |true=>exact⟨ae,.over _ _ e,by simp⟩
  |false=>
   have j:=Af c h b;by_cases f:ir V b a=a;exact⟨aa a,.stop _ _ e f,by grind⟩
   ·have k:=(Hy c.aN (fD V b a) (λi g=>(h.ok i g).aj) (λi g=>((oA c h b).1.ok i g).aj)).1
    have q:lW V a<lW V (ir V b a):=k.resolve_left f;let⟨r,o,m⟩:=p j.1 e (by omega);exact⟨r,.next _ _ _ e f o,m⟩
theorem V9(e:fb V aP):∀(b:List (List Int)){a:List S},bE V aP a->iP a=ab->
 ∃r,j9 V b a r/\∀gs,r=aa gs->bE V aP gs/\iP gs=ab
 |[],a,h,d=>⟨aa a,.nil a,by grind⟩
 |c::b,a,h,d=>by
  let⟨r,f,j⟩:=aj7 e c _ h d (c7 _);rcases r with _|gs;exact⟨ae,.none c b _ a f,by simp⟩;let⟨g,i⟩:=j gs rfl;let⟨r,l,k⟩:=V9 e b g i;exact⟨r,.cons c b _ a gs r f l,k⟩
theorem Wa(h:Z X<=2000):iP X=false:=by
 unfold iP;rw[<-vY,Jd];rintro⟨c,a,b⟩;have a:c<Z X:=by simpa using a
 rw[w3,bq a]at b;grind[VH]
def Wb(b c:Bool)(a:bc):List AV:=[eS b cS a.aA,eS b cV a.bH,eS c cS a.aw,eS c cI a.az]
@[simp] theorem auU(a c:Bool)(b:bc):(Wb a c b)[0]?=aa (eS a cS b.aA):=rfl
@[simp] theorem auV(a c:Bool)(b:bc):(Wb a c b)[1]?=aa (eS a cV b.bH):=rfl
@[simp] theorem auY(a:Bool)(b:bc):g (cE a b) 0=eS a cS b.aA:=rfl
@[simp] theorem auZ(a:Bool)(b:bc):g (cE a b) 1=eS a cV b.bH:=rfl
@[simp] theorem au0(a:Bool)(b:bc):g (cE a b) 2=eS a cS b.aw:=rfl
@[simp] theorem au1(a:Bool)(b:bc):g (cE a b) 3=eS a cI b.az:=rfl
variable{rI:List AV -> List Obj -> Prop}
theorem yF{a:(List AV->List Obj->Prop)->Prop}(c:Bool)(r:List AV)(d:∀b:List AV->List Obj->Prop,b (.bool c::r) M->a b)(e:rI (.bool c::r) M):jn a rI:=d rI e
theorem Ea{r:List AV}(a:rI (.bool T::r) M)(h:T=F):rI (.bool F::r) M:=h▸a
theorem HD(e:∀a,Z (a7 a)=U)(f:N<=Z x):fA (.sl U) (eS T a7 x) (aa (I N)) ae M=aa (eS T a7 (x.drop N)):=by
 have c:eT (Z x) 0 (aa (I (N:Int)))=aa N:=by
  simp only[eT];rw[if_pos (by omega)];simp
 have d:∀a b,eT a b ae=aa b:=λ_ _=>rfl;simp only[fA,eS,jX,c,d,UB e x,if_true,Ja];rw[gT (by simp)]
structure q1(p:D)(cf:List aG):Prop where
 v:fb p cf
 HE:eA p
 L3:kA p
 Ec:∀v∈cf,Sm v.s
 HF:∀r∈p.ak,lS r
 avc:∀r∈p.ak,∀l∈r.ai,∀t∈l.af,Sm t.const.s
 a6:∀q∈p.Q,Z q.a6<=1000
theorem bE.Ah(c:q1 V aP)(h:∀a∈X,yE V aP a):∀a∈X,dF a.af:=by
 intro a b;let⟨g,e,i,j⟩:=(h a b).fz;have:=c.a6 _ (bn e);exact⟨by grind[Sm],λd f=>c.Ec d ((h a b).cf d f)⟩
end AM
namespace Law
variable{K:Type}{dy:Nat -> Int}{U N z:Nat}{cj rB:Nat -> Bool}{cZ:cA}
section
def Hp(b:Nat->Int)(c:Nat):Prop:=∀a,0<a->a<c->b ((a -1)/2)<=b a
structure uz(a:Nat->Int)(n j:Nat):Prop where
 h1:∀i,0<i->i<n->i≠j->a ((i -1)/2)<=a i
 h2:∀i,0<i->i<n->(i -1)/2=j->0<j->a ((j -1)/2)<=a i
structure uA(a:Nat->Int)(n j:Nat):Prop where
 h1:∀i,0<i->i<n->(i -1)/2≠j->a ((i -1)/2)<=a i
 h2:∀i,0<i->i<n->(i -1)/2=j->0<j->a ((j -1)/2)<=a i
def swp(a:Nat->K)(c d:Nat):Nat->K:=λb=>if b=c then a d else if b=d then a c else a b
theorem Hp.root(h:Hp dy U):∀a,a<U->dy 0<=dy a:=by
 intro a;induction a using Nat.strongRecOn with
 |_ a d=>
  intro b;by_cases c:a=0;grind;exact Int.le_trans (by grind) (h a (by omega) b)
theorem uz.push(h:Hp dy U):uz dy (U+1) U:=
 ⟨λb a c d=>h b a (by omega),by omega⟩
theorem uz.stop(h:uz dy U N)(e:N=0\/dy ((N -1)/2)<=dy N):Hp dy U:=by
 intro a c d;by_cases b:a=N;grind;exact h.h1 a c d b
theorem uz.step(h:uz dy U N)(l:N<U)(j:0<N)(m:dy N<dy ((N -1)/2)):uz (swp dy ((N -1)/2) N) U ((N -1)/2):=by
 generalize o:(N -1)/2=f at*;refine⟨λc b a n=>?_,λc b a k e=>?_⟩;have d:=h.h1 c b a;have g:=h.h2 c b a;grind[swp];have d:=h.h1 c b a;have i:=h.h1 f e (by omega) (by omega);grind[swp]
theorem uA.pop(h:Hp dy (U+1)):uA (swp dy 0 U) U 0:=by
 refine⟨λa b c d=>?_,by omega⟩;unfold swp;rw[if_neg (by omega:¬(a -1)/2=0),if_neg (by omega:¬(a -1)/2=U),if_neg (by omega:¬a=0),if_neg (by omega:¬a=U)];exact h a b (by omega)
theorem uA.stop(h:uA dy U N)(e:∀a,0<a->a<U->(a -1)/2=N->dy N<=dy a):Hp dy U:=by
 intro a c d;by_cases b:(a -1)/2=N;grind;exact h.h1 a c d b
theorem uA.step(h:uA dy U N)(i:0<z)(g:z<U)(e:(z -1)/2=N)(m:dy z<dy N)(n:∀a,0<a->a<U->(a -1)/2=N->dy z<=dy a):uA (swp dy N z) U z:=by
 refine⟨λa b c j=>?_,λa b c l _=>?_⟩;unfold swp;by_cases d:(a -1)/2=N;grind;rw[if_neg d,if_neg j];have k:=h.h1 a b c d;by_cases f:a=N;subst f;rw[if_pos rfl];have:=h.h2 z i g e b;exact this;omega;unfold swp;rw[if_pos e,if_neg (by omega:¬a=N),if_neg (by omega:¬a=z)];have:=h.h1 a b c (by omega);grind
def cY(c:cA)(a b:Nat):Bool:=a==b||c a b&&c b a
def mZ(d:Nat)(c:cA)(done:Nat->Bool)(a:Nat):Bool:= !done a&&(ay d).all λb=> !c a b||done b||cY c a b
def kE(b:Nat)(a:cA):Nat->(Nat->Bool)->List (List Nat)
 |0,_=>[]
 |k+1,done=>match(ay b).find? (mZ b a done)with
  |ae=>[]
  |aa c=>(ay b).filter (cY a c)::kE b a k (λd=>done d||cY a c d)
def eN(a:Nat)(b:cA):List (List Nat):=kE a b a λ_=>ab
theorem Wd:∀{a:List Nat},(∀x∈a,cj x=rB x)->a.find? cj=a.find? rB
 |[],_=>rfl
 |x::a,h=>by
  rw[ar3,ar3,h x (by simp),Wd λc b=>h c (by simp[b])]
theorem We:∀(k:Nat){b c:Nat->Bool},(∀a,a<U->b a=c a)->kE U cZ k b=kE U cZ k c
 |0,_,_,_=>rfl
 |k+1,b,c,h=>by
  have g:(ay U).find? (mZ U cZ b)=(ay U).find? (mZ U cZ c):=by
   refine Wd λe d=>?_;have d:e<U:=by simpa using d
   unfold mZ;rw[h e d]
   congr 1
   rw[iA,eQ,eQ];constructor;grind;grind
  unfold kE;rw[g];split;rfl;rw[We k λa f=>by rw[h a f]]
theorem L4:∀{a b:List Nat},a.Pairwise (· <·)->b.Pairwise (· <·)->(∀x,x∈a<->x∈b)->a=b
 |[],[],_,_,_=>rfl
 |[],c::b,_,_,h=>by have:=(h c).2 (by simp);cases this
 |x::a,[],_,_,h=>by have:=(h x).1 (by simp);cases this
 |x::a,c::b,d,e,h=>by
  rw[AR]at d e;have f:x=c:=by
   have h1:=(h x).1 (by simp);have i:=(h c).2 (by simp);rcases b6.1 h1 with h1|h1;exact h1;grind
  subst f
  congr 1
  refine L4 d.2 e.2 λj=>⟨λg=>?_,λg=>?_⟩;grind;grind
structure tn(n:Nat)(D:cA)(L:List (List Nat))(of:Nat->Nat):Prop where
 pw:∀a,a<n->of a<Z L
 mem:∀i(h:i<Z L) a,a∈L[i]<->a<n/\of a=i
 tp:∀a b,a<n->b<n->(of a=of b<->cY D a b=ad)
 gm:∀g∈L,g.Pairwise (· <·)
 ne:∀g∈L,g≠[]
theorem akb(a:Nat):(ay a).Pairwise (· <·):=aaS
variable{n:Nat}{D d:cA}{L:List (List Nat)}{of:Nat->Nat}
theorem tn.filter(g:tn n D L of)(c:U<n):(ay n).filter (cY D U)=L[of U]'(g.pw U c):=by
 refine L4 (by grind[akb]) (g.gm _ (bn _)) λd=>?_;rw[g.mem,l5,iz];constructor;rintro⟨a,b⟩;exact⟨a,((g.tp U d c a).2 b).symm⟩;rintro⟨a,b⟩;exact⟨a,(g.tp U d c a).1 b.symm⟩
def q2(L:List (List Nat))(a:Nat):Nat:=((L[a]?).bind List.head?).getD 0
theorem tn.hd(g:tn n D L of)(a:U<Z L):q2 L U∈L[U]/\∀e∈L[U],q2 L U<=e:=by
 have h:=g.ne _ (bn a);have c:=g.gm _ (bn a);unfold q2;rw[bq a];generalize L[U]=d at*;rcases d with _|⟨e,d⟩;grind;simp only[CG,List.head?_cons,nr];rw[AR]at c;refine⟨by simp,λf b=>?_⟩;rcases b6.1 b with rfl|b;exact c7 _;exact aaZ (c.1 f b)
def B0(d:cA)(L:List (List Nat))(of:Nat->Nat)(e:Nat->Bool)(a:Nat):Prop:=
 a<Z L/\e a=ab/\∀c b,d c b=ad->of c=a->of b≠a->e (of b)=ad
def Ed(d:cA)(of:Nat->Nat)(c:Nat->Bool):Prop:=∀a b,d a b=ad->c (of a)=ad->c (of b)=ad
theorem Ed.plus(h:Ed d of cj)(e:pk d U N)(b:cj (of U)=ad):cj (of N)=true:=by
 induction e with
 |hy U N a=>exact h U N a b
 |step U c N a _ f=>exact f (h U c a b)
theorem L5(g:tn n D L of)(x:∀U a,d U a=ad->U<n/\a<n)(k:∀U a,D U a=ad<->pk d U a)(w:Ed d of cj)(f:U<n):
 mZ n D (λb=>cj (of b)) U=ad<->B0 d L of cj (of U):=by
 have A:∀{b c:Nat},pk d b c->b<n/\c<n:=by
  intro b c h;induction h with
  |hy U a h=>grind
  |step U i a h _ u=>grind
 simp only[mZ,ba,hv,eQ,iz,h5];constructor;rintro⟨q,j⟩;refine⟨g.pw U f,q,λb a o m l=>?_⟩;have p:=x b a o;have t:=(g.tp U b f p.1).1 m.symm;have r:D U a=true:=by
  rw[k];simp only[cY,h5,ba,beq_iff_eq]at t;rcases t with e|e;subst e;exact .hy U a o;exact((k U b).1 e.1).trans (.hy b a o)
 rcases j a p.2 with(h|h)|h;grind;exact h;exact absurd ((g.tp U a f p.2).2 h).symm l;rintro⟨q,j,v⟩;refine⟨j,λa l=>?_⟩;rcases r:D U a with _|_;grind;have y:=(k U a).1 r;have key:∀{b c:Nat},pk d b c->of b=of U->cj (of c)=ad\/of c=of U:=by
  intro b c h;induction h with
  |hy b c s=>
   grind
  |step b i c s z u=>
   intro m;by_cases e:of i=of U;exact u e;exact .inl (w.plus z (v b i s m e))
 rcases key y rfl with h|h;grind;exact .inr ((g.tp U a f l).1 h.symm)
inductive w6(d:cA)(L:List (List Nat))(of:Nat->Nat):(Nat->Bool)->List (List Nat)->Prop
 |done (em:Nat->Bool) (h:∀i,¬B0 d L of em i):w6 d L of em []
 |step (em:Nat->Bool) (i:Nat) (g:List Nat) (out:List (List Nat)) (h:B0 d L of em i) (hg:L[i]?=aa g) (hm:∀j,B0 d L of em j->q2 L i<=q2 L j) (t:w6 d L of (λj=>em j||j==i) out):w6 d L of em (g::out)
def HG(L:List (List Nat))(a:Nat->Bool):Nat:=Z ((ay (Z L)).filter λb=> !a b)
theorem L6(h:∀b,cj b=ad->rB b=ad):∀{a:List Nat}{c:Nat},c∈a->rB c=ad->cj c=ab->Z (a.filter cj)<Z (a.filter rB):=by
 have e:∀a:List Nat,Z (a.filter cj)<=Z (a.filter rB):=by
  intro a;induction a with
  |nil=>grind
  |cons b a d=>
   grind
 intro a;induction a with
 |nil=>grind
 |cons b a d=>
  grind
theorem akc(d:U<Z L)(b:cj U=ab):HG L (λa=>cj a||a==U)<HG L cj:=by
 refine L6 (λf e=>?_) (c:=U) (by grind) (by simp[b]) (by simp);grind
theorem akd(g:tn n D L of)(u:∀a b,d a b=ad->a<n/\b<n)(r:∀a b,D a b=ad<->pk d a b){out:List (List Nat)}(o:w6 d L of cj out):
 Ed d of cj->∀k,HG L cj<=k->kE n D k (λe=>cj (of e))=out:=by
 induction o with
 |done cj h=>
  intro l k _;rcases k with _|k;rfl;have:(ay n).find? (mZ n D λe=>cj (of e))=none:=by
   rw[Fh];intro a c o;exact h _ ((L5 g u r l (by simpa using c)).1 o)
  rw[kE,this]
 |step cj f q out h z B K E=>
  intro l k I;have m:=h.1;have J:=akc m h.2.1;rcases k with _|k;omega;let⟨w,F⟩:=g.hd m;have i:=(g.mem f m (q2 L f)).1 w;have y:(ay n).find? (mZ n D λe=>cj (of e))=aa (q2 L f):=by
   rw[za];refine⟨?_,by grind,λa c=>?_⟩;grind[L5];have t:a<n:=by omega
   rcases j:mZ n D (λe=>cj (of e)) a with _|_;rfl;have p:=(L5 g u r l t).1 j;have G:=B _ p;have H:=(g.hd p.1).2 a ((g.mem _ p.1 a).2 ⟨t,rfl⟩);omega
  rw[kE,y];simp only;have A:(ay n).filter (cY D (q2 L f))=q:=by
   rw[g.filter i.1];have:L[of (q2 L f)]?=aa q:=by rw[i.2];exact z
   rw[bq (g.pw _ i.1)]at this;exact zc this
  rw[A]
  congr 1
  have x:Ed d of (λv=>cj v||v==f):=by
   intro a b s c;simp only[h5,beq_iff_eq]at c⊢;rcases c with c|c;exact .inl (l a b s c);by_cases j:of b=f;exact .inr j;exact .inl (h.2.2 a b s c j)
  rw[<-E x k (by omega)];refine We k λe C=>?_
  congr 1
  rw[iA,<-g.tp _ e i.1 C,i.2,beq_iff_eq];omega
theorem ake(g:tn n D L of)(s:∀e f,d e f=ad->e<n/\f<n)(r:∀e f,D e f=ad<->pk d e f){out:List (List Nat)}(t:w6 d L of (λ_=>ab) out):eN n D=out:=by
 have y:Z L<=n:=by
  have key:∀c,c<=Z L->∃a:List Nat,Z a=c/\a.Nodup/\(∀b∈a,b<n/\of b<c):=by
   intro c;induction c with
   |zero=>simp
   |succ c k=>
    intro i;let⟨a,l,m,o⟩:=k (by omega);have x:=(g.mem c i _).1 (g.hd i).1;refine⟨q2 L c::a,by simp[l],?_,λb j=>?_⟩;grind;grind
  let⟨a,l,m,o⟩:=key (Z L) (c7 _);have u:∀(n:Nat)(a:List Nat),a.Nodup->(∀b∈a,b<n)->Z a<=n:=by
   intro n;induction n with
   |zero=>
    intro a _ h;rcases a with _|⟨b,a⟩;simp;have:=h b (by simp);omega
   |succ n k=>
    intro a p h;have v:=k (a.filter λb=>b !=n) (p.sublist I8) (λb j=>by
     have i:=l5.1 j;have:=h b i.1;have q:=i.2;simp at q;omega)
    have w:Z a<=Z (a.filter λb=>b !=n)+1:=by
     induction a with
     |nil=>simp
     |cons b a k=>
      rw[k0]at p;grind[List.filter_eq_self]
    omega
  have:=u n a m λb j=>(o b j).1;omega
 apply akd g s r t (λ_ _ _ h=>by cases h) n;grind[HG]
end
end Law
namespace AM
variable{M:List Obj}{E:AV}{fo:List (List Nat)}{b1:List (List AV)}{dd:Md}{U:Nat}{bu:List Nat}{iC:AV -> List Obj -> Prop}{cj:Nat -> Bool}{K:Type}{a7:K -> List AV}{x:List K}{N:Nat}{gF:Obj}{T F:Bool}
section
open Go.Law
variable{n:Nat}
def cG(g:List Nat):List AV:=[eS ab cN g]
@[simp] theorem akf(g:List Nat):bT (cG g):=by simp[cG]
@[simp] theorem avd(a:Bool)(b:List (List Nat)):Im (eS a cG b):=nE akf a b
@[simp] theorem w7(g:List Nat):Z (cG g)=1:=rfl
@[simp] theorem tq(g:List Nat):(cG g)[0]?=aa (eS ab cN g):=rfl
structure uB(H:List Obj)(v:AV)(L:List (List Nat))(rows:List (List AV)):Prop where
 len:Z rows=Z L
 each:∀i(h:i<Z L),∃id gg,rows[i]?=aa [.q id gg 0 (Z L[i])]/\H[id]?=aa (.arr gg 1 (L[i].map cN))/\2<=id/\∀io go k,v=.q io go 0 k->id≠io
 v:(L=[]/\v=.dL)\/∃io go,v=.q io go 0 (Z L)/\H[io]?=aa (.arr go 1 rows)/\2<=io
theorem uB.mono{H':List Obj}(h:uB M E fo b1)(e:∀(d:Nat)(f:Obj),2<=d->M[d]?=aa f->H'[d]?=aa f):uB H' E fo b1:=by
 refine⟨h.len,λk j=>?_,?_⟩;let⟨id,g,a,c,b,i⟩:=h.each k j;exact⟨id,g,a,e _ _ b c,b,i⟩;rcases h.v with a|⟨io,go,a,c,b⟩;exact .inl a;exact .inr ⟨io,go,a,e _ _ b c,b⟩
theorem uB.pl(h:uB M E fo b1):E.pl=E:=by
 rcases h.v with⟨-,a⟩|⟨io,go,a,-⟩<;>rw[a]<;>rfl
theorem Wf:∀{c b:List (List AV)},Z c=Z b->(∀a(h:a<Z c)(i:a<Z b),b7 M dd c[a] b[a])->fJ M dd c b
 |[],[],_,_=>.nil _
 |r::c,g::b,f,h=>.ck (h 0 (by simp) (by simp)) (Wf (by simpa using f) λa d e=>by
  have:=h (a+1) (by simpa using d) (by simpa using e);simpa using this)
theorem uB.res(h:uB M E fo b1):aM M .res E.pl (eS ab cG fo):=by
 rw[h.pl];rcases h.v with⟨e,a⟩|⟨io,go,a,f,k⟩;rw[a,e];exact .dL _ _;rw[a];refine .pK io go 0 _ 1 b1 _ f (by simp[h.len]) ?_;rw[lq,gT (by simp[h.len])];refine Wf (by simp[h.len]) λc b l=>?_;have g:c<Z fo:=by rw[<-h.len];exact b
 let⟨id,j,d,i,_,_⟩:=h.each c g;rw[bq b,e7]at d;rw[d,xD];exact .ck (ic i (by simp)) (.nil _)
theorem uB.app(h:uB M E fo b1)(u:2<=Z M){id:Nat}(k:M[id]?=aa (.arr U 1 (bu.map cN)))(s:2<=id)(H:∀io go e,E=.q io go 0 e->id≠io)(Q:Z fo<1000000)
 (e:∀y g O,uB g y (fo++[bu]) O->(∀(d:Nat),d<2->g[d]?=M[d]?)->2<=Z g->iC y g):cq (cJ 1 24 E (.sl ab [[.q id U 0 (Z bu)]]) M) iC:=by
 rcases h.v with⟨r,b⟩|⟨io,go,b,t,D⟩;have I:b1=[]:=Je.1 (by rw[h.len,r]<;>rfl);subst I;subst r;rw[b];apply aY (pe (a7:=λf:List AV=>f) (x:=[[.q id U 0 (Z bu)]]) rfl rfl (by simp));have F:id<Z M:=(fH.1 k).1;refine e _ _ [[.q id U 0 (Z bu)]] ⟨rfl,λc l=>?_,.inr ⟨Z M,0,rfl,by simp,u⟩⟩ (λd G=>by rw[oG (by omega)]) (by simp;omega);have:c=0:=by simp at l;omega
 subst this;refine⟨id,U,rfl,by rw[oG F];exact k,s,λio go e a=>?_⟩;injection a with p;omega;have x:io<Z M:=(fH.1 t).1;have a:a1 M io 1 (λf:List AV=>f) go b1=M:=by
  simp only[a1,Jf];let⟨n,o⟩:=fH.1 t;rw[<-o];exact zb n
 have w:=p2 (M:=M) (id:=io) (U:=1) (bytes:=24) (N:=go) (a7:=λf:List AV=>f) (x:=b1) [.q id U 0 (Z bu)] x rfl (by rw[h.len];omega);rw[a,h.len]at w;rw[b];apply aY w;simp only[a1,Jf];refine e _ _ (b1++[[.q id U 0 (Z bu)]]) ⟨by simp[h.len],λc l=>?_,.inr ⟨io,go+1,by simp[h.len],by rw[I9 x],D⟩⟩ (λd G=>by rw[uS (by omega)]) (by simpa using u);by_cases i:c<Z fo;let⟨z,A,n,o,L,N⟩:=h.each c i
 have m:=N io go _ b;refine⟨z,A,?_,?_,L,λJ C K j=>?_⟩;rw[oG (by rw[h.len];exact i),aaT i];exact n;rw[uS (λa=>m a.symm),aaT i];exact o;injection j with p;omega;have:c=Z fo:=by simp at l;omega
 subst this;have m:=H io go _ b;refine⟨id,U,?_,?_,s,λJ C K j=>?_⟩;rw[OY (by rw[h.len];exact c7 _)];simp[h.len];rw[uS (λa=>m a.symm)];simpa using k;injection j with p;omega
theorem akg(a:Nat):(ay (a+1)).all cj=((ay a).all cj&&cj a):=DZ a
theorem akh(b:cA)(a:Nat):cY b a a=true:=by simp[cY]
theorem aki(h:N<Z M):(oy M U a7 x).set N gF=oy (M.set N gF) U a7 x:=by
 unfold oy;split;rfl;rw[ar4 _ _ h]
theorem akj(h:N<Z M):(oy M U a7 x)[N]?=M[N]?:=by
 unfold oy;split;rfl;rw[oG h]
theorem yG(H:D)(a4:mq H):PR C 10 [.agg (cP T F H)] (eS ab cG (eN (Z H.Q) (cQ H))):=by
 refine afg.pr ?_;simp only[eE,O,e4,fh,gy,dR,e2];refine c (Ho H a4) ?_;have ge:=a4.2.2;simp only[BM,O];generalize cQ H=f at*;generalize Z H.Q=n at*;refine aY (se (by omega) (by omega)) ?_;rw[BP];simp only[hG,dR,jY]
 refine bG (K:=Nat×AV×List (List AV)×List (List Nat)×(Nat->Bool)×List Obj×AV) (λk=>[k.2.2.2.2.2.2,k.2.1,I k.1]) (λk=>k.2.2.2.2.2.1) (λk=>n -k.1) (λk=>k.1<=n/\Z k.2.2.2.1=k.1/\k.2.2.2.2.2.1[1]?=aa (fC n k.2.2.2.2.1)/\uB k.2.2.2.2.2.1 k.2.1 k.2.2.2.1 k.2.2.1/\eN n f=k.2.2.2.1++kE n f (n -k.1) k.2.2.2.2.1) (0,.dL,[],[],(λ_=>ab),[.arr 0 1 [],fC n λ_=>ab],.q 0 0 0 0) ⟨by simp,rfl,rfl,⟨rfl,by simp,.inl ⟨rfl,rfl⟩⟩,by simp[eN]⟩ ?_
 rintro⟨J,S,g0,bm,done,l,a6⟩ ⟨c2,aA,E,N,t⟩ az a5;simp only at c2 aA E N t a5⊢;simp only[i,G,A,O,a];have M:1<Z l:=(fH.1 E).1;refine b (λh=>?_) (λh=>?_)
 ·have h:J<n:=by simpa using h
  have d2:n -J=(n -(J+1))+1:=by omega
  rw[d2,kE]at t;have eq:∀d,(ay n).find? (mZ n f done)=aa d->d<n->jB (λu K el=>
   bd (gu .sl (eM n f) K) λfd=>
   bd (aT .s .lss (g u 1) fd) λfn=>
   ez fn (
   jn (λwB=>
   cp C 41 [eM n f,I d,(g u 1)] K λfy=>
   ez fy (
   bd (fS 1 [(I 0)] 1 [(0,(g u 1))]) λf0=>
   cq (cJ 1 8 (g u 0) f0 K) λam L=>
   bd (bP 1 (.q 1 0 0 n) (g u 1) L) λau=>
   bd (du 1 au tt L) λah=>
   wB [am] ah) (
   wB [(g u 0)] K)) λbr bD=>
   bd (aT .s .add (g u 1) (I 1)) λax=>
   el [(g br 0),ax] bD) (
   bd (fS 1 [.aq] 1 [(0,(g u 0))]) λf1=>
   cq (cJ 1 24 S f1 K) λf2 cb=>
   bd (aT .s .add (I J) (I 1)) λf3=>
   az [a6,f2,f3] cb)) [.dL,(I 0)] l:=by
   intro d cs r;rw[cs]at t;simp only at t;refine bG (K:=Nat) (λT=>[ox (Z l) ((ay T).filter (cY f d)),I T]) (λT=>oy (l.set 1 (fC n λe=>done e||(y (e<T)&&cY f d e))) 1 cN ((ay T).filter (cY f d))) (λT=>n -T) (λT=>T<=n) 0 (by simp) ?_ (by simp[ox]) ?_
   rotate_left
   have:fC n (λe=>done e||(y (e<0)&&cY f d e))=fC n done:=zR λm _=>by simp
   simp only[List.range_zero,List.filter_nil,oy,e2,if_true,this];obtain⟨bv,j⟩:=fH.1 E;rw[<-j];exact zb bv;intro T co U d9;have Y:Z (l.set 1 (fC n λe=>done e||(y (e<T)&&cY f d e)))=Z l:=by simp
   have f9:Z ((ay T).filter (cY f d))<=T:=by
    have:=nX (cY f d) (ay T);simpa using this
   simp only[BM,O,i,G,A,a];refine b (λj=>?_) (λj=>?_);have j:T<n:=by simpa using j
   have R:=d9 (T+1) j (by omega);refine c (LG r j) ?_;have d7:(d==T||f d T&&f T d)=cY f d T:=rfl;rw[d7];have a3:(ay (T+1)).filter (cY f d)=(ay T).filter (cY f d)++if cY f d T=ad then[T]else[]:=by
    rw[uR,y7]
    congr 1
    cases d5:cY f d T<;>simp[d5]
   refine b (λo=>?_) (λo=>?_);rw[a3,if_pos o]at R;rw[BJ,O];have:=VB (M:=l.set 1 (fC n λe=>done e||(y (e<T)&&cY f d e))) (U:=1) (bytes:=8) (a7:=cN) (x:=(ay T).filter (cY f d)) (dW:=T) (iC:=λam L=>bd (bP 1 (.q 1 0 0 n) (I T) L) λau=>bd (du 1 au tt L) λah=>bd (aT .s .add (I T) (I 1)) λax=>U [am,ax] ah) rfl (by omega) ?_;rw[Y]at this;exact this;rw[Y]
   have aF:(oy (l.set 1 (fC n λe=>done e||(y (e<T)&&cY f d e))) 1 cN ((ay T).filter (cY f d)++[T]))[1]?=aa (fC n λe=>done e||(y (e<T)&&cY f d e)):=by
    rw[akj (by rw[Y];exact M),I9 M]
   refine aI (fw aF j) (aI (D0 aF j) ?_);rw[aZ,O,aki (by rw[Y];exact M),I6];have P:fC n (λm=>if m=T then ad else done m||(y (m<T)&&cY f d m))=fC n (λe=>done e||(y (e<T+1)&&cY f d e)):=zR λm _=>by
    by_cases p:m=T;subst p;simp[o];rw[if_neg p];have:y (m<T+1)=y (m<T):=by rw[decide_eq_decide];omega
    rw[this]
   rw[P];exact R;rw[a3,if_neg (by rw[o];decide),sQ]at R;rw[aZ,O];have P:fC n (λe=>done e||(y (e<T+1)&&cY f d e))=fC n (λe=>done e||(y (e<T)&&cY f d e)):=zR λm _=>by
    by_cases p:m=T;subst p;simp[o];have:y (m<T+1)=y (m<T):=by rw[decide_eq_decide];omega
    rw[this]
   rw[P]at R;exact R;have:T=n:=by simp at j;omega
   subst this;have P:fC T (λe=>done e||(y (e<T)&&cY f d e))=fC T (λe=>done e||cY f d e):=zR λm c1=>by simp[c1]
   rw[P];have d0:Z ((ay T).filter (cY f d))≠0:=by
    intro p;have:=Je.1 p;have a2:d∈(ay T).filter (cY f d):=by rw[l5];exact⟨by simpa using r,akh f d⟩
    rw[this]at a2;cases a2
   generalize gc:(ay T).filter (cY f d)=x at*;simp only[ox,oy,if_neg d0];refine aI (dW:=.sl ab [[.q (Z l) (Z x -1) 0 (Z x)]]) rfl ?_;have X:Z (l.set 1 (fC T λe=>done e||cY f d e))=Z l:=by simp
   generalize V:l.set 1 (fC T λe=>done e||cY f d e)++[Obj.arr (Z x -1) 1 (x.map cN)]=ac;have d3:∀(w:Nat)(ak:Obj),2<=w->l[w]?=aa ak->ac[w]?=aa ak:=by
    intro w ak W a0;have:=(fH.1 a0).1;rw[<-V,oG (by rw[X];exact this),uS (by omega)];exact a0
   have cl:=N.mono d3;have d1:ac[Z l]?=aa (.arr (Z x -1) 1 (x.map cN)):=by
    rw[<-V,OY (by rw[X];exact c7 _),X];simp
   have ce:ac[1]?=aa (fC T λe=>done e||cY f d e):=by
    rw[<-V,oG (by rw[X];exact M),I9 M]
   refine cl.app (by rw[<-V];simp;omega) d1 (by omega) (λio go gU p=>?_) (by omega) λes be em ci dl f8=>?_;rcases N.v with⟨-,B⟩|⟨gt,f7,B,cc,-⟩;rw[B]at p;cases p;rw[B]at p;injection p with f5;have:=(fH.1 cc).1;omega;rw[aZ,O];refine a5 (J+1,es,em,bm++[x],(λe=>done e||cY f d e),be,a6) ⟨h,by simp[aA],by rw[dl 1 (by omega)];exact ce,ci,?_⟩ (by simp;omega);rw[t,ht]<;>rfl
  refine UZ n (mZ n f done) rfl (λd U r d8 ds=>?_) (λd U r d4 aj=>?_) (λaj U=>?_);simp only[bz,O,i,G,A,a,r,decide_true];refine aV (λ_=>a8 ?_) (λh=>by cases h);refine aI (fw E r) (aI (dW:=.bool (done d)) (by rw[c0 E (Hg r)]<;>rfl) ?_);simp only[bI,O];refine bG (K:=Nat) (λT=>[.bool (!done d&&(ay T).all λT=> !f d T||done T||cY f d T),I T]) (λ_=>l) (λT=>n -T) (λT=>T<=n) 0 (by simp) ?_ (by simp) rfl
  intro T co bi ek;simp only[O,i,G,A,a];refine b (λj=>?_) (λj=>?_);have j:T<n:=by simpa using j
  have a9:=ek (T+1) j (by omega);rw[akg,<-aaU]at a9;have z:∀S:Bool,((!done d&&(ay T).all λT=> !f d T||done T||cY f d T)&&(!f d T||done T||cY f d T))=S->bd (aT .s .add (I T) (I 1)) λex=>bi [.bool S,ex] l:=by
   rintro S rfl;rw[aZ,O];exact a9
  refine aV (λo=>?_) (λo=>z _ (by rw[o]<;>rfl));rw[o,c3]at z;simp only[wW r,O,aJ,BN,ur j,zD,bI];refine ib (λaf=>?_) (λaf=>z _ (by rw[af]<;>rfl));rw[af,rf,l4]at z;refine aI (fw E j) (aI (dW:=.bool (done T)) (by rw[c0 E (Hg j)]<;>rfl) ?_);refine dH (λB=>?_) (λB=>z _ (by rw[B]<;>rfl));rw[B,l4]at z;exact c (LG r j) (z _ rfl);have:T=n:=by simp at j;omega
  subst this;have d6:(!done d&&(ay T).all λe=> !f d e||done e||cY f d e)=mZ T f done d:=rfl;rw[d6];refine b (λo=>?_) (λo=>?_);rw[aZ,O];exact d8 o;rw[aZ,O];exact ds o;have ai:(ay n).find? (mZ n f done)=aa d:=by
   rw[za];exact⟨d4,by simpa using r,λw W=>by rw[aj w W]<;>rfl⟩
  have aR:y ((d:Int)<0)=false:=by simp
  have tk:=eq d ai r;simp only[bz,O,i,G,BM,A]at tk⊢;refine aV (λ_=>?_) (λ_=>?_);rw[aR];refine bw ?_;rw[c5,if_neg (by decide)];exact tk;rw[aR];refine bw ?_;rw[c5,if_neg (by decide)];exact tk;have ai:(ay n).find? (mZ n f done)=none:=by
   rw[Fh];intro w W;rw[aj w (by simpa using W)];decide
  rw[ai]at t;simp only[sQ]at t;simp only[bz,O,i,G,A,a,cn,decide_false];refine aV (λh=>by cases h) (λ_=>?_);rw[c5,if_neg (by decide)];refine a8 ?_;rw[t];exact N.res
 have:n -J=0:=by simp at h;omega
 rw[this,kE,sQ]at t;rw[t];exact N.res
end
inductive gX
 |ty(t:aK)(k:Int)
 |eq(a b:aK)
def ep(b:d->Int)(a:aK):Int:=if a.aF=[]then a.const.ty else b a.aF
def gX.sat(a:d->Int):gX->Prop
 |.ty f e=>ep a f=e
 |.eq b c=>ep a b=ep a c
def lX(C:List gX):Prop:=∃b,∀a∈C,a.sat b
variable{mH:List gX}
theorem lX.mono{C:List gX}(h:∀a∈C,a∈mH):lX mH->lX C:=λ⟨b,c⟩=>⟨b,by grind⟩
structure w where
 aA:List d
 a6:List Int
 ok:Bool
def w.look(a:w)(c:d):Int:=match a.aA.findIdx? (λe=>e==c)with|aa b=>a.a6.getD b 0|ae=>0
def w.of(b:w)(a:aK):Int:=if a.aF=[]then a.const.ty else b.look a.aF
def w.set(a:w)(t:aK)(b:Int):w:=
 if b=0 then a else if t.aF≠[]/\t.aF∉a.aA then⟨a.aA++[t.aF],a.a6++[b],a.ok⟩else{a with ok:=a.ok&&a.of t==b}
def w.eql(a:w)(b c:aK):w:=(a.set b (a.of c)).set c ((a.set b (a.of c)).of b)
def w.round(a:w)(c:List (aK×aK)):w:=c.foldl (λa b=>a.eql b.1 b.2) a
def w.ie(a:w)(c:List (aK×Int)):w:=c.foldl (λa b=>a.set b.1 b.2) a
def w.rounds(b:List (aK×aK)):Nat->w->w
 |0,a=>a
 |n+1,a=>w.rounds b n (a.round b)
structure w.Ok(s:w):Prop where
 len:Z s.a6=Z s.aA
 nz:∀k∈s.a6,k≠0
variable{r:w}{bL:d}
theorem L7(h:bL∉r.aA):r.look bL=0:=by
 grind[w.look]
theorem L8(b:r.Ok)(h:bL∈r.aA):r.look bL≠0:=by
 unfold w.look;rcases c:r.aA.findIdx? (λf=>f==bL)with _|i;grind;have e:=(qt.1 c).1;have a:i<Z r.a6:=by rw[b.len];exact e
 simp only[oK,bq a,nr];exact b.nz _ (bn a)
theorem L9(a:r.Ok):r.look bL≠0<->bL∈r.aA:=
 by grind[L7,L8]
variable{p:List d}{mG:d}
theorem akk:(p++[mG]).findIdx? (λa=>a==bL)=match p.findIdx? (λa=>a==bL)with|aa b=>aa b|ae=>if mG==bL then aa (Z p)else none:=by
 grind
variable{f:Int}
theorem Ma(c:r.Ok)(j:mG∉r.aA):(w.mk (r.aA++[mG]) (r.a6++[f]) r.ok).look bL=if bL=mG then f else r.look bL:=by
 unfold w.look;simp only[akk];rcases g:r.aA.findIdx? (λk=>k==bL)with _|i;by_cases e:bL=mG;subst e;simp only[beq_self_eq_true,if_true,oK];rw[<-c.len,OY (c7 _)];simp;grind;let⟨a,b,_⟩:=qt.1 g;have h:bL≠mG:=by
  rintro rfl;simp only[beq_iff_eq]at b;exact j (b▸bn a)
 rw[if_neg h];have l:i<Z r.a6:=by rw[c.len];exact a
 grind
structure w.Le(s s':w):Prop where
 aA:∀x∈s.aA,x∈s'.aA
 look:∀x∈s.aA,s'.look x=s.look x
 ok:s'.ok=ad->s.ok=ad
 len:Z s.aA<=Z s'.aA
theorem w.Le.refl(a:w):a.Le a:=⟨λ_ h=>h,λ_ _=>rfl,λh=>h,c7 _⟩
theorem w.Le.trans{d e:w}(h:r.Le d)(b:d.Le e):r.Le e:=
 ⟨λa c=>b.aA a (h.aA a c),λa c=>(b.look a (h.aA a c)).trans (h.look a c),λf=>h.ok (b.ok f),ix h.len b.len⟩
theorem w.ts(a:r.Ok)(d:aK)(c:Int):(r.set d c).Ok/\r.Le (r.set d c):=by
 unfold w.set;split;exact⟨a,.refl r⟩;rename_i f;split;rename_i h;refine⟨⟨by simp[a.len],λe b=>?_⟩,by grind,λi g=>?_,λh=>h,by simp⟩;rcases dt.1 b with b|b;exact a.nz e b;grind;grind[Ma];exact⟨⟨a.len,a.nz⟩,λ_ h=>h,λ_ _=>rfl,by grind,c7 _⟩
variable{bR:aK}
theorem w.of_le{a:w}(h:r.Le a)(b:bR.aF=[]\/bR.aF∈r.aA):a.of bR=r.of bR:=by
 unfold w.of;split;rfl;rename_i c;exact h.look _ (b.resolve_left c)
theorem w.akl(c:r.Ok)(b:f≠0)(a:(r.set bR f).ok=ad):(r.set bR f).of bR=f/\(bR.aF=[]\/bR.aF∈(r.set bR f).aA):=by
 unfold w.set at*;rw[if_neg b]at*;split;grind[w.of,Ma];rename_i h;rw[if_neg h]at a;simp only[ba,beq_iff_eq]at a;refine⟨a.2,?_⟩;grind
theorem w.Mb(e:r.Ok)(a b:aK):(r.eql a b).Ok/\r.Le (r.eql a b):=by
 have c:=w.ts e a (r.of b);have d:=w.ts c.1 b ((r.set a (r.of b)).of a);exact⟨d.1,c.2.trans d.2⟩
theorem w.yH:∀(b:List (aK×aK)){a:w},a.Ok->(a.round b).Ok/\a.Le (a.round b)
 |[],a,c=>⟨c,.refl a⟩
 |x::b,a,c=>by
  have d:=w.Mb c x.1 x.2;have e:=w.yH b d.1;exact⟨e.1,d.2.trans e.2⟩
theorem w.Ai:∀(b:List (aK×Int)){a:w},a.Ok->(a.ie b).Ok/\a.Le (a.ie b)
 |[],a,c=>⟨c,.refl a⟩
 |x::b,a,c=>by
  have d:=w.ts c x.1 x.2;have e:=w.Ai b d.1;exact⟨e.1,d.2.trans e.2⟩
theorem w.HH{b:List (aK×aK)}:∀(n:Nat){a:w},a.Ok->(w.rounds b n a).Ok/\a.Le (w.rounds b n a)
 |0,a,c=>⟨c,.refl a⟩
 |n+1,a,c=>by
  have d:=w.yH b c;have e:=w.HH (b:=b) n d.1;exact⟨e.1,d.2.trans e.2⟩
def w.q3(a:w)(c:d->Int):Prop:=∀b∈a.aA,a.look b=c b
variable{dU:d -> Int}
theorem w.q3.of(b:r.Ok)(h:r.q3 dU)(a:r.of bR≠0):r.of bR=ep dU bR:=by
 unfold w.of ep at*;split;rfl;rename_i c;rw[if_neg c]at a;exact h _ ((L9 b).1 a)
theorem w.Wg(j:r.Ok)(h:r.q3 dU)(c:r.ok=ad)(b:ep dU bR=f):(r.set bR f).q3 dU/\(r.set bR f).ok=true:=by
 unfold w.set;split;grind;rename_i m;split;rename_i e;refine⟨λk a=>?_,c⟩;rw[Ma j e.2];split;grind[ep];rename_i l;rcases dt.1 a with a|a;exact h k a;grind;rename_i e;refine⟨h,?_⟩;simp only[c,c3,beq_iff_eq];by_cases g:bR.aF=[];grind[ep,w.of];have i:bR.aF∈r.aA:=by grind
 unfold ep at b;unfold w.of;rw[if_neg g]at*;rw[h _ i];exact b
theorem w.Wh(c:r.Ok)(h:r.q3 dU)(b:r.ok=ad)(a:f≠0->ep dU bR=f):(r.set bR f).q3 dU/\(r.set bR f).ok=true:=by
 grind[w.set,w.Wg]
variable{rD:aK}
theorem w.akm(c:r.Ok)(h:r.q3 dU)(g:r.ok=ad)(e:ep dU bR=ep dU rD):(r.eql bR rD).q3 dU/\(r.eql bR rD).ok=true:=by
 have b:=w.Wh c h g (bR:=bR) (f:=r.of rD) (λa=>by rw[e,h.of c a]);have f:=(w.ts c bR (r.of rD)).1;exact w.Wh f b.1 b.2 (λa=>by rw[<-e,b.1.of f a])
theorem w.Wi:∀(b:List (aK×aK)){a:w},a.Ok->a.q3 dU->a.ok=ad->(∀x∈b,ep dU x.1=ep dU x.2)->(a.round b).q3 dU/\(a.round b).ok=ad
 |[],a,_,h,c,_=>⟨h,c⟩
 |x::b,a,f,h,c,g=>by
  have e:=w.akm f h c (g x (by simp));exact w.Wi b (w.Mb f x.1 x.2).1 e.1 e.2 (by grind)
theorem w.Wj:∀(b:List (aK×Int)){a:w},a.Ok->a.q3 dU->a.ok=ad->(∀x∈b,ep dU x.1=x.2)->(a.ie b).q3 dU/\(a.ie b).ok=ad
 |[],a,_,h,c,_=>⟨h,c⟩
 |x::b,a,f,h,c,g=>by
  have e:=w.Wg f h c (g x (by simp));exact w.Wj b (w.ts f x.1 x.2).1 e.1 e.2 (by grind)
theorem w.Wk{b:List (aK×aK)}(f:∀i∈b,ep dU i.1=ep dU i.2):∀(n:Nat){a:w},a.Ok->a.q3 dU->a.ok=ad->(w.rounds b n a).q3 dU/\(w.rounds b n a).ok=ad
 |0,a,_,h,c=>⟨h,c⟩
 |n+1,a,g,h,c=>by
  have e:=w.Wi b g h c f;exact w.Wk f n (w.yH b g).1 e.1 e.2
def w.both(a:w)(b:aK×aK):Bool:=a.of b.1 !=0&&a.of b.2 !=0
def w.kn(b:w)(a:List (aK×aK)):Nat:=Z (a.filter b.both)
theorem w.B1{a:w}(c:r.Ok)(h:r.Le a)(b:r.of bR≠0):a.of bR=r.of bR:=by
 grind[w.of_le,w.of,L9]
theorem w.Mc{a:w}(d:r.Ok)(h:r.Le a){b:aK×aK}(c:r.both b=ad):a.both b=true:=by
 simp only[w.both,ba,bne_iff_ne,ne_eq]at c⊢;grind[w.B1]
variable{ee:K -> Bool}
theorem Wl{b:K->Bool}(h:∀x,ee x=ad->b x=ad):∀a:List K,Z (a.filter ee)<=Z (a.filter b)
 |[]=>c7 _
 |x::a=>by
  have c:=Wl h a;grind
theorem Wm{d:K->Bool}(h:∀x,ee x=ad->d x=ad):∀{a:List K}{b:K},b∈a->d b=ad->ee b=ab->Z (a.filter ee)<Z (a.filter d)
 |x::a,b,c,f,e=>by
  simp only[Fa];rcases b6.1 c with rfl|c;have:=Wl h a;grind;have g:=Wm h c f e;grind
theorem w.Wn:Z (r.set bR f).aA=Z r.aA\/(f≠0/\bR.aF≠[]/\bR.aF∉r.aA):=by
 grind[w.set]
theorem w.Wo(c:r.Ok)(b:f≠0)(a:bR.aF≠[]):(r.set bR f).of bR≠0:=by
 unfold w.of;rw[if_neg a];grind[L8,w.ts,w.set]
theorem w.akn(j:r.Ok)(b a:aK):Z (r.eql b a).aA=Z r.aA\/(r.both (b,a)=ab/\(r.eql b a).both (b,a)=ad):=by
 have c:=w.ts j b (r.of a);have i:=w.ts c.1 a ((r.set b (r.of a)).of b);rcases w.Wn (r:=r) (bR:=b) (f:=r.of a)with m|⟨d,g,l⟩;rcases w.Wn (r:=r.set b (r.of a)) (bR:=a) (f:=(r.set b (r.of a)).of b)with n|⟨d,g,l⟩;exact .inl (n.trans m);refine .inr ⟨?_,?_⟩;have:r.of a=0:=by
  unfold w.of;rw[if_neg g];exact L7 λh=>l (c.2.aA _ h)
 simp[w.both,this];have e:(r.eql b a).of b≠0:=by
  rw[w.eql,w.B1 c.1 i.2 d];exact d
 have f:=w.Wo c.1 (bR:=a) d g;simp only[w.both,ba,bne_iff_ne,ne_eq];exact⟨e,f⟩;refine .inr ⟨?_,?_⟩;simp_all[w.of,L7,w.both];have e:=w.Wo j (bR:=b) d g;have f:(r.set b (r.of a)).of a≠0:=by rw[w.B1 j c.2 d];exact d
 simp only[w.both,ba,bne_iff_ne,ne_eq];exact⟨by rw[w.eql,w.B1 c.1 i.2 e];exact e,by rw[w.eql,w.B1 c.1 i.2 f];exact f⟩
theorem w.Wp:∀(b:List (aK×aK)){a:w},a.Ok->Z (a.round b).aA≠Z a.aA->∃x∈b,a.both x=ab/\(a.round b).both x=ad
 |[],a,_,h=>absurd rfl h
 |x::b,a,d,h=>by
  have c:=w.Mb d x.1 x.2;have i:=w.yH b c.1;rcases w.akn d x.1 x.2 with e|⟨f,g⟩;let⟨l,j,m,k⟩:=w.Wp b c.1 (by rw[e];exact h);refine⟨l,by simp[j],?_,k⟩;grind[w.Mc];exact⟨x,by simp,f,w.Mc c.1 i.2 g⟩
theorem w.ako{a:List (aK×aK)}(d:r.Ok)(h:Z (r.round a).aA≠Z r.aA):r.kn a<(r.round a).kn a:=by
 let⟨f,e,b,c⟩:=w.Wp a d h;exact Wm (by grind[w.Mc,w.yH]) e c b
theorem w.still{b:List (aK×aK)}:∀(n:Nat){a:w},a.Ok->Z b<a.kn b+n->(w.rounds b n a).ok=ad->∃c:w,c.Ok/\a.Le c/\Z (c.round b).aA=Z c.aA/\(c.round b).ok=ad
 |0,a,_,h,_=>by
  have:a.kn b<=Z b:=nX _ _;omega
 |n+1,a,e,h,g=>by
  have d:=w.yH b e;by_cases f:Z (a.round b).aA=Z a.aA;exact⟨a,e,.refl a,f,(w.HH n d.1).2.ok g⟩;have:=w.ako e f;let⟨c,i,j,k⟩:=w.still n d.1 (by omega) g;exact⟨c,i,d.2.trans j,k⟩
theorem w.akp(b:r.Ok)(h:Z (r.set bR f).aA=Z r.aA)(a:(r.set bR f).ok=ad):f≠0->r.of bR=f:=by
 grind[w.set]
theorem w.Me(h:Z (r.set bR f).aA=Z r.aA):∀a:aK,(r.set bR f).of a=r.of a:=by
 intro a;unfold w.set at h⊢;split;rfl;rename_i b;rw[if_neg b]at h;split;grind;rfl
theorem w.Wq:∀(b:List (aK×aK)){a:w},a.Ok->Z (a.round b).aA=Z a.aA->(a.round b).ok=ad->∀f∈b,a.of f.1=a.of f.2
 |[],_,_,_,_=>by simp
 |y::b,a,m,h,d=>by
  have g:=w.ts m y.1 (a.of y.2);have c:=w.ts g.1 y.2 ((a.set y.1 (a.of y.2)).of y.1);have i:=w.yH b c.1;have e0:a.round (y::b)=(((a.set y.1 (a.of y.2)).set y.2 ((a.set y.1 (a.of y.2)).of y.1))).round b:=rfl;rw[e0]at h d;have o:=g.2.len;have p:=c.2.len;have q:=i.2.len;have k:Z (a.set y.1 (a.of y.2)).aA=Z a.aA:=by omega
  have l:Z ((a.set y.1 (a.of y.2)).set y.2 ((a.set y.1 (a.of y.2)).of y.1)).aA=Z (a.set y.1 (a.of y.2)).aA:=by omega
  have n:=i.2.ok d;have r:=c.2.ok n;have hyp:=w.Wq b c.1 (by omega) d;have s:∀e,((a.set y.1 (a.of y.2)).set y.2 ((a.set y.1 (a.of y.2)).of y.1)).of e=a.of e:=λe=>by rw[w.Me l,w.Me k]
  intro f j;rcases b6.1 j with rfl|j;grind[w.akp,w.Me];grind
theorem w.Wr:∀(a:List (aK×Int)){c:w},c.Ok->(c.ie a).ok=ad->(∀b∈a,b.2≠0)->∀b∈a,(c.ie a).of b.1=b.2/\(c.ie a).of b.1≠0
 |[],_,_,_,_=>by simp
 |y::a,c,g,f,j=>by
  have e:=w.ts g y.1 y.2;have h:=w.Ai a e.1;intro b d;rcases b6.1 d with rfl|d;have i:=j b (by simp);have:=w.akl g i (h.2.ok f);grind[w.of,w.ie,w.of_le];exact w.Wr a e.1 f (by grind) b d
def w8(b:List (aK×Int))(c:List (aK×aK)):List gX:=b.map (λa=>.ty a.1 a.2)++c.map λa=>.eq a.1 a.2
theorem akq{b:List (aK×Int)}{d:List (aK×aK)}(E:Z d<U)(y:∀a∈b,a.2≠0)(D:∀a∈d,(a.1.aF=[]->a.1.const.ty≠0)/\(a.2.aF=[]->a.2.const.ty≠0)):
 (w.rounds d U (w.ie ⟨[],[],ad⟩ b)).ok=ad<->lX (w8 b d):=by
 have i:(w.mk [] [] ad).Ok:=⟨rfl,by simp⟩;have f:=w.Ai b i;constructor;intro m;let⟨e,v,s,t,u⟩:=w.still U f.1 (by omega) m;have x:=w.Wq d v t u;have r:=w.Wr b i ((w.HH U f.1).2.ok m) y;refine⟨λa=>if a∈e.aA then e.look a else 1,λz o=>?_⟩;have F:∀g:aK,e.of g≠0->ep (λa=>if a∈e.aA then e.look a else 1) g=e.of g:=by
  intro g j;unfold ep w.of at*;split;rfl;simp_all[L9]
 rcases dt.1 o with h|h;obtain⟨a,c,rfl⟩:=cy.1 h;let⟨B,n⟩:=r a c;have C:=w.B1 f.1 s n;show ep _ a.1=a.2;grind;obtain⟨a,c,rfl⟩:=cy.1 h;have A:=x a c;show ep _ a.1=ep _ a.2;grind[ep,w.of,L8];rintro⟨k,j⟩;have p:∀a∈b,ep k a.1=a.2:=λa c=>j (.ty a.1 a.2) (dt.2 (by grind));have q:∀a∈d,ep k a.1=ep k a.2:=λa c=>j (.eq a.1 a.2) (dt.2 (by grind));have l:=w.Wj b i (by intro a c;cases c) rfl p
 exact(w.Wk q U f.1 l.1 l.2).2
inductive Rt(aC:Nat->Nat):Nat->Nat->Nat->Prop
 |stop (i:Nat) (h:aC i=i):Rt aC 0 i i
 |up (n i r:Nat) (h:aC i≠i) (t:Rt aC n (aC i) r):Rt aC (n+1) i r
theorem Rt.root{aC:Nat->Nat}{r:Nat}(h:Rt aC U N r):aC r=r:=by
 induction h with
 |stop _ h=>exact h
 |up _ _ _ _ _ a=>exact a
def bN(b:Nat->K)(c:Nat)(d:K):Nat->K:=λa=>if a=c then d else b a
structure iQ(V:List d)(C:List gX)(aC:Nat->Nat)(ty:Nat->Int):Prop where
 nd:V.Nodup
 nb:∀x∈V,x≠[]
 lt:∀i,i<Z V->aC i<Z V
 rt:∀i,i<Z V->∃n r,Rt aC n i r
 yI:∀i,i<Z V->0<=ty i
 w9:∀τ:d->Int,(∀c∈C,c.sat τ)<->(∀i(h:i<Z V),τ V[i]=τ (V[aC i]'(lt i h)))/\∀i(h:i<Z V),aC i=i->ty i≠0->τ V[i]=ty i
variable{dy:Nat -> Int}
theorem iQ.Aj{C:List gX}{aC:Nat->Nat}(h:iQ p C aC dy){r:Nat}(b:Rt aC U N r)(a:N<Z p):r<Z p:=by
 induction b with
 |stop=>exact a
 |up U N r _ _ c=>exact c (h.lt N a)
theorem iQ.tu{C:List gX}{aC:Nat->Nat}(h:iQ p C aC dy)(c:∀N(a:N<Z p),dU p[N]=dU (p[aC N]'(h.lt N a))){r:Nat}(b:Rt aC U N r)(a:N<Z p):dU p[N]=dU (p[r]'(h.Aj b a)):=by
 induction b with
 |stop=>rfl
 |up U N r _ f e=>grind
theorem Rt.fn{aC:Nat->Nat}{r:Nat}(h:Rt aC U N r):∀{c a:Nat},Rt aC c N a->r=a:=by
 induction h with
 |stop N h=>intro c a b;cases b with
  |stop=>rfl
  |up _ _ _ d=>omega
 |up U N r h g e=>intro c a b;cases b with
  |stop _ d=>omega
  |up _ _ _ _ f=>exact e f
theorem iQ.sat{C:List gX}{aC:Nat->Nat}(h:iQ p C aC dy):lX C:=by
 refine⟨λj=>if f:j∈p then
  (if dy (h.rt (p.idxOf j) (by grind)).choose_spec.choose≠0 then dy (h.rt (p.idxOf j) (by grind)).choose_spec.choose else 1)else 1,?_⟩
 rw[h.w9];have key:∀a(b:a<Z p){g r:Nat},Rt aC g a r->(if f:p[a]∈p then
  (if dy (h.rt (p.idxOf p[a]) (by grind)).choose_spec.choose≠0 then dy (h.rt (p.idxOf p[a]) (by grind)).choose_spec.choose else 1)else 1)=if dy r≠0 then dy r else 1:=by
  intro a b g r c;have f:p[a]∈p:=bn b;rw[dif_pos f];have n:p.idxOf p[a]=a:=by
   have:=h.nd;exact(by grind)
  have o:=(h.rt (p.idxOf p[a]) (ar5 f)).choose_spec.choose_spec;have e:(h.rt (p.idxOf p[a]) (by omega)).choose_spec.choose=r:=by
   have l:Rt aC g (p.idxOf p[a]) r:=by rw[n];exact c
   exact o.fn l
  rw[e]
 refine⟨λa b=>?_,λa b m u=>?_⟩;let⟨g,r,c⟩:=h.rt a b;let⟨q,k,i⟩:=h.rt (aC a) (h.lt a b);have s:=key a b c;have t:=key (aC a) (h.lt a b) i;have:r=k:=by
  by_cases e:aC a=a;exact c.fn (e▸i);exact c.fn (.up q a k e i)
 grind;have:=key a b (.stop a m);omega
variable{ry:gX}
theorem uC{C:List gX}:(∀a∈C++[ry],a.sat dU)<->(∀a∈C,a.sat dU)/\ry.sat dU:=by
 grind
theorem iQ.set{C:List gX}{aC:Nat->Nat}(h:iQ p C aC dy){t:aK}(z:0<f){r:Nat}(e:U<Z p)(x:t.aF=p[U])(a:Rt aC N U r):
 (dy r=0->iQ p (C++[.ty t f]) aC (bN dy r f))/\(dy r=f->iQ p (C++[.ty t f]) aC dy)/\(dy r≠0->dy r≠f->¬lX (C++[.ty t f])):=by
 have A:t.aF≠[]:=by rw[x];exact h.nb _ (bn e)
 have m:=h.Aj a e;have n:∀c,gX.sat c (.ty t f)<->c p[U]=f:=by
  intro c;show ep c t=f<->_;unfold ep;grind
 refine⟨λy=>⟨h.nd,h.nb,h.lt,h.rt,λo l=>?_,λc=>?_⟩,λk=>⟨h.nd,h.nb,h.lt,h.rt,h.yI,λc=>?_⟩,λk v=>?_⟩;unfold bN;split;omega;exact h.yI o l;rw[uC,h.w9,n];constructor;rintro⟨⟨b,i⟩,j⟩;refine⟨b,λo l w q=>?_⟩;unfold bN at q⊢;split;rename_i u;subst u;rw[<-h.tu b a e];exact j;grind;rintro⟨b,i⟩;refine⟨⟨b,λo l w q=>?_⟩,?_⟩;grind[bN];rw[h.tu b a e];have:=i r m a.root (by grind[bN]);grind[bN];rw[uC,h.w9,n]
 refine⟨λg=>g.1,λg=>⟨g,?_⟩⟩;rw[h.tu g.1 a e,g.2 r m a.root (by omega),k];rintro⟨c,s⟩;rw[uC,h.w9,n]at s;let⟨⟨b,i⟩,j⟩:=s;rw[h.tu b a e,i r m a.root k]at j;exact v j
variable{z dp:Nat}
theorem Rt.link{aC:Nat->Nat}(d:aC U=U)(i:aC N=N)(g:U≠N){r:Nat}(h:Rt aC z dp r):∃a,Rt (bN aC U N) a dp (if r=U then N else r):=by
 induction h with
 |stop dp h=>
  by_cases b:dp=U;subst b;rw[if_pos rfl];have c:bN aC dp N dp=N:=by simp[bN]
  refine⟨1,.up 0 dp N (by omega) ?_⟩;rw[c];exact .stop N (by grind[bN]);rw[if_neg b];exact⟨0,.stop dp (by grind[bN])⟩
 |up z dp r h k f=>
  let⟨a,j⟩:=f;have e:dp≠U:=by rintro rfl;exact h d
  have c:bN aC U N dp=aC dp:=by unfold bN;rw[if_neg e]
  exact⟨a+1,.up a dp _ (by omega) (by grind)⟩
variable{mK:Nat}
theorem iQ.same{C:List gX}{aC:Nat->Nat}(h:iQ p C aC dy){r:Nat}(j:U<Z p)(k:N<Z p)(J:bR.aF=p[U])(K:rD.aF=p[N])(e:Rt aC z U r)(g:Rt aC dp N mK):
 (dy r≠0->dy mK≠0->dy r≠dy mK->¬lX (C++[.eq bR rD]))/\((dy r=0\/dy mK=0\/dy r=dy mK)->iQ p (C++[.eq bR rD]) (bN aC r mK) (bN dy mK (max (dy r) (dy mK)))):=by
 have P:bR.aF≠[]:=by rw[J];exact h.nb _ (bn j)
 have Q:rD.aF≠[]:=by rw[K];exact h.nb _ (bn k)
 have q:=h.Aj e j;have s:=h.Aj g k;have v:∀c,gX.sat c (.eq bR rD)<->c p[U]=c p[N]:=by
  intro c;show ep c bR=ep c rD<->_;unfold ep;grind
 refine⟨λG H I=>?_,λM=>?_⟩;rintro⟨c,B⟩;rw[uC,h.w9,v]at B;let⟨⟨a,l⟩,t⟩:=B;rw[h.tu a e j,h.tu a g k,l r q e.root G,l mK s g.root H]at t;exact I t;have T:=h.yI r q;have V:=h.yI mK s;by_cases m:r=mK;subst m;have D:bN aC r r=aC:=by
  funext a;unfold bN;split
  rename_i f;subst f;exact e.root.symm;rfl
 have E:bN dy r (max (dy r) (dy r))=dy:=by
  funext a;unfold bN;split
  rename_i f;subst f;omega;rfl
 rw[D,E];refine⟨h.nd,h.nb,h.lt,h.rt,h.yI,λc=>?_⟩;rw[uC,h.w9,v];refine⟨λa=>a.1,λa=>⟨a,?_⟩⟩;rw[h.tu a.1 e j,h.tu a.1 g k];have L:∀a,a<Z p->bN aC r mK a<Z p:=by
  intro a f;unfold bN;split;exact s;exact h.lt a f
 have A:∀a,a≠r->bN aC r mK a=aC a:=by grind[bN]
 have y:bN aC r mK r=mK:=by simp[bN]
 refine⟨h.nd,h.nb,L,λa f=>?_,λa f=>?_,λc=>?_⟩;let⟨R,b,i⟩:=h.rt a f;let⟨S,O⟩:=i.link e.root g.root m;grind;unfold bN;split;omega;exact h.yI a f;rw[uC,h.w9,v];constructor;rintro⟨⟨a,l⟩,t⟩;have x:c p[r]=c p[mK]:=by rw[<-h.tu a e j,<-h.tu a g k];exact t
 refine⟨λb i=>?_,λb i n o=>?_⟩;by_cases eq:b=r;grind;grind;have eq:b≠r:=by
  rintro rfl;rw[y]at n;exact m n.symm
 rw[A b eq]at n;unfold bN at o⊢;split;rename_i u;subst u;by_cases W:dy b=0;rw[if_pos rfl]at o;have:dy r≠0:=by omega
 rw[<-x,l r q e.root this];omega;grind;grind;rintro⟨a,l⟩;have x:c p[r]=c p[mK]:=by
  have:=a r q;simp only[y]at this;exact this
 have w:∀b(i:b<Z p),c p[b]=c (p[aC b]'(h.lt b i)):=by
  intro b i;by_cases eq:b=r;subst eq;simp only[e.root];grind
 have X:max (dy r) (dy mK)≠0->c p[mK]=max (dy r) (dy mK):=λo=>by
  have:=l mK s (by rw[A mK (λu=>m u.symm)];exact g.root) (by grind[bN]);grind[bN]
 refine⟨⟨w,λb i n o=>?_⟩,?_⟩;by_cases eq:b=r;subst eq;omega;by_cases F:b=mK;subst F;omega;grind[bN];rw[h.tu w e j,h.tu w g k];exact x
theorem iQ.start(e:p.Nodup)(b:∀g∈p,g≠[]){aC:Nat->Nat}(c:∀a,a<Z p->aC a=a)(h:∀a,a<Z p->dy a=0):iQ p [] aC dy:=by
 refine⟨e,b,by grind,λa f=>⟨0,a,.stop a (c a f)⟩,by grind,λi=>?_⟩;grind
def ef(a:D)(b:d):Int:=b2 (λc:bQ=>c.au==b) a.aw
def iR(a:D)(b:d):Int:=b2 (λc:Fn=>c.au==b) a.aO
def eO(a:D)(b:d):Int:=b2 (λc:cO=>c.au==b) a.Q
def bV(a:List d)(b:d):Int:=b2 (λc=>c==b) a
def fM(b:bQ)(a:Fn):List Int:=b.az.map λc=>bV b.az (a.dst.getD (bV a.src c).toNat [])
def fG(c:bQ)(a:Fn):Bool:=
 ((ay (Z a.src)).all λb=>y (0<=bV c.az (a.src.getD b []))&&y (0<=bV c.az (a.dst.getD b [])))&&
 ((ay (Z a.src)).all λb=>bV a.src (a.src.getD b [])==(b:Int))&&
 (c.az.all λd=>y (0<=bV a.src d))&&ot c (fM c a)
def qc(c:D)(a:Nat):Bool:=match c.aw[a]? with|aa b=>eY b==0&&ef c b.au==(a:Int)|ae=>ad
def px(a:D)(c:Nat):Bool:=match a.aO[c]? with|aa b=>(match a.aw[(ef a b.aN).toNat]? with|aa d=>y (0<=ef a b.aN)&&fG d b|ae=>ab)&&iR a b.au==(c:Int)|ae=>ad
def vE(a:D)(c:Nat):Bool:=match a.Q[c]? with|aa b=>(b.aN==[]||y (0<=ef a b.aN))&&eO a b.au==(c:Int)|ae=>ad
def qd(a:D):Bool:=(ay (Z a.aw)).all (qc a)&&(ay (Z a.aO)).all (px a)&&(ay (Z a.Q)).all (vE a)
def eP(b:D)(a:Fn):Fn:={a with of:=ef b a.aN,gU:=match b.aw[(ef b a.aN).toNat]? with|aa c=>if 0<=ef b a.aN/\fG c a=ad then fM c a else[]|ae=>[]}
def ew(b:D)(a:cO):cO:={a with of:=if a.aN=[]then -1 else ef b a.aN}
def eg(a:D)(b:List aD):D:=⟨a.aw,a.aO.map (eP a),a.Q.map (ew a),b⟩
def vF(e:cO)(d:List aK)(a:Nat):Bool:=match d[a]?,e.a6[a]? with|aa b,aa c=> !(b.aF==[])||b.const.ty==c|_,_=>ad
def nQ(b:cO)(a:List aK):Bool:=(Z a:Int)==Z b.a6&&(ay (Z a)).all (vF b a)
def fx(b:D)(c:cO)(e:d):Int:=match b.aw[c.of.toNat]? with|aa a=>bV a.az e|ae=> -1
def gQ(a:D)(r:aD):Bool:=
 r.au==[]||(match a.Q[(eO a r.au).toNat]? with
  |ae=>ab
  |aa b=>y (0<=eO a r.au)&& !b.ek&&nQ b r.af&&((r.aj.ax==0)==y (b.of<0))&&
   (!(r.aj.ax==1)||y (0<=fx a b r.aj.au))&&
   (!(r.aj.ax==3)||(y (0<=iR a r.aj.au)&&(match a.aO[(iR a r.aj.au).toNat]? with|aa c=>c.of==b.of|ae=>ab))))
def oB(a:D)(r:aD):Int:=
 if r.au=[]then -1 else if r.aj.ax=1 then(match a.Q[(eO a r.au).toNat]? with|aa b=>fx a b r.aj.au|ae=> -1)else if r.aj.ax=3 then iR a r.aj.au else -1
def ka(a:D)(r:aD):Int:=if r.au=[]then -1 else eO a r.au
def hS(c:D)(b:Lit):Bool:=
 if b.ax=5 then(match b.af with|a::e::_=> !(a.aF==[]&&e.aF==[]&&a.const.ty !=e.const.ty)|_=>ad)
 else match c.Q[(eO c b.au).toNat]? with
  |ae=>ab
  |aa d=>y (0<=eO c b.au)&&nQ d b.af&& !(y (d.of<0)&&(!(b.bind==[])||(b.ax==3||b.ax==4)))&&
   (!(b.ax==3||b.ax==4)||(y (0<=fx c d b.aj)&&(match c.aw[d.of.toNat]? with|aa f=>fx c d b.aj !=eD f []|ae=>ab)))
def nR(b:D)(a:Lit):Int:=if a.ax=5 then -1 else eO b a.au
def Ak(b:D)(a:Lit):Int:=if a.ax=3\/a.ax=4 then(match b.Q[(eO b a.au).toNat]? with|aa c=>fx b c a.aj|ae=> -1)else -1
def iu(b:D)(a:Lit):Lit:={a with ah:=nR b a,iG:=Ak b a}
def fi(a:D)(r:aD):aD:={r with ah:=ka a r,aj:={r.aj with aR:=oB a r},ai:=r.ai.map (iu a)}
def lY(b:D)(c:Int)(a:List aK):List (aK×Int):=match b.Q[c.toNat]? with|aa d=>a.zip d.a6|ae=>[]
def B2(a:D)(r:aD):List (aK×Int):=if 0<=r.ah then lY a r.ah r.af else[]
def jU(b:D)(a:Lit):List (aK×Int):=if 0<=a.ah then lY b a.ah a.af else[]
def sw(b:Lit):List (aK×aK):=if b.ax=5 then(match b.af with|a::c::_=>[(a,c)]|_=>[])else[]
def xa(a:D)(r:aD)(b:Nat):List (aK×Int):=B2 a r++((r.ai.take b).map (jU a)).flatten
def xb(r:aD)(a:Nat):List (aK×aK):=((r.ai.take a).map sw).flatten
def yJ(a:D)(r:aD):Prop:=lX (w8 (xa a r (Z r.ai)) (xb r (Z r.ai)))
def hT(a:D)(b:Int):Int:=match a.Q[b.toNat]? with|aa c=>c.of|ae=> -1
def na(b:D)(r:aD):List Lit->Bool->Option Bool
 |[],a=>aa a
 |l::c,a=>if l.bind=[]then na b r c a else
  if(a|| !y (l.bind=r.aj.aF)||y (l.bind∈fF r)||hT b l.ah !=hT b r.ah)=ad then ae else na b r c ad
def tv(b:D)(r:aD):Bool:=match na b r r.ai ab with|ae=>ab|aa a=>r.aj.aF==[]||a
def vG(a:D)(r:aD):Prop:=Z (fF r)<=12/\yJ a r/\tv a r=ad
def lE(a:D)(r:aD):Prop:=gQ a r=ad/\r.ai.all (hS a)=ad/\vG a (fi a r)
def iY(a:D):Prop:=rY a=ad/\qd a=ad/\(∀r∈a.ak,lE (eg a []) r)/\a=eg a (a.ak.map (fi (eg a [])))
open Classical in
noncomputable def lh(a:D):Bool:=y (iY a)
open Go.Law
variable{oS:cO}{mF:List aK}
theorem Ws(h:U<Z mF)(a:U<Z oS.a6):vF oS mF U=(!(mF[U].aF==[])||mF[U].const.ty==oS.a6[U]):=by
 grind[vF]
theorem Wt(d:cO)(c:List aK)(q:Sm c):∃f:Int,PR C 253 [.agg (bO T d),eS F cT c] (I f)/\(f=0<->nQ d c=ad):=by
 have key:∃o l,C 253 [.agg (bO T d),eS F cT c] [] o l/\∃f:Int,aM l .res o (I f)/\(f=0<->nQ d c=ad):=by
  apply agx.hq;simp only[F8,O,aX,bh,aJ,wx,e,cv];refine b (λh=>?_) (λh=>?_);refine⟨71,jS rfl,?_⟩;have:((Z c:Int)==Z d.a6)=false:=by
   simp only[bne_iff_ne,ne_eq]at h;simpa using h
  simp[nQ,this];have r:Z c=Z d.a6:=by
   simp only[bne_eq_false_iff_eq]at h;omega
  have s:nQ d c=(ay (Z c)).all (vF d c):=by
   have:((Z c:Int)==Z d.a6)=true:=by simp[r]
   rw[nQ,this,c3]
  rw[s];refine eB (U:=Z c) (c:=λg=>[I 0,I g]) (λg=>(ay g).all (vF d c)=ad) (by simp) rfl (λg j t p w=>?_) (λt p=>?_);have m:g<Z d.a6:=by omega
  have v:=Ws (oS:=d) j m;simp only[i,G,A,O,a,j,decide_true,aE j (kt _),bh,aJ,rV,Ds,e,fY,gW,aE m (jh _),lN,cv];refine a8 (dA (M:=[]) (!vF d c g) (λx n=>aV (λk=>kB n ?_) (λk=>kB n ?_)) ?_);grind;grind;simp only[G];refine dw (λk=>⟨72,jS rfl,?_⟩) (λk=>?_);grind;rw[q.inc j,O];grind;simp only[i,G,A,O,a,cn,decide_false];exact bw (by simp_all)
 grind[Ko]
def mu(c:List Obj)(d:AV)(id:Nat)(a:List (Int×Int)):Prop:=∃b,d=.q id b 0 (Z a)/\c[id]?=aa (.arr b 2 (a.map b3))
def mw(a:List (Int×Int))(b c:Int):List (Int×Int):=if b=0\/20<=Z a then a else a++[(b,c)]
def vH(id:Nat)(c d:List Obj):Prop:=∀(a:Nat)(b:Obj),a≠id->c[a]?=aa b->d[a]?=aa b
theorem vH.refl(id:Nat)(a:List Obj):vH id a a:=λ_ _ _ h=>h
variable{fq:List Obj}
theorem vH.trans{id:Nat}{a:List Obj}(h:vH id M fq)(f:vH id fq a):vH id M a:=λc d b e=>f c d b (h c d b e)
variable{ey:List (Int × Int)}
theorem mu.pl{id:Nat}(h:mu M E id ey):E.pl=E:=by obtain⟨g,rfl,-⟩:=h;rfl
theorem mu.lt{id:Nat}(h:mu M E id ey):id<Z M:=by
 let⟨g,_,h⟩:=h;grind
theorem mu.ln{id:Nat}(h:mu M E id ey)(a:List Obj):gu .sl E a=aa (I (Z ey)):=by obtain⟨g,rfl,-⟩:=h;rfl
theorem mu.res{id:Nat}(h:mu M E id ey):aM M .res E (eS ab b3 ey):=by
 obtain⟨g,rfl,h⟩:=h;simp_all[ic]
theorem Al{id:Nat}(a:List (Int×Int))(c d:Int)(k:mu M E id a):HR C 144 [E,I c,I d] M (λr g=>mu g r id (mw a c d)/\vH id M g):=by
 have q:=k.lt;obtain⟨e,rfl,o⟩:=k;apply ae4.hq;simp only[fh,e4,oa,O,c6,hz];have j:(M++[Obj.arr 0 2 []])[id]?=aa (.arr e 2 (a.map b3)):=by rw[oG q];exact o
 have n:vH id M (M++[Obj.arr 0 2 []]):=λf l _ h=>gN.app _ _ f l h;apply dA (M:=M++[.arr 0 2 []]) (c==0||y (20<=(Z a:Int))) (λf p=>dH (by grind) (by grind));simp only[G];refine b (λh=>?_) (λh=>?_);have:mw a c d=a:=by
  rw[mw,if_pos];simp only[h5,beq_iff_eq,decide_eq_true_eq]at h;omega
 rw[this];exact⟨⟨e,rfl,j⟩,n⟩;have s:¬(c=0\/20<=Z a):=by
  simp only[Jb,beq_eq_false_iff_ne,ne_eq,decide_eq_false_iff_not]at h;omega
 have:mw a c d=a++[(c,d)]:=by rw[mw,if_neg s]
 rw[this];simp only[wU,O,yv];have m:a1 (M++[Obj.arr 0 2 []]) id 2 b3 e a=M++[Obj.arr 0 2 []]:=by
  let⟨t,u⟩:=fH.1 j;simp only[a1];rw[<-u];exact zb t
 have i:=p2 (M:=M++[Obj.arr 0 2 []]) (id:=id) (U:=2) (bytes:=16) (N:=e) (a7:=b3) (x:=a) (c,d) (by simp;omega) rfl (by omega);rw[m]at i;refine aY i ⟨⟨e+1,rfl,by grind[oj]⟩,λf l p h=>?_⟩;grind[a1]
def ig(a:w):List Obj:=if Z a.aA=0 then[.arr 0 3 [[.aq,.aq,.bool a.ok]]]else[.arr 0 3 [[.q 1 (Z a.aA -1) 0 (Z a.aA),.q 2 (Z a.aA -1) 0 (Z a.aA),.bool a.ok]],.arr (Z a.aA -1) 1 (a.aA.map cS),.arr (Z a.aA -1) 1 (a.a6.map cI)]
def Am(a:w):List AV:=[eS ad cS a.aA,eS ad cI a.a6,.bool a.ok]
theorem Mf(d:r.Ok):aM (ig r) .cd (.ptr 0 0 0 0) (.aH ad (Am r) 0):=by
 have c:=d.len;unfold ig;split;rename_i h;have a:r.aA=[]:=by grind
 have b:r.a6=[]:=by grind
 rw[Am,a,b];exact .o2 0 0 0 0 3 _ _ _ rfl rfl (.ck (.aq _ _) (.ck (.aq _ _) (.ck (.bool _ _) (.nil _))));rename_i h;refine .o2 0 0 0 0 3 _ _ _ rfl rfl (.ck (om rfl (by simp)) (.ck ?_ (.ck (.bool _ _) (.nil _))));rw[<-c];exact om rfl (by simp)
theorem Mg(a:aK)(m:Sm r.aA)(o:Z r.a6=Z r.aA):PR C 295 [.aH ad (Am r) 0,.agg (cT a)] (I (r.of a)):=by
 apply afd.pr;simp only[zC,O,bh,aJ,rV,Ds,e,fY,gW];have n:∀j,iL (.aH ad (Am r) 0) j=aa (.aH ad (Am r) 0):=λ_=>rfl;have k:(Am r)[0]?=aa (eS ad cS r.aA):=rfl;have l:(Am r)[1]?=aa (eS ad cI r.a6):=rfl;rw[w.of];refine b (λh=>?_) (λh=>?_);simp_all;rw[if_neg (by grind)];simp only[n,O,bh,aJ,e,k,l];apply c (um r.aA a.aF m);simp only[A,O];rw[w.look];rcases f:r.aA.findIdx? (λd=>d==a.aF)with _|i
 have:b2 (λd=>d==a.aF) r.aA= -1:=by rw[b2,f]
 rw[this];exact a8 (jS rfl);have:b2 (λd=>d==a.aF) r.aA=(i:Int):=by rw[b2,f]
 rw[this];have g:i<Z r.a6:=by
  have:=(qt.1 f).1;omega
 refine bw ?_ (by simp);simp only[aE g (jh _),O,aJ,lN];apply jS;rw[oK,bq g]<;>rfl
theorem HI(a:aK)(d:Int)(t:r.Ok)(W:Z r.aA<1000000000):C 294 [.ptr 0 0 0 0,.agg (cT a),I d] (ig r) (.aB []) (ig (r.set a d)):=by
 have j:=t.len;apply aeI.hr;simp only[zC,O,bh,aJ,rV,e,c6,jE];let⟨v0,v1,D⟩:∃v0 v1,(ig r)[0]?=aa (.arr 0 3 [[v0,v1,.bool r.ok]])/\aM (ig r) .cd v0 (eS ad cS r.aA)/\v0.pl=v0:=by
  unfold ig;split;rename_i h;have f:r.aA=[]:=by grind
  rw[f];exact⟨.aq,.aq,rfl,.aq _ _,rfl⟩;exact⟨_,_,rfl,om rfl (by simp),rfl⟩
 let⟨c,M,L⟩:=D;have m:iL (.ptr 0 0 0 0) (ig r)=aa (.ptr 0 0 0 0):=by simp[iL,dK,c]
 have u:aQ 1 ab (.ptr 0 0 0 0) (ig r)=aa v0:=by rw[c0 c rfl]<;>rfl
 have R:aQ 1 ab (.ptr 0 0 0 2) (ig r)=aa (.bool r.ok):=by rw[c0 c rfl]<;>rfl
 rw[m,O,pg c,O,u,O];refine eV _ (um r.aA a.aF (by grind[Sm])) (.ck (by rw[L];exact M) (.ck (.str _ _) (.nil _))) (.int _ _) ?_;rw[w.set];refine b (λh=>?_) (λh=>?_);grind;have H:d≠0:=by simpa using h
 rw[if_neg H];have X:(y (b2 (λU=>U==a.aF) r.aA<0))= !y (a.aF∈r.aA):=GU;apply dA (M:=ig r) (!(a.aF==[])&& !y (a.aF∈r.aA)) (λac J=>aV (λf=>kB J (by grind)) (by grind));simp only[G];refine b (λf=>?_) (λf=>?_);simp only[ba,hv,beq_eq_false_iff_ne,ne_eq,decide_eq_false_iff_not]at f;rw[if_pos f];simp only[m,O,pg c,u,DS,GV,e];by_cases s:Z r.aA=0;have P:r.aA=[]:=by grind
 have N:r.a6=[]:=by grind
 have g:ig r=[.arr 0 3 [[.aq,.aq,.bool r.ok]]]:=by unfold ig;rw[if_pos s]
 have l:v0=.aq:=by rw[g]at c;simp at c;exact c.1.symm
 subst l;have k:ig ⟨r.aA++[a.aF],r.a6++[d],r.ok⟩=[.arr 0 3 [[.q 1 0 0 1,.q 2 0 0 1,.bool r.ok]],.arr 0 1 [cS a.aF],.arr 0 1 [cI d]]:=by
  rw[P,N]<;>rfl
 rw[k,g];exact⟨trivial,rfl⟩;have g:ig r=[.arr 0 3 [[.q 1 (Z r.aA -1) 0 (Z r.aA),.q 2 (Z r.aA -1) 0 (Z r.aA),.bool r.ok]],.arr (Z r.aA -1) 1 (r.aA.map cS),.arr (Z r.aA -1) 1 (r.a6.map cI)]:=by unfold ig;rw[if_neg s]
 have l:v0=.q 1 (Z r.aA -1) 0 (Z r.aA):=by rw[g]at c;simp at c;exact c.1.symm
 subst l;have k:ig ⟨r.aA++[a.aF],r.a6++[d],r.ok⟩=[.arr 0 3 [[.q 1 (Z r.aA) 0 (Z r.aA+1),.q 2 (Z r.aA) 0 (Z r.aA+1),.bool r.ok]],.arr (Z r.aA) 1 ((r.aA++[a.aF]).map cS),.arr (Z r.aA) 1 ((r.a6++[d]).map cI)]:=by
  unfold ig;simp
 rw[k,g];have E:(Z r.aA+1)*16<=2^47:=by omega
 have F:(Z r.a6+1)*8<=2^47:=by omega
 have o:=p2 (M:=[.arr 0 3 [[.q 1 (Z r.aA -1) 0 (Z r.aA),.q 2 (Z r.aA -1) 0 (Z r.aA),.bool r.ok]],.arr (Z r.aA -1) 1 (r.aA.map cS),.arr (Z r.aA -1) 1 (r.a6.map cI)]) (id:=1) (U:=1) (bytes:=16) (N:=Z r.aA -1) (a7:=cS) (x:=r.aA) a.aF (by simp) rfl E
 have z:a1 [.arr 0 3 [[.q 1 (Z r.aA -1) 0 (Z r.aA),.q 2 (Z r.aA -1) 0 (Z r.aA),.bool r.ok]],.arr (Z r.aA -1) 1 (r.aA.map cS),.arr (Z r.aA -1) 1 (r.a6.map cI)] 1 1 cS (Z r.aA -1) r.aA=[.arr 0 3 [[.q 1 (Z r.aA -1) 0 (Z r.aA),.q 2 (Z r.aA -1) 0 (Z r.aA),.bool r.ok]],.arr (Z r.aA -1) 1 (r.aA.map cS),.arr (Z r.aA -1) 1 (r.a6.map cI)]:=rfl;rw[z]at o;apply aY o;rw[show Z r.aA -1+1=Z r.aA by omega]
 refine aI rfl (aI rfl (aI (dW:=[.arr 0 3 [[.q 1 (Z r.aA) 0 (Z (r.aA++[a.aF])),.q 2 (Z r.aA -1) 0 (Z r.aA),.bool r.ok]],.arr (Z r.aA) 1 ((r.aA++[a.aF]).map cS),.arr (Z r.aA -1) 1 (r.a6.map cI)]) rfl (aI rfl (aI rfl (aI (dW:=.q 2 (Z r.aA -1) 0 (Z r.aA)) rfl ?_)))))
 have p:=p2 (M:=[.arr 0 3 [[.q 1 (Z r.aA) 0 (Z (r.aA++[a.aF])),.q 2 (Z r.aA -1) 0 (Z r.aA),.bool r.ok]],.arr (Z r.aA) 1 ((r.aA++[a.aF]).map cS),.arr (Z r.aA -1) 1 (r.a6.map cI)]) (id:=2) (U:=1) (bytes:=8) (N:=Z r.aA -1) (a7:=cI) (x:=r.a6) d (by simp) rfl F;rw[j]at p;apply aY p;rw[show Z r.aA -1+1=Z r.aA by omega];refine aI rfl (aI rfl (aI rfl ⟨trivial,?_⟩));simp[a1,e3,j]
 have K:¬(a.aF≠[]/\a.aF∉r.aA):=by
  rintro⟨i,x⟩;simp[i,x]at f
 rw[if_neg K];simp only[m,O,pg c,R,e];have S:∀n:Bool,du 1 (.ptr 0 0 0 2) (.bool n) (ig r)=aa (ig {r with ok:=n}):=by
  intro n;unfold ig;split<;>rfl
 rcases Y:r.ok with _|_;simp_all;simp only[jD,if_true,lM,O,c3];apply eV _ (Mg (r:=r) a (by grind[Sm]) j) (.ck (Mf t) (.ck eu (.nil _))) (.int _ _);simp only[c6,O,S];simp
def nf(c:D)(a:Int)(b:List aK):List (aK×Int):=if 0<=a then lY c a b else[]
def lZ(a:List Lit):List (aK×aK):=(a.map sw).flatten
def Wu(b:D)(a:List Lit):List (aK×Int):=(a.map (jU b)).flatten
def sx:w:=⟨[],[],ad⟩
def B3(b:D)(c:Int)(d:List aK)(a:List Lit):Bool:=(w.rounds (lZ a) (Z a+1) (w.ie sx (nf b c d++Wu b a))).ok
theorem w.Mh(a:w)(c:aK)(b:Int):Z (a.set c b).aA<=Z a.aA+1:=by
 grind[w.set]
theorem w.Ee:∀(b:List (aK×Int))(a:w),Z (a.ie b).aA<=Z a.aA+Z b
 |[],a=>by simp[w.ie]
 |x::b,a=>by
  have c:=w.Mh a x.1 x.2;have d:=w.Ee b (a.set x.1 x.2);grind[w.ie]
theorem w.akr(a:w)(b c:aK):Z (a.eql b c).aA<=Z a.aA+2:=by
 grind[w.Mh,of,w.eql]
theorem w.Mi:∀(b:List (aK×aK))(a:w),Z (a.round b).aA<=Z a.aA+2*Z b
 |[],a=>by simp[w.round]
 |x::b,a=>by
  have c:=w.akr a x.1 x.2;have d:=w.Mi b (a.eql x.1 x.2);grind[round]
theorem w.Wv(b:List (aK×aK)):∀(n:Nat)(a:w),Z (w.rounds b n a).aA<=Z a.aA+n*(2*Z b)
 |0,a=>by simp[w.rounds]
 |n+1,a=>by
  have c:=w.Mi b a;have d:=w.Wv b n (a.round b);grind[w.rounds]
theorem w.rounds_succ(a:List (aK×aK)):∀(n:Nat)(b:w),w.rounds a (n+1) b=(w.rounds a n b).round a
 |0,b=>rfl
 |n+1,b=>by
  have c:=w.rounds_succ a n (b.round a);grind[w.rounds]
theorem HJ:∀(a:List Lit),Z (lZ a)<=Z a
 |[]=>by simp[lZ]
 |l::a=>by
  have:=HJ a;grind[sw,lZ]
variable{b0:Type}{rE:K -> List b0}
theorem Mj(h:U<Z x):((x.take (U+1)).map rE).flatten=((x.take U).map rE).flatten++rE x[U]:=by
 grind[List.take_succ_eq_append_getElem]
def HK(b:D)(c:Int)(d:List aK):Prop:=0<=c->∃a:Nat,∃h:a<Z b.Q,c=a/\Z d<=Z b.Q[a].a6
variable{V:D}
theorem Ww(h:U<Z V.Q)(d:Z mF<=Z V.Q[U].a6):Z (lY V (U:Int) mF)=Z mF/\∀a(b:a<Z mF)(c:a<Z (lY V (U:Int) mF)),(lY V (U:Int) mF)[a]=(mF[a],V.Q[U].a6[a]'(by omega)):=by
 grind[lY]
variable{bC c8 iF:Bool}
theorem aks(f:D)(k:Int)(i:List aK)(c:List Lit)(el:Z i<=100)(lt:Z c<=100)(bi:∀l∈c,Z l.af<=100)(d5:HK f k i)(d6:∀l∈c,HK f l.ah l.af)(ds:∀l∈c,l.ax=5->Z l.af=2):
 PR C 254 [.agg (cP T F f),I k,eS bC cT i,eS c8 (bg iF) c] (.bool (B3 f k i c)):=by
 refine af6.pr ?_;simp only[eE,O];refine aI (dW:=[.aq,.aq,tt]) rfl (aY (dW:=.ptr 0 0 0 0) (oR:=ig sx) rfl ?_);have bb:sx.Ok:=⟨rfl,by simp[sx]⟩;refine bG (K:=Nat) (λp=>[I p]) (λp=>ig (sx.ie ((nf f k i).take p))) (λp=>Z i -p) (λp=>p<=Z i) 0 (by simp) ?_ rfl (by simp[w.ie]);intro p md lc m4;have es:=(w.Ai ((nf f k i).take p) bb).1;have em:=w.Ee ((nf f k i).take p) sx;rw[h0]at em
 have m3:Z sx.aA=0:=rfl;simp only[bz,aX,O,G,A,hz,a];have ci:sx.ie ((nf f k i).take p)=sx.ie (nf f k i)->jB (λP be f4=>
  bd (aT .s .lss (g P 0) (I (Z c))) λf7=>
  ez f7 (
  jB (λac E Lf=>
  jn (λmh=>
  bd (bP 9 (eS c8 (bg iF) c) (g P 0) E) λf8=>
  bd (dK 3 f8 E) λf9=>
  bd (aQ 1 ab f9 E) λgc=>
  bd (gu .sl gc E) λge=>
  bd (aT .s .lss (g ac 0) ge) λgo=>
  gd go ad (
  bd (bP 9 (eS c8 (bg iF) c) (g P 0) E) λgt=>
  bd (dK 2 gt E) λgU=>
  bd (aQ 1 ab gU E) λg0=>
  bd (aT .s .geq g0 (I 0)) λg1=>
  mh [g1] E) (
  mh [ff] E)) λc2 m=>
  ez (g c2 0) (
  bd (bP 9 (eS c8 (bg iF) c) (g P 0) m) λg2=>
  bd (dK 3 g2 m) λg3=>
  bd (aQ 1 ab g3 m) λg4=>
  bd (bP 4 g4 (g ac 0) m) λg5=>
  bd (aQ 4 ad g5 m) λg6=>
  bd (dK 2 (.aH ab (cP T F f) 0) m) λg7=>
  bd (aQ 1 ab g7 m) λg8=>
  bd (bP 9 (eS c8 (bg iF) c) (g P 0) m) λg9=>
  bd (dK 2 g9 m) λha=>
  bd (aQ 1 ab ha m) λhe=>
  bd (bP 7 g8 he m) λhg=>
  bd (dK 1 hg m) λhh=>
  bd (aQ 1 ab hh m) λhj=>
  bd (bP 1 hj (g ac 0) m) λhk=>
  bd (aQ 1 ab hk m) λhl=>
  ch C 294 [.ptr 0 0 0 0,g6,hl] m λm5 d0=>
  bd (aT .s .add (g ac 0) (I 1)) λhm=>
  Lf [hm] d0) (
  bd (aT .s .add (g P 0) (I 1)) λa4=>
  f4 [a4] m)) [(I 0)] be) (
  jB (λa9 X Mk=>
  bd (aT .s .leq (g a9 0) (I (Z c))) λhn=>
  ez hn (
  jB (λJ n cc=>
  bd (aT .s .lss (g J 0) (I (Z c))) λho=>
  ez ho (
  bd (bP 9 (eS c8 (bg iF) c) (g J 0) n) λhs=>
  bd (dK 0 hs n) λhu=>
  bd (aQ 1 ab hu n) λhw=>
  bd (aT .s .eql hw (I 5)) λhx=>
  ez hx (
  bd (bP 9 (eS c8 (bg iF) c) (g J 0) n) λhH=>
  bd (dK 3 hH n) λhO=>
  bd (aQ 1 ab hO n) λh1=>
  bd (bP 4 h1 (I 0) n) λh3=>
  bd (aQ 4 ad h3 n) λh4=>
  bd (bP 9 (eS c8 (bg iF) c) (g J 0) n) λid=>
  bd (dK 3 id n) λii=>
  bd (aQ 1 ab ii n) λio=>
  bd (bP 4 io (I 1) n) λip=>
  bd (aQ 4 ad ip n) λit=>
  cp C 295 [.ptr 0 0 0 0,it] n λiG=>
  ch C 294 [.ptr 0 0 0 0,h4,iG] n λm6 u=>
  bd (bP 9 (eS c8 (bg iF) c) (g J 0) u) λi0=>
  bd (dK 3 i0 u) λi1=>
  bd (aQ 1 ab i1 u) λi2=>
  bd (bP 4 i2 (I 1) u) λi3=>
  bd (aQ 4 ad i3 u) λi4=>
  bd (bP 9 (eS c8 (bg iF) c) (g J 0) u) λi5=>
  bd (dK 3 i5 u) λi6=>
  bd (aQ 1 ab i6 u) λi7=>
  bd (bP 4 i7 (I 0) u) λi8=>
  bd (aQ 4 ad i8 u) λi9=>
  cp C 295 [.ptr 0 0 0 0,i9] u λjp=>
  ch C 294 [.ptr 0 0 0 0,i4,jp] u λm7 d1=>
  bd (aT .s .add (g J 0) (I 1)) λa5=>
  cc [a5] d1) (
  bd (aT .s .add (g J 0) (I 1)) λa5=>
  cc [a5] n)) (
  bd (aT .s .add (g a9 0) (I 1)) λke=>
  Mk [ke] n)) [(I 0)] X) (
  bd (iL (.ptr 0 0 0 0) X) λkl=>
  bd (dK 2 kl X) λkw=>
  bd (aQ 1 ab kw X) λkx=>
  aM X .res (AV.pl kx) (.bool (B3 f k i c)))) [(I 0)] be)) [(I 0)] (ig (sx.ie ((nf f k i).take p))):=by
  intro d3;rw[d3];have lw:Z (nf f k i)<=Z i:=by
   unfold nf;split;unfold lY;split;rw[ar6];omega;simp;simp
  have d8:∀d,d<=Z c->Z ((c.take d).map (jU f)).flatten<=d*100:=by
   intro d;induction d with
   |zero=>simp
   |succ d f3=>
    intro ai;have bm:d<Z c:=ai;have:=f3 (by omega);rw[Mj bm,gC,re];have li:=bi _ (bn bm);have W:Z (jU f c[d])<=100:=by
     unfold jU;split;unfold lY;split;rw[ar6];omega;simp;simp
    omega
  generalize az:sx.ie (nf f k i)=z;have d2:z.Ok:=az▸(w.Ai (nf f k i) bb).1;have lm:Z z.aA<=100:=by
   have:=w.Ee (nf f k i) sx;rw[az]at this;omega
  refine bG (K:=Nat) (λd=>[I d]) (λd=>ig (z.ie ((c.take d).map (jU f)).flatten)) (λd=>Z c -d) (λd=>d<=Z c) 0 (by simp) ?_ rfl (by simp[w.ie]);intro d ai cl f1;simp only[O,G,A,a];have ek:=d8 d ai;have mp:d*100<=100*100:=mB _ (by omega);have eq:=w.Ee ((c.take d).map (jU f)).flatten z;have a2:=(w.Ai ((c.take d).map (jU f)).flatten d2).1;refine b (λh=>?_) (λh=>?_);have h:d<Z c:=by simpa using h
  have U:=f1 (d+1) h (by omega);rw[Mj h,w.ie,zd]at U;have e0:((c.take d).map (jU f)).flatten.foldl (λH l=>H.set l.1 l.2) z=z.ie ((c.take d).map (jU f)).flatten:=rfl;rw[e0]at U;generalize z.ie ((c.take d).map (jU f)).flatten=B at*;have dl:(jU f c[d]).foldl (λH l=>H.set l.1 l.2) B=B.ie (jU f c[d]):=rfl;rw[dl]at U;have ls:=bi _ (bn h);have d7:=d6 _ (bn h)
  refine bG (K:=Nat) (λq=>[I q]) (λq=>ig (B.ie ((jU f c[d]).take q))) (λq=>Z c[d].af -q) (λq=>q<=Z c[d].af) 0 (by simp) ?_ rfl (by simp[w.ie]);intro q mk co ak;simp only[bz,aE h (jC _ _),O,bh,aJ,zE,s6,e,aX,G,A,hz,a];have bv:=w.Ee ((jU f c[d]).take q) B;rw[h0]at bv;have bD:=(w.Ai ((jU f c[d]).take q) a2).1;by_cases x:0<=c[d].ah;obtain⟨L,Y,S,a0⟩:=d7 x;have R:jU f c[d]=lY f (L:Int) c[d].af:=by
   unfold jU;rw[if_pos x,S]
  obtain⟨cs,c1⟩:=Ww Y a0;rw[R]at U ak bv bD⊢;have M:y (0<=c[d].ah)=true:=by simpa using x
  rw[M];refine aV (λj=>?_) (λj=>?_);have j:q<Z c[d].af:=by simpa using j
  have aR:q<Z f.Q[L].a6:=by omega
  refine a8 ?_;simp only[aE j (kt _),O,lM,kv,S,aE Y (ji _ _),bh,aJ,wx,e,aE aR (jh _),lN];refine qO _ (HI c[d].af[q] _ bD (by omega)) ?_;rw[aZ,O];have ce:=ak (q+1) j (by omega);simp_all[lY,iy,w.ie,zd];have j:q=Z c[d].af:=by simp at j;omega
  grind[bw,aZ,O];have R:jU f c[d]=[]:=by unfold jU;rw[if_neg x]
  rw[R]at U;simp only[R,List.take_nil];have M:y (0<=c[d].ah)=false:=by simpa using x
  rw[M];have le:bd (aT .s .add (I d) (I 1)) λa4=>cl [a4] (ig (B.ie [])):=by
   rw[aZ,O];exact U
  grind[aV,bw];have:d=Z c:=by simp at h;omega
  subst this;rw[dY]at a2 eq ek⊢;have fd:B3 f k i c=(w.rounds (lZ c) (Z c+1) (z.ie (c.map (jU f)).flatten)).ok:=by
   rw[B3,w.ie,zd];have:(nf f k i).foldl (λH l=>H.set l.1 l.2) sx=z:=az;rw[this]<;>rfl
  rw[fd];generalize z.ie (c.map (jU f)).flatten=B at*;have l0:=HJ c;refine bG (K:=Nat) (λo=>[I o]) (λo=>ig (w.rounds (lZ c) o B)) (λo=>Z c+1 -o) (λo=>o<=Z c+1) 0 (by simp) ?_;intro o m1 co ak;have m0:=w.Wv (lZ c) o B;have m2:o*(2*Z (lZ c))<=101*200:=Nat.mul_le_mul (by omega) (by omega);have ex:=(w.HH (b:=lZ c) o a2).1;simp only[O,G,kL];refine b (λW=>?_) (λW=>?_);have W:o<=Z c:=by simp at W;omega
  have ce:=ak (o+1) (by omega) (by omega);rw[w.rounds_succ]at ce;generalize w.rounds (lZ c) o B=v at*;refine bG (K:=Nat) (λd=>[I d]) (λd=>ig (v.round (lZ (c.take d)))) (λd=>Z c -d) (λd=>d<=Z c) 0 (by simp) ?_ rfl (by simp[w.round,lZ]);intro d ai ld f2;have ms:=w.Mi (lZ (c.take d)) v;have d4:=HJ (c.take d);rw[h0]at d4;have aj:=(w.yH (lZ (c.take d)) ex).1;simp only[O,G,A,a]
  refine b (λj=>?_) (λj=>?_);have j:d<Z c:=by simpa using j
  have am:=f2 (d+1) j (by omega);have fn:lZ (c.take (d+1))=lZ (c.take d)++sw c[d]:=Mj j;rw[fn,w.round,zd]at am;have e0:(lZ (c.take d)).foldl (λH l=>H.eql l.1 l.2) v=v.round (lZ (c.take d)):=rfl;rw[e0]at am;generalize v.round (lZ (c.take d))=N at*;simp only[aE j (jC _ _),O,bh,aJ,ud,s6,e,c6];refine b (λK=>?_) (λK=>?_);have K:c[d].ax=5:=by simpa using K
  obtain⟨r,t,cb⟩:∃r t,c[d].af=[r,t]:=by
   have:=ds _ (bn j) K
   match el:c[d].af,this with
   |[r,t],_=>grind
  have br:sw c[d]=[(r,t)]:=by unfold sw;rw[if_pos K,cb]
  rw[br]at am;have fy:∀V:List Obj,bP 4 (eS iF cT [r,t]) (I 0) V=aa (.aH iF (cT r) 0):=λV=>aE (x:=[r,t]) (U:=0) (by simp) rfl;have f0:∀V:List Obj,bP 4 (eS iF cT [r,t]) (I 1) V=aa (.aH iF (cT t) 0):=λV=>aE (x:=[r,t]) (U:=1) (by simp) rfl;rw[cb];simp only[fy,f0,O,lM];refine eV _ (Mg (r:=N) t (by grind[Sm]) aj.len) (.ck (Mf aj) (.ck eu (.nil _))) (.int _ _) ?_;refine qO _ (HI r _ aj (by omega)) ?_
  have a3:=(w.ts aj r (N.of t)).1;have mt:=w.Mh N r (N.of t);refine eV _ (Mg (r:=N.set r (N.of t)) r (by grind[Sm]) a3.len) (.ck (Mf a3) (.ck eu (.nil _))) (.int _ _) ?_;refine qO _ (HI t _ a3 (by omega)) ?_;rw[aZ,O];exact am;have K:¬c[d].ax=5:=by simpa using K
  have br:sw c[d]=[]:=by unfold sw;rw[if_neg K]
  grind[aZ,O];have:d=Z c:=by simp at j;omega
  grind[aZ,O,List.take_length];have:o=Z c+1:=by simp at W;omega
  subst this;generalize w.rounds (lZ c) (Z c+1) B=v at*;have d9:∃v0 v1,(ig v)[0]?=aa (.arr 0 3 [[v0,v1,.bool v.ok]]):=by
   unfold ig;split;simp;simp
  obtain⟨v0,v1,aF⟩:=d9;have f6:iL (.ptr 0 0 0 0) (ig v)=aa (.ptr 0 0 0 0):=by simp[iL,dK,aF]
  have f5:aQ 1 ab (.ptr 0 0 0 2) (ig v)=aa (.bool v.ok):=by rw[c0 aF rfl]<;>rfl
  rw[f6,O,pg aF,O,f5,O];simp
 simp only[bz]at ci;by_cases x:0<=k;obtain⟨L,Y,S,a0⟩:=d5 x;have R:nf f k i=lY f (L:Int) i:=by unfold nf;rw[if_pos x,S]
 obtain⟨cs,c1⟩:=Ww Y a0;have M:y (0<=k)=true:=by simpa using x
 rw[M];refine aV (λj=>?_) (λj=>?_);have j:p<Z i:=by simpa using j
 have aR:p<Z f.Q[L].a6:=by omega
 refine a8 ?_;simp only[aE j (kt _),O,lM,bh,aJ,kv,e,S,aE Y (ji _ _),wx,aE aR (jh _),lN];rw[<-S];refine qO _ (HI i[p] _ es (by omega)) ?_;rw[aZ,O];grind[lY,List.take_succ_eq_append_getElem,w.ie];have j:p=Z i:=by simp at j;omega
 refine bw ?_;exact ci (by grind);have R:nf f k i=[]:=by unfold nf;rw[if_neg x]
 have M:y (0<=k)=false:=by simpa using x
 rw[M];simp_all
variable{kh:AV -> Prop}
theorem akt{args:List AV}(h:∃c b,C U args [] c b/\∃a,aM b .res c a/\kh a):∃a,PR C U args a/\kh a:=by
 grind[Ko]
variable{hM:List String}{fk:List In}{fp:Prop}
theorem od.ex{args:List AV}(h:od U args hM fk)(e:fp)(d:args.map AV.pl=args:=by rfl)(c:cK (λf b=>∃a,aM b .res f a/\kh a) 999 (dc 999 (sn hM) fk).1 args [] []=fp:=by conv=>(lhs;(conv=>arg 3;cbv);simp only[cK,hZ,Int.reduceOfNat])):∃a,PR C U args a/\kh a:=akt (h.hq e d c)
def ih(r:aD)(a b:Int):aD:=⟨r.au,a,r.af,⟨r.aj.ax,r.aj.au,r.aj.aF,b⟩,r.ai,r.bb⟩
def tw(a:D)(r:aD):aD:=ih r (ka a r) (oB a r)
theorem aku(r:aD)(a b:Int):dO 9 (.agg [.str r.au,I a,eS T cT r.af,I r.aj.ax,.str r.aj.au,.str r.aj.aF,I b,eS T (bg T) r.ai,I r.bb])=aa (aS T (ih r a b)):=iT rfl rfl
theorem tx(a:Int):nB (I a)=aa (I a):=rfl
def Wx(e:Bool)(a:D)(r:aD)(g:AV):Prop:=∃b c,g=.aB [.agg (aS e b),I c]/\(c=0<->gQ a r=ad)/\(gQ a r=ad->b=tw a r)/\∃d f,b=ih r d f
theorem akv(a:D)(r:aD)(L:eA a)(a2:Sm r.af)(aA:kA a):∃x,PR C 199 [.agg (cP T F a),.agg (aS bC r)] x/\Wx bC a r x:=by
 apply ae9.ex;simp only[eE,yd,O,tx,vh,vi,vj,vk,vl,vm,uj,gW,gy]
 have E:∀(k w p:Int),(p=0<->gQ a r=ad)->(gQ a r=ad->ih r k w=tw a r)->∀N:List Obj,bd (dO 9 (.agg [.str r.au,I k,eS bC cT r.af,I r.aj.ax,.str r.aj.au,.str r.aj.aF,I w,eS bC (bg bC) r.ai,I r.bb])) λn=>∃x,aM N .res (.aB [(AV.pl (.agg [(g n 0),(g n 1),(g n 2),(g n 3),(g n 4),(g n 5),(g n 6),(g n 7),(g n 8)])),(AV.pl (I p))]) x/\Wx bC a r x:=by
  intro k w p o u N;rw[aku,O];exact⟨.aB [.agg (aS bC (ih r k w)),I p],eu,_,_,rfl,o,u,k,w,rfl⟩
 refine b (λh=>?_) (λh=>?_);have h:r.au=[]:=by simpa using h
 exact E _ _ _ (by simp[gQ,h]) (λ_=>by simp[tw,ka,oB,h]) _;have P:r.au≠[]:=by simpa using h
 have f:gQ a r=(match a.Q[(eO a r.au).toNat]? with
  |ae=>ab
  |aa d=>y (0<=eO a r.au)&& !d.ek&&nQ d r.af&&((r.aj.ax==0)==y (d.of<0))&&
   (!(r.aj.ax==1)||y (0<=fx a d r.aj.au))&&
   (!(r.aj.ax==3)||(y (0<=iR a r.aj.au)&&(match a.aO[(iR a r.aj.au).toNat]? with|aa U=>U.of==d.of|ae=>ab)))):=by
  rw[gQ,h,l4]<;>rfl
 apply c (Ld a r.au L);have aR:b2 (λm:cO=>m.au==r.au) a.Q=eO a r.au:=rfl;rw[aR];simp only[tx,O,A];refine b (λo=>?_) (λo=>?_);have o:eO a r.au<0:=by simpa using o
 have q:gQ a r=false:=by
  rw[f];split;rfl;have:y (0<=eO a r.au)=false:=by simp;omega
  simp[this]
 exact E _ _ _ (by simp[q]) (λh=>by rw[q]at h;cases h) _;have o:0<=eO a r.au:=by simpa using o
 let⟨k,B,H⟩:∃k:Nat,eO a r.au=k/\k<Z a.Q:=by
  grind[sq]
 rw[B]at f o;simp only[eR,bq H]at f;rw[B];simp only[bh,O,aJ,rW,wz,kv,e,aE H (ji _ _),wu,yb,rZ,r1,r2,te,sa,sb,sd];generalize a0:a.Q[k]=d at*;have bm:d.of<Z a.aw:=aA d (by grind);have V:y ((0:Int)<=(k:Int))=true:=by simp
 rw[V,c3]at f;refine b (λu=>?_) (λu=>?_);have q:gQ a r=false:=by rw[f,u]<;>rfl
 simp_all;rw[u,ri,c3]at f;let⟨p,Y,ac⟩:=Wt (T:=T) (F:=bC) d r.af a2;have X:(AV.agg [.str d.au,eS T cI d.a6,.str d.aN,I d.of,.bool d.ek,I d.fy,I d.bb])=.agg (bO T d):=rfl;rw[X];apply c Y;simp only[cv,O];refine b (λs=>?_) (λs=>?_);have s:p≠0:=by simpa using s
 simp_all;have s:p=0:=by simpa using s
 rw[ac.1 s,c3]at f;simp only[c6,A,O,Bq];refine dw (λz=>?_) (λz=>?_);have q:gQ a r=false:=by rw[f,z]<;>rfl
 simp_all;rw[z,c3]at f;have am:(r.aj.ax=0)<->d.of<0:=by
  have:=z;rw[beq_iff_eq]at this;constructor;intro J;rw[J]at this;simpa using this.symm;intro J;have l:y (d.of<0)=true:=by simpa using J
  rw[l]at this;simpa using this
 have br:ka a r=k:=by rw[ka,if_neg P,B]
 have be:oB a r=if r.aj.ax=1 then fx a d r.aj.au else if r.aj.ax=3 then iR a r.aj.au else -1:=by
  rw[oB,if_neg P,B];simp only[eR,bq H,a0]
 rw[bz];refine b (λl=>?_) (λl=>?_);have l:r.aj.ax=1:=by simpa using l
 have bi:0<=d.of:=by
  rcases Fc d.of 0 with h|h;have:=am.2 h;omega;exact h
 let⟨t,R⟩:∃t:Nat,d.of=t:=⟨d.of.toNat,by omega⟩;have K:t<Z a.aw:=by omega
 have ah:fx a d r.aj.au=bV a.aw[t].az r.aj.au:=by
  rw[fx,R,eR,bq K]
 have a5:(r.aj.ax==3)=false:=by rw[l]<;>rfl
 have M:(r.aj.ax==1)=true:=by rw[l]<;>rfl
 rw[M,a5]at f;simp only[rf,l4,ri,AQ,y4]at f;simp only[R,bh,O,aJ,e,aE K (kK _ _),pa];apply c (um a.aw[t].az r.aj.au (L.aN _ (bn K)).1);have a3:b2 (λm=>m==r.aj.au) a.aw[t].az=fx a d r.aj.au:=ah.symm;rw[a3];simp only[tx,O,A];refine b (λj=>?_) (λj=>?_);have j:fx a d r.aj.au<0:=by simpa using j
 have q:gQ a r=false:=by rw[f];simp;omega
 exact E _ _ _ (by simp[q]) (by grind) _;have j:0<=fx a d r.aj.au:=by simpa using j
 have bv:gQ a r=true:=by rw[f];simpa using j
 simp_all[bz,G,i,c6,O,c5,e6,tw];have l:r.aj.ax≠1:=by simpa using l
 have M:(r.aj.ax==1)=false:=by simpa using l
 rw[M]at f;simp only[ri,AQ,c3]at f;simp only[bz,G,i,c6,O];refine b (λj=>?_) (λj=>?_);rw[j]at f;simp only[rf,l4]at f;have j:r.aj.ax=3:=by simpa using j
 apply c (US a r.aj.au L);have ak:b2 (λm:Fn=>m.au==r.aj.au) a.aO=iR a r.aj.au:=rfl;rw[ak];simp only[tx,O,A];refine b (λv=>?_) (λv=>?_);have v:iR a r.aj.au<0:=by simpa using v
 have q:gQ a r=false:=by
  have:y (0<=iR a r.aj.au)=false:=by simp;omega
  rw[f,this]<;>rfl
 simp_all;have v:0<=iR a r.aj.au:=by simpa using v
 let⟨m,a4,S⟩:∃m:Nat,iR a r.aj.au=m/\m<Z a.aO:=by
  grind[sq]
 rw[a4]at f⊢;simp only[eR,bq S]at f;have W:y ((0:Int)<=(m:Int))=true:=by simp
 rw[W,c3]at f;simp only[bh,O,aJ,e,aE S (s5 _ _),QN,cv];simp_all[gQ,tw];rw[j]at f;simp only[ri,AQ]at f;have j:r.aj.ax≠3:=by simpa using j
 simp_all[tw]
def kc(a:Lit)(b c:Int):Lit:=⟨a.ax,a.au,b,a.af,a.bind,a.aj,c,a.op,a.bb⟩
theorem akw(a:Lit)(b c:Int):dO 9 (.agg [I a.ax,.str a.au,I b,eS T cT a.af,.str a.bind,.str a.aj,I c,I a.op,I a.bb])=aa (bg T (kc a b c)):=iT rfl rfl
theorem HL(b:D)(a:Lit):iu b a=kc a (nR b a) (Ak b a):=rfl
def yK(f:Bool)(c:D)(a:Lit)(h:AV):Prop:=∃b d,h=.aB [.agg (bg f b),I d]/\(d=0<->hS c a=ad)/\(hS c a=ad->b=iu c a)/\∃e g,b=kc a e g
theorem akx(d:D)(a:Lit)(ai:eA d)(br:Sm a.af)(bi:kA d)(L:a.ax=5->Z a.af=2):∃l,PR C 200 [.agg (cP T F d),.agg (bg bC a)] l/\yK bC d a l:=by
 apply afx.ex;simp only[eE,yc,O,tx,wG,wH,wI,wJ,wK,wL,wM,c6,gy];have X:∀(k n q:Int),(q=0<->hS d a=ad)->(hS d a=ad->kc a k n=iu d a)->∀o:List Obj,bd (dO 9 (.agg [I a.ax,.str a.au,I k,eS bC cT a.af,.str a.bind,.str a.aj,I n,I a.op,I a.bb])) λj=>∃l,aM o .res (.aB [(AV.pl (.agg [(g j 0),(g j 1),(g j 2),(g j 3),(g j 4),(g j 5),(g j 6),(g j 7),(g j 8)])),(AV.pl (I q))]) l/\yK bC d a l:=by
  intro k n q p K o;rw[akw,O];exact⟨.aB [.agg (bg bC (kc a k n)),I q],eu,_,_,rfl,p,K,k,n,rfl⟩
 have bad:∀(k n q:Int),q≠0->hS d a=ab->∀o:List Obj,bd (dO 9 (.agg [I a.ax,.str a.au,I k,eS bC cT a.af,.str a.bind,.str a.aj,I n,I a.op,I a.bb])) λj=>∃l,aM o .res (.aB [(AV.pl (.agg [(g j 0),(g j 1),(g j 2),(g j 3),(g j 4),(g j 5),(g j 6),(g j 7),(g j 8)])),(AV.pl (I q))]) l/\yK bC d a l:=by
  intro k n q M N o;exact X k n q (by simp[N,M]) (λh=>by rw[N]at h;cases h) o
 have J:∀(k n:Int),hS d a=ad->kc a k n=iu d a->∀o:List Obj,bd (dO 9 (.agg [I a.ax,.str a.au,I k,eS bC cT a.af,.str a.bind,.str a.aj,I n,I a.op,I a.bb])) λj=>∃l,aM o .res (.aB [(AV.pl (.agg [(g j 0),(g j 1),(g j 2),(g j 3),(g j 4),(g j 5),(g j 6),(g j 7),(g j 8)])),(AV.pl (I 0))]) l/\yK bC d a l:=by
  intro k n N M o;exact X k n 0 (by simp[N]) (λ_=>M) o
 refine b (λh=>?_) (λh=>?_);have E:a.ax=5:=by simpa using h
 let⟨t,u,a0⟩:∃t u,a.af=[t,u]:=by
  have:=L E
  match d2:a.af,this with
  |[t,u],_=>grind
 have ah:hS d a= !(t.aF==[]&&u.aF==[]&&t.const.ty !=u.const.ty):=by
  rw[hS,if_pos E,a0]
 have V:kc a (-1) (-1)=iu d a:=by
  rw[HL,nR,if_pos E,Ak,if_neg (by omega)]
 have bD:∀o:List Obj,bP 4 (eS bC cT [t,u]) (I 0) o=aa (.aH bC (cT t) 0):=λo=>aE (x:=[t,u]) (U:=0) (by simp) rfl;have cb:∀o:List Obj,bP 4 (eS bC cT [t,u]) (I 1) o=aa (.aH bC (cT u) 0):=λo=>aE (x:=[t,u]) (U:=1) (by simp) rfl;rw[a0]at X bad J⊢;simp only[bD,cb,O,bh,aJ,rV,Ds,e,fY,gW,cv,bz,G,i];refine aV (λp=>aV (λK=>?_) (λK=>?_)) (λp=>?_);rw[p,K]at ah;refine b (λx=>?_) (λx=>?_)
 exact bad _ _ _ (by omega) (by grind) _;exact J _ _ (by grind) V _;rw[p,K]at ah;simp only[c5,e6,if_false];exact J _ _ (by grind) V _;rw[p]at ah;simp only[c5,e6,if_false];exact J _ _ (by grind) V _;have E:a.ax≠5:=by simpa using h
 have r:hS d a=(match d.Q[(eO d a.au).toNat]? with
  |ae=>ab
  |aa f=>y (0<=eO d a.au)&&nQ f a.af&& !(y (f.of<0)&&(!(a.bind==[])||(a.ax==3||a.ax==4)))&&
   (!(a.ax==3||a.ax==4)||(y (0<=fx d f a.aj)&&(match d.aw[f.of.toNat]? with|aa R=>fx d f a.aj !=eD R []|ae=>ab)))):=by
  rw[hS,if_neg E]<;>rfl
 apply c (Ld d a.au ai);have bm:b2 (λR:cO=>R.au==a.au) d.Q=eO d a.au:=rfl;rw[bm];simp only[tx,O,A];refine b (λp=>?_) (λp=>?_);have p:eO d a.au<0:=by simpa using p
 refine bad _ _ _ (by omega) ?_ _;grind;have p:0<=eO d a.au:=by simpa using p
 let⟨k,U,ac⟩:∃k:Nat,eO d a.au=k/\k<Z d.Q:=by
  grind[sq]
 have V:∀n,n=(if a.ax=3\/a.ax=4 then fx d d.Q[k] a.aj else -1)->kc a (k:Int) n=iu d a:=by
  rintro n rfl;rw[HL,nR,if_neg E,U,Ak,U];simp only[eR,bq ac]
 rw[U]at r p;simp only[eR,bq ac]at r;rw[U];simp only[bh,O,aJ,rW,kv,e,aE ac (ji _ _),wu,yb,rZ,r1,r2,te,sa,sb,sd];generalize d5:d.Q[k]=f at*;have d4:f.of<Z d.aw:=bi f (by grind);have a2:y ((0:Int)<=(k:Int))=true:=by simp
 rw[a2,c3]at r;let⟨q,M,a5⟩:=Wt (T:=T) (F:=bC) f a.af br;have a4:(AV.agg [.str f.au,eS T cI f.a6,.str f.aN,I f.of,.bool f.ek,I f.fy,I f.bb])=.agg (bO T f):=rfl;rw[a4];apply c M;simp only[cv,O];refine b (λx=>?_) (λx=>?_);have x:q≠0:=by simpa using x
 refine bad _ _ _ x ?_ _;grind;have x:q=0:=by simpa using x
 rw[a5.1 x,c3]at r;refine yF (M:=[]) (a.ax==3||a.ax==4) [I a.ax,.str a.au,I k,eS bC cT a.af,.str a.bind,.str a.aj,I (-1),I a.op,I a.bb,I 0,.str [],I 0,.aq,.str [],.str [],I 0,I 0,I 0,.str f.au,eS T cI f.a6,.str f.aN,I f.of,.bool f.ek,I f.fy,I f.bb] (λd6 d1=>?_) ?_;refine dH (λz=>?_) (λz=>?_);grind;grind;simp only[G,i,A,O,jE];generalize ak:(a.ax==3||a.ax==4)=W at*
 have go:(y (f.of<0)&&(!(a.bind==[])||W))=ab->ez (.bool W) (bd (bP 4 (eS T (bp T) d.aw) (I f.of) []) λce=>bd (dK 1 ce []) λci=>bd (aQ 1 ab ci []) λcl=>cp C 113 [cl,.str a.aj] [] λco=>bd (nB co) λS=>bd (aT .s .lss S (I 0)) λcs=>ez cs (
  bd (dO 9 (.agg [I a.ax,.str a.au,I k,eS bC cT a.af,.str a.bind,.str a.aj,S,I a.op,I a.bb])) λv=>
  ∃l,aM [] .res (.aB [(AV.pl (.agg [(g v 0),(g v 1),(g v 2),(g v 3),(g v 4),(g v 5),(g v 6),(g v 7),(g v 8)])),(AV.pl (I 70))]) l/\yK bC d a l) (
  bd (bP 4 (eS T (bp T) d.aw) (I f.of) []) λc1=>
  bd (aQ 4 ad c1 []) λc2=>
  cp C 88 [c2] [] λdl=>
  bd (aT .s .eql S dl) λds=>
  ez ds (
  bd (dO 9 (.agg [I a.ax,.str a.au,I k,eS bC cT a.af,.str a.bind,.str a.aj,S,I a.op,I a.bb])) λw=>
  ∃l,aM [] .res (.aB [(AV.pl (.agg [(g w 0),(g w 1),(g w 2),(g w 3),(g w 4),(g w 5),(g w 6),(g w 7),(g w 8)])),(AV.pl (I 72))]) l/\yK bC d a l) (
  bd (dO 9 (.agg [I a.ax,.str a.au,I k,eS bC cT a.af,.str a.bind,.str a.aj,S,I a.op,I a.bb])) λm=>
  ∃l,aM [] .res (.aB [(AV.pl (.agg [(g m 0),(g m 1),(g m 2),(g m 3),(g m 4),(g m 5),(g m 6),(g m 7),(g m 8)])),(AV.pl (I 0))]) l/\yK bC d a l)))
  (bd (dO 9 (.agg [I a.ax,.str a.au,I k,eS bC cT a.af,.str a.bind,.str a.aj,I (-1),I a.op,I a.bb])) λm=>
   ∃l,aM [] .res (.aB [(AV.pl (.agg [(g m 0),(g m 1),(g m 2),(g m 3),(g m 4),(g m 5),(g m 6),(g m 7),(g m 8)])),(AV.pl (I 0))]) l/\yK bC d a l):=by
  intro aA;rw[aA,ri,c3]at r;refine b (λY=>?_) (λY=>?_);subst Y;have d3:0<=f.of:=by simp at aA;omega
  let⟨H,aR⟩:∃H:Nat,f.of=H:=by grind
  have P:H<Z d.aw:=by omega
  have a9:fx d f a.aj=bV d.aw[H].az a.aj:=by
   rw[fx,aR,eR,bq P]
  have be:a.ax=3\/a.ax=4:=by simpa using ak
  rw[aR]at r⊢;simp only[eR,bq P,rf,l4]at r;simp only[aE P (kK _ _),O,bh,aJ,pa,e,jj];apply c (um d.aw[H].az a.aj (ai.aN _ (bn P)).1);have bv:b2 (λR=>R==a.aj) d.aw[H].az=fx d f a.aj:=a9.symm;rw[bv];simp only[tx,O,A];refine b (λB=>?_) (λB=>?_);have B:fx d f a.aj<0:=by simpa using B
  have N:y (0<=fx d f a.aj)=false:=by simp;omega
  exact bad _ _ _ (by omega) (by grind) _;have B:y (0<=fx d f a.aj)=true:=by simpa using B
  rw[B,c3]at r;apply c (BO _ (ai.aN _ (bn P)));simp only[c6,O];refine b (λa3=>?_) (λa3=>?_);exact bad _ _ _ (by omega) (by grind) _;exact J _ _ (by grind) (by grind) _;subst Y;have be:¬(a.ax=3\/a.ax=4):=by
   intro h;rcases h with h|h<;>simp[h]at ak
  simp_all
 rw[bz];refine aV (λz=>ib (λL=>?_) (λL=>?_)) (λz=>?_);rw[z,L]at go r;simp only[rf,l4,c3]at go r;rcases am:W with _|_;have:=go am;rw[am]at this;simp only[c5,e6,if_false]at this⊢;exact this;simp only[c5,if_true];exact bad _ _ _ (by omega) (by grind) _;rw[z,L]at r;simp only[c5];exact bad _ _ _ (by omega) (by grind) _;have:=go (by rw[z]<;>rfl);simp only[c5,e6,if_false,bz,G,i]at this⊢;exact this
theorem akz(f:bQ)(d:Fn)(u:lP f)(w:zM d)(be:Z d.src=Z d.dst):
 ∃r,PR C 196 [.agg (bp T f),.agg (cm F d)] r/\∃k,r=.aB [eS ab cI (if fG f d=ad then fM f d else[]),I k]/\(k=0<->fG f d=ad):=by
 refine ago.ex ?_;simp only[mQ,F7,O,e4,fh,bh,aJ,pa,Dt,Du,e,aX,jj,dR,e2];have bad:∀(k:Int)(v:List Obj),k≠0->fG f d=ab->Z v<1000000->∃r,aM (v++[.arr 0 1 []]) .res (.aB [(AV.q (Z v) 0 0 0).pl,(I k).pl]) r/\∃k,r=.aB [eS ab cI (if fG f d=ad then fM f d else[]),I k]/\(k=0<->fG f d=ad):=by
  intro k v a6 Y _;refine⟨.aB [eS ab cI [],I k],.aB _ _ _ (.ck ?_ (.ck (.int _ _ _) (.nil _))),k,by rw[Y]<;>rfl,by grind⟩;exact ic (x:=([]:List Int)) (U:=1) (by simp) (by simp)
 refine eB (U:=Z d.src) (c:=λg=>[.q 0 0 0 0,I 0,I g]) (λg=>((ay g).all λg=>y (0<=bV f.az (d.src.getD g []))&&y (0<=bV f.az (d.dst.getD g [])))=ad) (by simp) rfl (λg o L x ah=>?_) (λL x=>?_);have J:g<Z d.dst:=by omega
 have X:(y (0<=bV f.az (d.src.getD g []))&&y (0<=bV f.az (d.dst.getD g [])))=(y (0<=bV f.az d.src[g])&&y (0<=bV f.az d.dst[g])):=by
  simp only[oK,bq o,bq J,nr]
 simp only[i,G,A,O,a,o,decide_true,aE o (iS _),aJ,lO,bz];refine a8 (c (um f.az d.src[g] u.1) ?_);have t:b2 (λj=>j==d.src[g]) f.az=bV f.az d.src[g]:=rfl;have z:b2 (λj=>j==d.dst[g]) f.az=bV f.az d.dst[g]:=rfl;rw[t];simp only[A,O]
 have a5:fG f d=ab->ez tt (∃r,aM [Obj.arr 0 1 [],Obj.arr 0 1 []] .res (.aB [(AV.q 1 0 0 0).pl,(I 70).pl]) r/\∃k,r=.aB [eS ab cI (if fG f d=ad then fM f d else[]),I k]/\(k=0<->fG f d=ad)) (bd (aT .s .add (I g) (I 1)) λa0=>x [.q 0 0 0 0,I 0,a0] [Obj.arr 0 1 []]):=by
  intro h;simp only[c5,if_true];exact bad 70 [.arr 0 1 []] (by omega) h (by simp)
 have P:∀j:Int,y (j<0)= !y (0<=j):=by grind
 rw[P];have bm:((y (0<=bV f.az (d.src.getD g []))&&y (0<=bV f.az (d.dst.getD g [])))=ab)->fG f d=false:=by
  intro h;unfold fG;rw[zX o h];simp
 refine ib (λV=>?_) (λV=>?_);simp only[aE J (iS _),O,aJ,lO];refine c (um f.az d.dst[g] u.1) ?_;rw[z];simp only[A,O,P];refine dw (λl=>?_) (λl=>?_);simp_all;rw[w.1.inc o,O];grind[DZ];simp only[c5,if_true];simp_all;simp only[i,G,A,O,a,cn,decide_false];refine bw ?_;have aF:fG f d=(((ay (Z d.src)).all λg=>bV d.src (d.src.getD g [])==(g:Int))&&(f.az.all λj=>y (0<=bV d.src j))&&ot f (fM f d)):=by
  unfold fG;rw[L,c3]
 refine eB (U:=Z d.src) (c:=λg=>[.q 0 0 0 0,I 0,I g]) (λg=>((ay g).all λg=>bV d.src (d.src.getD g [])==(g:Int))=ad) (by simp) rfl (λg o M R ah=>?_) (λM R=>?_);have X:(bV d.src (d.src.getD g [])==(g:Int))=(bV d.src d.src[g]==(g:Int)):=by
  simp only[oK,bq o,nr]
 simp only[i,G,A,O,a,o,decide_true,aE o (iS _),aJ,lO];refine a8 (c (um d.src d.src[g] w.1) ?_);have t:b2 (λj=>j==d.src[g]) d.src=bV d.src d.src[g]:=rfl;rw[t];simp only[cv,O,bne];refine dw (λl=>?_) (λl=>?_);simp only[jY,hG,dR];refine bad 5 [.arr 0 1 []] (by omega) ?_ (by simp);grind;rw[w.1.inc o,O];grind;simp only[i,G,A,O,a,cn,decide_false];refine bw ?_
 have Q:fG f d=((f.az.all λj=>y (0<=bV d.src j))&&ot f (fM f d)):=by
  rw[aF,M,c3]
 simp only[jY,hG,dR];refine bG (λm=>[.q 0 0 0 0,I 0,.q 1 m.2 0 m.1,I m.1]) (λm=>a1 [.arr 0 1 [],.arr 0 1 []] 1 1 cI m.2 ((f.az.take m.1).map λj=>bV f.az (d.dst.getD (bV d.src j).toNat []))) (λm=>Z f.az -m.1) (λm=>m.1<=Z f.az/\(f.az.take m.1).all (λj=>y (0<=bV d.src j))=ad) (0,0) ⟨by simp,by simp⟩ ?_ rfl (by simp[a1]);rintro⟨g,n⟩ ⟨o,E⟩ S ax;have am:=u.1;unfold Sm at am;simp only[i,G,A,O,a]
 have aj:1<Z ([.arr 0 1 [],.arr 0 1 []]:List Obj):=by simp
 refine b (λh=>?_) (λh=>?_);have h:g<Z f.az:=by simpa using h
 simp only[aE h (iS _),O,aJ,lO];refine c (um d.src f.az[g] w.1) ?_;have t:b2 (λj=>j==f.az[g]) d.src=bV d.src f.az[g]:=rfl;rw[t];simp only[A,O];refine b (λl=>?_) (λl=>?_);have l:bV d.src f.az[g]<0:=by simpa using l
 have af:fG f d=false:=by
  have ac:y (0<=bV d.src f.az[g])=false:=by simp;omega
  rw[Q,yr h ac]<;>rfl
 have B:a1 [.arr 0 1 [],.arr 0 1 []] 1 1 cI n ((f.az.take g).map λj=>bV f.az (d.dst.getD (bV d.src j).toNat []))=[.arr 0 1 [],.arr n 1 (((f.az.take g).map λj=>bV f.az (d.dst.getD (bV d.src j).toNat [])).map cI)]:=rfl;simp only[B,kI,e2,hG,dR];exact bad 71 [.arr 0 1 [],.arr n 1 (((f.az.take g).map λj=>bV f.az (d.dst.getD (bV d.src j).toNat [])).map cI)] (by omega) af (by simp)
 have l:0<=bV d.src f.az[g]:=by simpa using l
 obtain⟨p,D,a9⟩:∃p:Nat,bV d.src f.az[g]=p/\p<Z d.src:=by
  rcases sq (λj=>j==f.az[g]) d.src with⟨p,D,z,-⟩|⟨z,-⟩;grind;omega
 have K:p<Z d.dst:=by omega
 rw[D];simp only[aE K (iS _),O,aJ,lO];refine c (um f.az d.dst[p] u.1) ?_;have U:b2 (λj=>j==d.dst[p]) f.az=bV f.az d.dst[p]:=rfl;rw[U,GV,O];have bb:Z ((f.az.take g).map λj=>bV f.az (d.dst.getD (bV d.src j).toNat []))=g:=by simp;omega
 have ap:=UD (U:=n) (ct:=(f.az.take g).map λj=>bV f.az (d.dst.getD (bV d.src j).toNat [])) (f:=bV f.az d.dst[p]) (iC:=λa2 W=>bd (aT .s .add (I g) (I 1)) λa3=>S [.q 0 0 0 0,I 0,a2,a3] W) aj (by omega) ?_;grind;rw[aZ,O];have ak:((f.az.take g).map λj=>bV f.az (d.dst.getD (bV d.src j).toNat []))++[bV f.az d.dst[p]]=(f.az.take (g+1)).map λj=>bV f.az (d.dst.getD (bV d.src j).toNat []):=by
  rw[iy h,hJ];simp only[ej,ns,D,eR,oK,bq K,nr]
 rw[ak];have ai:Z ((f.az.take (g+1)).map λj=>bV f.az (d.dst.getD (bV d.src j).toNat []))=g+1:=by simp;omega
 rw[ai];refine ax (g+1,n+1) ⟨h,?_⟩ (by simp;omega);grind[oi];have:g=Z f.az:=by simp at h;omega
 subst this;rw[dY]at E⊢;have aR:fG f d=ot f (fM f d):=by rw[Q,E,c3]
 have au:(f.az.map λj=>bV f.az (d.dst.getD (bV d.src j).toNat []))=fM f d:=rfl;have N:Z (fM f d)=Z f.az:=by simp[fM]
 rw[au];have H:(a1 [.arr 0 1 [],.arr 0 1 []] 1 1 cI n (fM f d))[1]?=aa (.arr n 1 ((fM f d).map cI)):=rfl;refine eV _ (ai7 (F:=true) f (fM f d) u (by grind[Sm])) (.ck eu (.ck ?_ (.nil _))) (.bool _) ?_;rw[<-N];exact om H (by simp);simp only[bI,O];refine dw (λl=>?_) (λl=>?_);have B:a1 [.arr 0 1 [],.arr 0 1 []] 1 1 cI n (fM f d)=[.arr 0 1 [],.arr n 1 ((fM f d).map cI)]:=rfl;simp only[B,kI,e2,hG,dR]
 exact bad 31 [.arr 0 1 [],.arr n 1 ((fM f d).map cI)] (by omega) (by rw[aR,l]) (by simp);refine⟨.aB [eS ab cI (fM f d),I 0],.aB _ _ _ (.ck ?_ (.ck (.int _ _ _) (.nil _))),0,by grind,by grind⟩;rw[<-N];exact ic H (by simp)
structure Ef(p:D)(r:aD):Prop where
 af:Z r.af<=100
 ai:Z r.ai<=100
 lits:∀x∈r.ai,Z x.af<=100
 fit:HK p r.ah r.af
 fits:∀x∈r.ai,HK p x.ah x.af
 cmp:∀x∈r.ai,x.ax=5->Z x.af=2
 Wy:∀q∈p.Q,∀k∈q.a6,k≠0
 yB:∀x∈r.ai,∀t∈x.af,t.aF=[]->t.const.ty≠0
 bind:∀x∈r.ai,x.bind≠[]->∃a:Nat,x.ah=a/\a<Z p.Q
 aF:r.aj.aF≠[]->∃a:Nat,r.ah=a/\a<Z p.Q
theorem Wz(h:∀d∈V.Q,∀c∈d.a6,c≠0):∀b∈lY V f mF,b.2≠0:=by
 intro b a;unfold lY at a;split at a;rename_i d e;have g:=qp e;let⟨i,c⟩:=b;have:=(List.of_mem_zip a).2;grind;cases a
theorem WA{r:aD}(h:Ef V r)(b:Nat):B3 V r.ah r.af (r.ai.take b)=ad<->lX (w8 (xa V r b) (xb r b)):=by
 have:=akq (b:=nf V r.ah r.af++Wu V (r.ai.take b)) (d:=lZ (r.ai.take b)) (U:=Z (r.ai.take b)+1) (by grind[HJ]) (λe a=>?_) (λe a=>?_);exact this;rcases dt.1 a with a|a;unfold nf at a;split at a;exact Wz h.Wy e a;cases a
 let⟨k,c,a⟩:=uQ.1 a;obtain⟨d,f,rfl⟩:=cy.1 c;unfold jU at a;split at a;exact Wz h.Wy e a;cases a
 let⟨k,c,a⟩:=uQ.1 a;obtain⟨d,f,rfl⟩:=cy.1 c;have g:=sL f;unfold sw at a;split at a;split at a;rename_i i j l o;simp only[l6]at a;subst a;exact⟨h.yB d g i (by grind),h.yB d g j (by grind)⟩;cases a
 cases a
theorem WB{r:aD}(h:yJ V r):lX (w8 (xa V r U) (xb r U)):=by
 refine lX.mono (λd a=>?_) h;rcases dt.1 a with a|a;obtain⟨b,c,rfl⟩:=cy.1 a;refine dt.2 (.inl (cy.2 ⟨b,?_,rfl⟩));grind[xa];obtain⟨b,c,rfl⟩:=cy.1 a;refine dt.2 (.inr (cy.2 ⟨b,?_,rfl⟩));grind[xb]
theorem WC{r:aD}(h:U<Z r.ai):na V r (r.ai.drop U) T=if r.ai[U].bind=[]then na V r (r.ai.drop (U+1)) T else
 if(T|| !y (r.ai[U].bind=r.aj.aF)||y (r.ai[U].bind∈fF r)||hT V r.ai[U].ah !=hT V r.ah)=ad then ae else na V r (r.ai.drop (U+1)) true:=by
 rw[oI h,na]
def WD(c:D)(r:aD)(d:AV):Prop:=∃a b,d=.aB [I a,I b]/\(a=0<->vG c r)
theorem akA(f:D)(r:aD)(a2:pZ r)(h:Ef f r):∃w,PR C 201 [.agg (cP T F f),.agg (aS bC r)] w/\WD f r w:=by
 have ce:Z (r.ai.map Lit.af++[r.af]).flatten<=20000:=by
  have E:=DW Lit.af 100 r.ai h.lits;have g:=mB 100 h.ai;have j:=h.af;simp only[xC,gC,xB,List.flatten_nil,sQ];omega
 have cs:=UR r;have cb:=h.ai;refine afy.ex ?_;simp only[eE,o9,O,gy,nF,bh,aJ,Bo,wy,qN,Bp,kv,e,aX];refine c (UI r a2 (by unfold Sm;omega)) ?_;simp only[aX,eU,O];have bad:∀(q p:Int),q≠0->¬vG f r->∃w,aM [] .res (.aB [(I q).pl,(I p).pl]) w/\WD f r w:=λq p l cl=>⟨.aB [I q,I p],eu,q,p,rfl,by grind⟩;refine b (λE=>?_) (λE=>?_);refine bad 2 _ (by omega) ?_;rintro⟨g,-⟩;grind
 have ak:Z (fF r)<=12:=by simp only[decide_eq_false_iff_not]at E;omega
 refine eB (U:=Z r.ai+1) (c:=λd=>[I 0,I 0,I d]) (λd=>∀L,L<d->B3 f r.ah r.af (r.ai.take L)=ad) (by simp) rfl (λd U V X ci=>?_) (λV X=>?_);have K:y ((d:Int)<=(Z r.ai:Int))=true:=by simp;omega
 simp only[i,G,kL,O,K];refine a8 ?_;have aA:d<=Z r.ai:=by omega
 rw[Hj (jC _) aA,O];have a4:(Z (r.ai.take d):Nat)<=100:=by rw[h0];omega
 refine c (aks f r.ah r.af (r.ai.take d) h.af a4 (λn u=>h.lits n (sL u)) h.fit (λn u=>h.fits n (sL u)) (λn u=>h.cmp n (sL u))) ?_;simp only[bI,O];refine dw (λg=>?_) (λg=>?_);have co:¬vG f r:=by
  rintro⟨-,j,-⟩;have:=(WA h d).2 (WB j);rw[this]at g;cases g
 simp only[c6,O];refine b (λj=>?_) (λj=>?_);simp_all;have j:d≠0:=by simpa using j
 obtain⟨v,rfl⟩:∃v,d=v+1:=⟨d -1,by omega⟩;have aR:v<Z r.ai:=by omega
 have a3:aT .s .sub (I ((v+1:Nat):Int)) (I 1)=aa (I (v:Int)):=by
  rw[nG (by omega) (by omega)];simp
 rw[a3,O];simp only[aE aR (jC _ _),O,bh,aJ,Gh,e];simp_all;rw[aZ,O];grind;have a5:yJ f r:=(WA h (Z r.ai)).1 (V (Z r.ai) (by omega));have K:y (((Z r.ai+1:Nat):Int)<=(Z r.ai:Int))=false:=by simp;omega
 simp only[i,G,kL,O,K];refine bw ?_;have c1:vG f r<->tv f r=true:=⟨λh=>h.2.2,λh=>⟨ak,a5,h⟩⟩;refine bG (K:=Nat×Bool×AV×AV) (λk=>[k.2.2.1,k.2.2.2,.bool k.2.1,I k.1]) (λ_=>[]) (λk=>Z r.ai -k.1) (λk=>k.1<=Z r.ai/\na f r r.ai ab=na f r (r.ai.drop k.1) k.2.1) (0,ab,I 0,I 0) ⟨by simp,by simp⟩ ?_;rintro⟨d,B,a9,be⟩ ⟨U,l⟩ bD W;simp only at U l W⊢;simp only[i,G,A,O,a];refine b (λg=>?_) (λg=>?_)
 have g:d<Z r.ai:=by simpa using g
 rw[WC g]at l;have bi:=λac az=>W (d+1,ac,a9,be) ⟨g,az⟩ (by simp;omega);have a6:r.ai[d]∈r.ai:=bn g;rw[bz];simp only[aE g (jC _ _),O,o8,yc,wG,wH,yp,wI,wJ,wK,yq,wL,wM,gW];refine b (λj=>?_) (λj=>?_);rw[if_pos (by grind)]at l;rw[aZ,O];exact bi B l;have P:r.ai[d].bind≠[]:=by simpa using j
 rw[if_neg P]at l;refine yF (M:=[]) (B|| !y (r.ai[d].bind=r.aj.aF)||y (r.ai[d].bind∈fF r)||hT f r.ai[d].ah !=hT f r.ah) [I r.ai[d].ax,.str r.ai[d].au,I r.ai[d].ah,eS bC cT r.ai[d].af,.str r.ai[d].bind,.str r.ai[d].aj,I r.ai[d].iG,I r.ai[d].op,I r.ai[d].bb] (λc2 m=>?_) ?_;refine dH (λo=>?_) (λo=>Ea m (by rw[o]<;>rfl));rw[o,l4]at m;have z:(aS bC r)[3+2]?=aa (.str r.aj.aF):=rfl;simp only[z,O,jE]
 have am:(!(r.ai[d].bind==r.aj.aF))= !y (r.ai[d].bind=r.aj.aF):=by rw[iA];simp
 rw[am];refine dH (λt=>?_) (λt=>Ea m (by rw[t]<;>rfl));rw[t,l4]at m;have t:r.ai[d].bind=r.aj.aF:=by simpa using t
 refine c (um (fF r) r.ai[d].bind (by unfold Sm;omega)) ?_;have J:y (0<=b2 (λn=>n==r.ai[d].bind) (fF r))=y (r.ai[d].bind∈fF r):=by
  have:=GU (p:=fF r) (bL:=r.ai[d].bind);rw[iA]at this⊢;simp only[decide_eq_true_eq,hv,decide_eq_false_iff_not]at this⊢;constructor;intro S;exact xG λx=>by have:=this.2 x;omega
  intro S;rcases Fc (b2 (λn=>n==r.ai[d].bind) (fF r)) 0 with a0|J;exact absurd S (this.1 a0);exact J
 simp only[hz,O,J];refine dH (λH=>?_) (λH=>Ea m (by rw[H]<;>rfl));rw[H,l4]at m;obtain⟨p,M,N⟩:=h.bind _ a6 P;obtain⟨Y,x,R⟩:=h.aF (by grind);have bm:hT f r.ai[d].ah=f.Q[p].of:=by rw[hT,M,eR,bq N]
 have br:hT f r.ah=f.Q[Y].of:=by rw[hT,x,eR,bq R]
 rw[bm,br]at m;rw[M]at m⊢;simp only[aE N (ji _ _),O,bh,aJ,Dv,e,x,aE R (ji _ _),cv];exact m;simp only[G,i];refine b (λo=>?_) (λo=>?_);simp_all[tv];rw[if_neg (by grind)]at l;rw[aZ,O];grind;have:d=Z r.ai:=by simp at g;omega
 subst this;rw[qq,na]at l;have z:(aS bC r)[3+2]?=aa (.str r.aj.aF):=rfl;have cc:tv f r=(r.aj.aF==[]||B):=by rw[tv,l]
 simp only[z,O,jE,bI,bz,G];refine BE (λj=>?_) (λj=>?_);refine dw (λo=>?_) (λo=>?_);simp_all;exact⟨.aB [I 0,I 0],eu,0,0,rfl,by grind⟩;simp only[c5,e6,if_false];exact⟨.aB [I 0,I 0],eu,0,0,rfl,by grind⟩
def Gr(c:List Obj)(b:AV)(d:K->List AV)(e:Nat)(a:List K):Prop:=(a=[]/\b=.aq)\/∃id g,b=.q id g 0 (Z a)/\c[id]?=aa (.arr g e (a.map d))
def hU(c:AV)(a:Nat):Prop:=∃g b,c=.q a g 0 b
theorem uD(a:Nat):¬hU .aq a:=by rintro⟨g,b,h⟩;cases h
theorem sy{id g:Nat}:hU (.q id g 0 U) N<->N=id:=⟨λ⟨a,b,h⟩=>by grind,λh=>⟨g,U,by rw[h]⟩⟩
theorem Gr.mono{H':List Obj}(h:Gr M E a7 U x)(e:∀(a:Nat)(b:Obj),hU E a->M[a]?=aa b->H'[a]?=aa b):Gr H' E a7 U x:=by
 rcases h with h|⟨id,g,c,d⟩;exact .inl h;exact .inr (by grind[sy])
theorem Gr.cell(h:Gr M E a7 U x):E.bU=true:=by
 rcases h with⟨-,h⟩|⟨id,g,h,-⟩<;>rw[h]<;>rfl
theorem Gr.lt(h:Gr M E a7 U x)(b:hU E N):N<Z M:=by
 rcases h with⟨-,h⟩|⟨id,g,h,a⟩;grind[uD];grind[sy]
theorem Gr.grow{bytes:Nat}(h:Gr M E a7 U x)(a:K)(f:Z (a7 a)=U)(k:(Z x+1)*bytes<=2^47):
 ∃id g c,cJ U bytes E (.sl ab [a7 a]) M=aa (.q id g 0 (Z (x++[a])),c)/\Gr c (.q id g 0 (Z (x++[a]))) a7 U (x++[a])/\(∀(b:Nat)(d:Obj),¬hU E b->M[b]?=aa d->c[b]?=aa d)/\(hU E id\/((∀b,¬hU E b)/\id=Z M))/\Z M<=Z c:=by
 rcases h with⟨j,h⟩|⟨id,g,h,e⟩;subst j;subst h;refine⟨Z M,0,M++[.arr 0 U [a7 a]],?_,.inr (by grind),by grind,.inr ⟨uD,rfl⟩,by simp⟩;exact pe (a7:=a7) (x:=[a]) rfl (by simp[h6,f]) (by omega);have l:=(fH.1 e).1;have i:a1 M id U a7 g x=M:=by
  let⟨m,n⟩:=fH.1 e;simp only[a1];rw[<-n];exact zb m
 have ap:=p2 (M:=M) (id:=id) (U:=U) (bytes:=bytes) (N:=g) (a7:=a7) (x:=x) a l f k;rw[i]at ap;rw[h];refine⟨id,g+1,_,ap,.inr (by grind[oj]),λb d r s=>?_,.inl (sy.2 rfl),by simp[a1]⟩;grind[a1,List.getElem?_set_ne,sy]
theorem Gr.res(h:Gr M E a7 U x)(d:∀b∈x,bT (a7 b)):aM M .res E (eS ab a7 x):=by
 rcases h with⟨a,h⟩|⟨id,g,h,c⟩;rw[a,h];exact .aq _ _;grind[ic]
theorem Eg{b:K->List AV}:∀{a:List K},(∀x∈a,b7 M dd (a7 x) (b x))->fJ M dd (a.map a7) (a.map b)
 |[],_=>.nil _
 |x::a,h=>.ck (h x (by simp)) (Eg (by grind))
theorem Gr.cd{a:K->List AV}(h:Gr M E a7 U x)(e:∀b∈x,b7 M .cd (a7 b) (a b)):aM M .cd E (eS ad a x):=by
 rcases h with⟨c,h⟩|⟨id,g,h,d⟩;rw[c,h];exact .aq _ _;rw[h];refine .wc id g 0 _ U _ _ d (by simp) ?_;grind[List.take_of_length_le,Eg]
theorem vI{a:K->List AV}(c:∀b∈x,b7 M .cd (a7 b) (a b)):aM M .cd (eS T a7 x) (eS ad a x):=.AZ T _ _ (Eg c)
theorem tz{a:K->List AV}(c:∀b∈x,b7 M .dm (a7 b) (a b)):aM M .dm (eS T a7 x) (eS ad a x):=.CR T _ _ (Eg c)
theorem WE(b:Bool)(a:Lit):b7 M .cd (bg b a) (bg ad a):=
 .ck (.int _ _ _) (.ck (.str _ _) (.ck (.int _ _ _) (.ck (by simp[vI,bT.snap]) (.ck (.str _ _) (.ck (.str _ _) (.ck (.int _ _ _) (.ck (.int _ _ _) (.ck (.int _ _ _) (.nil _)))))))))
theorem akB(b:Bool)(a:Lit):b7 M .dm (bg b a) (bg ad a):=
 .ck (.int _ _ _) (.ck (.str _ _) (.ck (.int _ _ _) (.ck (by simp[tz,bT.snap]) (.ck (.str _ _) (.ck (.str _ _) (.ck (.int _ _ _) (.ck (.int _ _ _) (.ck (.int _ _ _) (.nil _)))))))))
def py(a:Bool)(r:aD):List AV:=[.str r.au,I r.ah,eS a cT r.af,I r.aj.ax,.str r.aj.au,.str r.aj.aF,I r.aj.aR,eS ab (bg a) r.ai,I r.bb]
@[simp] theorem akC(a:Bool)(r:aD):bT (py a r):=by simp[py]
@[simp] theorem akD(a:Bool)(r:aD):Z (py a r)=9:=rfl
theorem akE(a:Bool)(r:aD):dO 9 (.agg (py a r))=aa (py a r):=iT rfl rfl
theorem akF(a:Bool)(r:aD):b7 M .dm (py a r) (aS ad r):=
 .ck (.str _ _) (.ck (.int _ _ _) (.ck (by simp[tz,bT.snap]) (.ck (.int _ _ _) (.ck (.str _ _) (.ck (.str _ _) (.ck (.int _ _ _) (.ck (tz λb _=>akB a b) (.ck (.int _ _ _) (.nil _)))))))))
theorem akG(a:Bool)(b:Lit):fS 9 [(I 0),(.str []),(I 0),.aq,(.str []),(.str []),(I 0),(I 0),(I 0)] 1 [(0,.agg (bg a b))]=aa (.sl ab [bg a b]):=rfl
variable{ca:Int}
theorem Ao:mw ey f ca=[]<->ey=[]/\f=0:=by
 unfold mw;split;grind;simp_all
theorem Ap(h:Z ey<=20):Z (mw ey f ca)<=20:=by
 grind[mw]
theorem Ml(h:∀a∈ey,a.1≠0):∀a∈mw ey f ca,a.1≠0:=by
 grind[mw]
theorem WG(h:U<Z x):(x.take (U+1)).all ee=ad<->(x.take U).all ee=ad/\ee x[U]=true:=by
 grind[oi]
def WH(d:Bool)(b:D)(r:aD)(e:AV):Prop:=∃c a,e=.aB [.agg (py d c),eS ab b3 a]/\Z a<=20/\(a=[]<->lE b r)/\(lE b r->c=fi b r)/\pZ c/\∀f∈a,f.1≠0
theorem akH(j:D)(r:aD)(c1:eA j)(x:kA j)(L:pZ r)(f8:Z r.ai<=100)(d4:∀n∈r.ai,n.ax=5->Z n.af=2)
 (f3:gQ j r=ad->r.ai.all (hS j)=ad->Ef j (fi j r)):∃o,PR C 143 [.agg (cP T F j),.agg (aS bC r)] o/\WH bC j r o:=by
 apply aew.ex;simp only[eE,o9,O,e4,fh,gy,nF,bh,aJ,qN,Bp,e,aX,dR,e2,hG,jY];obtain⟨o,M,f,br,rfl,ek,cs,y,go,fy⟩:=akv (T:=T) (F:=F) (bC:=bC) j r c1 L.1 x;apply c M;simp only[fK,dj,eH,O,yd,vh,wN,vi,vj,vk,vl,wO,uj];refine c4 (Al (M:=[.arr 0 2 [],.arr 0 2 []]) (id:=1) [] br r.bb ⟨0,rfl,rfl⟩) rfl λX U d5=>?_;refine aI (dW:=.aq) rfl ?_;have g9:Z U=Z U:=rfl
 refine bG (K:=Nat×AV×List (Int×Int)×AV×List Lit×List Obj×List AV) (λd=>[d.2.1,I d.1]++d.2.2.2.2.2.2++[.str f.au,I f.ah,eS bC cT f.af,I f.aj.ax,.str f.aj.au,.str f.aj.aF,I f.aj.aR,d.2.2.2.1,I f.bb]) (λd=>d.2.2.2.2.2.1) (λd=>Z r.ai -d.1) (λd=>d.1<=Z r.ai/\mu d.2.2.2.2.2.1 d.2.1 1 d.2.2.1/\Z d.2.2.1<=20/\Gr d.2.2.2.2.2.1 d.2.2.2.1 (bg bC) 9 d.2.2.2.2.1/\¬hU d.2.2.2.1 1/\Z d.2.2.2.2.1=d.1/\Z d.2.2.2.2.2.2=9/\
  (d.2.2.1=[]<->gQ j r=ad/\(r.ai.take d.1).all (hS j)=ad)/\((r.ai.take d.1).all (hS j)=ad->d.2.2.2.2.1=(r.ai.take d.1).map (iu j))/\(∀n∈d.2.2.2.2.1,vc n)/\∀a4∈d.2.2.1,a4.1≠0) (0,X,mw [] br r.bb,.aq,[],U,[.str [],I 0,.aq,I 0,.str [],.str [],I 0,.aq,I 0]) ⟨by simp,d5.1,Ap (by simp),.inl ⟨rfl,rfl⟩,uD 1,rfl,rfl,by simp[Ao,ek],by simp,by simp,Ml (by simp)⟩ ?_
 rintro⟨N,X,m,bm,p,a5,ds⟩ ⟨es,s,Q,J,a0,ce,co,K,S,c2,R⟩ f7 dl;simp only at es s Q J a0 ce co K S c2 R dl⊢;obtain⟨gU,g0,g1,g2,g3,g4,g5,g6,g7,rfl⟩:∃a6 y z t P W a9 be bi,ds=[a6,y,z,t,P,W,a9,be,bi]:=by
  match ds,co with
  |[a6,y,z,t,P,W,a9,be,bi],_=>grind
 simp only[hG,dR,G,i,A,O,a];refine b (λh=>?_) (λh=>?_);have h:N<Z r.ai:=by simpa using h
 have aA:r.ai[N]∈r.ai:=bn h;simp only[aE h (jC _ _),O,o8];obtain⟨o,M,k,bv,rfl,el,ge,z,gt,fn⟩:=akx (T:=T) (F:=F) (bC:=bC) j r.ai[N] c1 (L.2.2 _ aA) x (d4 _ aA);apply c M;simp only[dj,eH,O,yc,wG,wH,yp,wI,wJ,wK,yq,wL,wM];refine c4 (Al m bv k.bb s) (by simp[s.pl]) λac V v=>?_;have d7:(AV.agg [I k.ax,.str k.au,I k.ah,eS bC cT k.af,.str k.bind,.str k.aj,I k.iG,I k.op,I k.bb])=.agg (bg bC k):=rfl
 rw[d7,akG,O];have eq:=J.mono (H':=V) λa2 a3 fd x=>v.2 a2 a3 (by grind) x;let⟨id,cb,d0,y,z,t,P,W⟩:=eq.grow (bytes:=112) k (jC bC k) (by omega);refine aY y (aI (dW:=.q id cb 0 (Z (p++[k]))) rfl ?_);rw[aZ,O];have f9:=v.1.lt;have gc:id≠1:=by
  rcases P with cc|⟨-,cc⟩;exactλB=>a0 (B▸cc);omega
 refine dl (N+1,ac,mw m bv k.bb,.q id cb 0 (Z (p++[k])),p++[k],d0,[_,_,_,_,_,_,_,_,_]) ⟨h,?_,Ap Q,z,by grind[sy],by simp[ce],rfl,?_,?_,?_,Ml R⟩ (by simp;omega);let⟨d3,f5,f6⟩:=v.1;exact⟨d3,f5,t 1 _ a0 f6⟩;rw[Ao,K,el,WG h,and_assoc];grind[List.take_succ_eq_append_getElem];intro n w;rcases dt.1 w with w|w;grind;simp only[l6]at w;rw[w,fn];have:=L.2.2 _ aA;exact this;have:N=Z r.ai:=by simp at h;omega
 subst this;rw[dY]at K S;simp only[s.ln,O,c6];have bD:∀(Y:AV)(u:List (Int×Int))(H':List Obj),mu H' Y 1 u->Z u<=20->Gr H' bm (bg bC) 9 p->(∀a4∈u,a4.1≠0)->(u=[]<->lE j r)->
  bd (dO 9 (.agg [.str f.au,I f.ah,eS bC cT f.af,I f.aj.ax,.str f.aj.au,.str f.aj.aF,I f.aj.aR,bm,I f.bb])) λl=>∃o,aM H' .res (.aB [(AV.pl (.agg [(g l 0),(g l 1),(g l 2),(g l 3),(g l 4),(g l 5),(g l 6),(g l 7),(g l 8)])),(AV.pl Y)]) o/\WH bC j r o:=by
  intro Y u H' ci d8 cl f4 d9;rw[iT (U:=9) rfl (by simp[cl.cell]),O,ci.pl];refine⟨.aB [.agg (py bC ⟨f.au,f.ah,f.af,f.aj,p,f.bb⟩),eS ab b3 u],.aB _ _ _ (.ck (.agg _ _ _ ?_) (.ck ci.res (.nil _))),_,_,rfl,d8,d9,λE=>?_,?_,f4⟩;exact .ck (.str _ _) (.ck (.int _ _ _) (.ck eu (.ck (.int _ _ _) (.ck (.str _ _) (.ck (.str _ _) (.ck (.int _ _ _) (.ck (cl.res (by simp)) (.ck (.int _ _ _) (.nil _)))))))))
  rw[cs E.1,S E.2.1]<;>rfl
  refine⟨by rw[fy];exact L.1,?_,c2⟩;show Z p<1099511627776;omega
 refine b (λak=>?_) (λak=>?_);have H:m=[]:=by
  have:Z m=0:=by simpa using ak
  exact Je.1 this
 let⟨az,am⟩:=K.1 H;have f1:=cs az;have d6:=S am;have f0:(⟨f.au,f.ah,f.af,f.aj,p,f.bb⟩:aD)=fi j r:=by rw[f1,d6]<;>rfl
 have f2:pZ (fi j r):=by
  refine⟨L.1,?_,λn w=>?_⟩;grind[Sm];grind
 obtain⟨o,M,d2,t,rfl,em⟩:=akA (T:=T) (F:=F) (bC:=true) j (fi j r) f2 (f3 az am);refine eV _ M ?_ (.aB _ (.cons _ _ (.int _ _) (.cons _ _ (.int _ _) .nil))) ?_;refine .ck eu (.ck (.agg _ _ _ ?_) (.nil _));rw[<-f0]
 exact .ck (.str _ _) (.ck (.int _ _ _) (.ck (by simp[vI,bT.snap]) (.ck (.int _ _ _) (.ck (.str _ _) (.ck (.str _ _) (.ck (.int _ _ _) (.ck (J.cd λn _=>WE bC n) (.ck (.int _ _ _) (.nil _)))))))));simp only[dj,eH,O];refine c4 (Al m d2 t s) (by simp[s.pl]) λac V v=>?_;simp only[G,i];apply bD ac _ V v.1 (Ap Q) (J.mono λa2 a3 fd x=>v.2 a2 a3 (by grind) x) (Ml R);rw[Ao,em]
 exact⟨λh=>⟨az,am,h.2⟩,λh=>⟨H,h.2.2⟩⟩;have H:m≠[]:=by
  have:¬(Z m)=0:=by simpa using ak
  exactλB=>this (by rw[B]<;>rfl)
 simp only[G,i];refine bD X m a5 s Q J R ⟨λB=>absurd B H,λE=>absurd (K.2 ⟨E.1,E.2.1⟩) H⟩
variable{bF:List AV}
theorem vJ{row:List AV}(b:Z row=U)(a:row.all AV.bU=ad):fS U bF 1 [(0,.agg row)]=aa (.sl ab [row]):=by
 simp_all[fS,lI]
def xc(b:Bool)(a:Fn):List AV:=[.str a.au,.str a.aN,I a.of,eS b cS a.src,eS b cS a.dst,eS ab cI a.gU,I a.bb]
@[simp] theorem akI(a:Bool)(b:Fn):bT (xc a b):=by simp[xc]
def akJ(c j:Bool)(a:D)(r:AV)(b:List Obj):Prop:=∃f e g h d id i,r=.aB [.agg [f,e,g,eS j (aS c) a.ak],h]/\mu b h id d/\Z d<=20/\Gr b f (bp c) 4 a.aw/\Gr b e (λl:List AV=>l) 7 i/\Gr b g (bO c) 7 (a.Q.map (ew a))/\
 (d=[]<->qd a=ad)/\(qd a=ad->i=a.aO.map λk=>xc c (eP a k))/\¬hU f id/\¬hU e id/\¬hU g id
theorem Mm:(ay (U+1)).all cj=ad<->(ay U).all cj=ad/\cj U=true:=by grind
theorem akK(d:D)(aA:eA d)(i8:Z d.aw<=100)(i5:Z d.aO<=100)(ke:Z d.Q<=100)(hs:∀g∈d.aO,Z g.src=Z g.dst):HR C 142 [.agg (cP T F d)] M (akJ T F d):=by
 apply agl.hq;simp only[eE,O,e4,fh,bh,aJ,gy,rW,wz,kv,pb,e,aX];refine aI (dW:=[.aq,.aq,.aq,eS F (aS T) d.ak]) rfl (aI (dW:=[.aq,.aq,.aq,eS F (aS T) d.ak]) rfl ?_);simp only[G,i];have f6:Z (M++[Obj.arr 0 2 []])=Z M+1:=by simp
 rw[f6];generalize hj:Z M+1=id;generalize g9:M++[Obj.arr 0 2 []]++[Obj.arr 0 2 []]=f0;have ha:mu f0 (.q id 0 0 0) id []:=⟨0,rfl,by grind⟩;clear f6 g9 hj
 apply bG (K:=Nat×AV×List (Int×Int)×AV×List Obj×List AV) (λf=>[f.2.1,I f.1]++f.2.2.2.2.2++[f.2.2.2.1,.aq,.aq,eS F (aS T) d.ak]) (λf=>f.2.2.2.2.1) (λf=>Z d.aw -f.1) (λf=>f.1<=Z d.aw/\mu f.2.2.2.2.1 f.2.1 id f.2.2.1/\Z f.2.2.1<=20/\Gr f.2.2.2.2.1 f.2.2.2.1 (bp T) 4 (d.aw.take f.1)/\¬hU f.2.2.2.1 id/\Z f.2.2.2.2.2=4/\(f.2.2.1=[]<->(ay f.1).all (qc d)=ad)) (0,.q id 0 0 0,[],.aq,f0,[.aq,.aq,.aq,.aq]) ⟨by simp,ha,by simp,.inl ⟨rfl,rfl⟩,uD id,rfl,by simp⟩
 rintro⟨k,J,K,r,H,aF⟩ ⟨bD,u,N,B,d5,ax,am⟩ X W;simp only at bD u N B d5 ax am W⊢;obtain⟨R,S,U,V,rfl⟩:∃af o p w,aF=[af,o,p,w]:=by
  match aF,ax with
  |[af,o,p,w],_=>grind
 simp only[hG,dR,G,i,A,O,a];refine b (λh=>?_) (λh=>?_);have h:k<Z d.aw:=by simpa using h
 have hl:d.aw[k]∈d.aw:=bn h;have f4:(AV.agg [.str d.aw[k].au,eS T cS d.aw[k].az,eS T b3 d.aw[k].eK,I d.aw[k].bb])=.agg (bp T d.aw[k]):=rfl;simp only[aE h (kK _ _),O,jj,zB,DN,DO,DP,DQ,f4];refine c (Lu _ (aA.aN _ hl)) (c (Lb d d.aw[k].au aA) ?_);have cb:b2 (λv:bQ=>v.au==d.aw[k].au) d.aw=ef d d.aw[k].au:=rfl;rw[cb];simp only[cv,O]
 have d3:qc d k=(eY d.aw[k]==0&&ef d d.aw[k].au==(k:Int)):=by rw[qc,bq h]
 have go:∀l:Int,(l=0<->qc d k=ad)->ch C 144 [J,I l,I d.aw[k].bb] H λh3 g6=>bd (fS 4 [(.str []),.aq,.aq,(I 0)] 1 [(0,.agg [.str d.aw[k].au,eS T cS d.aw[k].az,eS T b3 d.aw[k].eK,I d.aw[k].bb])]) λh4=>
  cq (cJ 4 72 r h4 g6) λii g7=>bd (nB ii) λio=>bd (aT .s .add (I k) (I 1)) λip=>X [h3,ip,R,S,U,V,io,.aq,.aq,eS F (aS T) d.ak] g7:=by
  intro l bm;refine c4 (Al K l _ u) (by simp[u.pl]) λa2 ac z=>?_;rw[f4,vJ (U:=4) (row:=bp T d.aw[k]) rfl rfl,O];have br:=B.mono (H':=ac) λm n P E=>z.2 m n (by grind) E;let⟨hO,f3,a0,o,p,w,ah,f2⟩:=br.grow (bytes:=72) d.aw[k] (kK T _) (by grind);rw[<-iy h]at o p;refine aY o (aI rfl ?_);rw[aZ,O];have f5:=z.1.lt;have gc:hO≠id:=by
   rcases ah with x|⟨-,x⟩;exactλl=>d5 (l▸x);omega
  refine W (k+1,a2,mw K l d.aw[k].bb,_,a0,[_,_,_,_]) ⟨h,?_,Ap N,p,by grind[sy],rfl,?_⟩ (by simp;omega);let⟨a3,ce,ci⟩:=z.1;exact⟨a3,ce,w id _ d5 ci⟩;grind[Ao]
 simp_all;have:k=Z d.aw:=by simp at h;omega
 subst this;rw[dY]at B;clear W;have i7:=am
 refine bG (K:=Nat×AV×List (Int×Int)×AV×List (List AV)×List Obj×List AV) (λf=>[f.2.1,I f.1]++f.2.2.2.2.2.2++[r,f.2.2.2.1,.aq,eS F (aS T) d.ak]) (λf=>f.2.2.2.2.2.1) (λf=>Z d.aO -f.1) (λf=>f.1<=Z d.aO/\mu f.2.2.2.2.2.1 f.2.1 id f.2.2.1/\Z f.2.2.1<=20/\Gr f.2.2.2.2.2.1 r (bp T) 4 d.aw/\Gr f.2.2.2.2.2.1 f.2.2.2.1 (λv:List AV=>v) 7 f.2.2.2.2.1/\¬hU f.2.2.2.1 id/\(∀m,hU r m->¬hU f.2.2.2.1 m)/\Z f.2.2.2.2.1=f.1/\Z f.2.2.2.2.2.2=4/\
  (f.2.2.1=[]<->(ay (Z d.aw)).all (qc d)=ad/\(ay f.1).all (px d)=ad)/\((ay f.1).all (px d)=ad->f.2.2.2.2.1=(d.aO.take f.1).map λg=>xc T (eP d g))) (0,J,K,.aq,[],H,[R,S,U,V]) ⟨by simp,u,N,B,.inl ⟨rfl,rfl⟩,uD id,λ_ _=>uD _,rfl,rfl,by simp[am],by simp⟩ ?_
 rintro⟨k,J,K,L,g1,H,aF⟩ ⟨bD,u,N,aj,B,d6,hk,ge,ax,am,em⟩ X W;simp only at bD u N aj B d6 hk ge ax am em W⊢;obtain⟨R,S,U,V,rfl⟩:∃af o p w,aF=[af,o,p,w]:=by
  match aF,ax with
  |[af,o,p,w],_=>grind
 simp only[hG,dR,G,i,A,O,a];refine b (λh=>?_) (λh=>?_);have h:k<Z d.aO:=by simpa using h
 have f8:d.aO[k]∈d.aO:=bn h;generalize el:d.aO[k]=g at*;have d3:px d k=((match d.aw[(ef d g.aN).toNat]? with|aa cc=>y (0<=ef d g.aN)&&fG cc g|ae=>ab)&&iR d g.au==(k:Int)):=by rw[px,bq h,el]<;>rfl
 simp only[aE h (s5 _ _),O,el,Dq,F6,GN,GO,GP,GQ,GR];apply c (Lb d g.aN aA);have cb:b2 (λv:bQ=>v.au==g.aN) d.aw=ef d g.aN:=rfl;rw[cb];simp only[tx,O];refine aI (dW:=.aq) rfl ?_;have go:∀(l:Int)(Y:AV),(l=0<->(match d.aw[(ef d g.aN).toNat]? with|aa cc=>y (0<=ef d g.aN)&&fG cc g|ae=>ab)=ad)->Y.bU=ad->(l=0->Y=eS ab cI (eP d g).gU)->
  cp C 197 [.agg (cP T F d),.str g.au] H λit=>bd (aT .s .neq it (I k)) λiG=>ez iG
   (ch C 144 [J,I 5,I g.bb] H λcl a5=>bd (fS 7 [(.str []),(.str []),(I 0),.aq,.aq,.aq,(I 0)] 1 [(0,.agg [.str g.au,.str g.aN,I (ef d g.aN),eS T cS g.src,eS T cS g.dst,Y,I g.bb])]) λco=>
    cq (cJ 7 120 L co a5) λcs a9=>bd (nB cs) λc1=>bd (aT .s .add (I k) (I 1)) λc2=>X [cl,c2,R,S,U,V,r,c1,.aq,eS F (aS T) d.ak] a9)
   (ch C 144 [J,I l,I g.bb] H λcl a5=>bd (fS 7 [(.str []),(.str []),(I 0),.aq,.aq,.aq,(I 0)] 1 [(0,.agg [.str g.au,.str g.aN,I (ef d g.aN),eS T cS g.src,eS T cS g.dst,Y,I g.bb])]) λco=>
    cq (cJ 7 120 L co a5) λcs a9=>bd (nB cs) λc1=>bd (aT .s .add (I k) (I 1)) λc2=>X [cl,c2,R,S,U,V,r,c1,.aq,eS F (aS T) d.ak] a9):=by
  intro l Y bm hH hw;apply c (US d g.au aA);have hg:b2 (λv:Fn=>v.au==g.au) d.aO=iR d g.au:=rfl;rw[hg];simp only[cv,O];have ai:∀aR:Int,(aR=0<->px d k=ad)->(aR=0->Y=eS ab cI (eP d g).gU)->ch C 144 [J,I aR,I g.bb] H λcl a5=>bd (fS 7 [(.str []),(.str []),(I 0),.aq,.aq,.aq,(I 0)] 1 [(0,.agg [.str g.au,.str g.aN,I (ef d g.aN),eS T cS g.src,eS T cS g.dst,Y,I g.bb])]) λco=>
   cq (cJ 7 120 L co a5) λcs a9=>bd (nB cs) λc1=>bd (aT .s .add (I k) (I 1)) λc2=>X [cl,c2,R,S,U,V,r,c1,.aq,eS F (aS T) d.ak] a9:=by
   intro aR he hx;refine c4 (Al K aR _ u) (by simp[u.pl]) λa2 ac z=>?_;rw[vJ (U:=7) (row:=[.str g.au,.str g.aN,I (ef d g.aN),eS T cS g.src,eS T cS g.dst,Y,I g.bb]) rfl (by simp[hH]),O];have br:=B.mono (H':=ac) λm n P E=>z.2 m n (by grind) E;have bv:=aj.mono (H':=ac) λm n P E=>z.2 m n (by grind) E
   let⟨g0,f3,a0,o,p,w,ah,f2⟩:=br.grow (bytes:=120) [.str g.au,.str g.aN,I (ef d g.aN),eS T cS g.src,eS T cS g.dst,Y,I g.bb] rfl (by omega);refine aY o (aI rfl ?_);rw[aZ,O];have f5:=z.1.lt;have gc:g0≠id:=by
    rcases ah with x|⟨-,x⟩;exactλl=>d6 (l▸x);omega
   have i9:∀m,hU r m->m≠g0:=by
    intro m P l;rcases ah with x|⟨-,x⟩;grind;have:=bv.lt P;omega
   refine W (k+1,a2,mw K aR g.bb,_,_,a0,[_,_,_,_]) ⟨h,?_,Ap N,bv.mono (by grind),p,by grind[sy],by grind[sy],by simp[ge],rfl,?_,?_⟩ (by simp;omega);let⟨a3,ce,ci⟩:=z.1;exact⟨a3,ce,w id _ d6 ci⟩;grind[Ao];intro d9;rw[Mm]at d9;rw[em d9.1,hx (he.2 d9.2),iy h,hJ,el]<;>rfl
  refine b (λt=>?_) (λt=>?_);refine ai 5 ?_ (λh=>by cases h);grind;refine ai l ?_ hw;grind
 simp only[bz,hz,O,G,i];refine b (λt=>?_) (λt=>?_);have t:0<=ef d g.aN:=by simpa using t
 let⟨n,E,es⟩:∃n:Nat,ef d g.aN=n/\n<Z d.aw:=by
  rcases sq (λv:bQ=>v.au==g.aN) d.aw with⟨n,E,g5,-⟩|⟨g5,-⟩;grind;omega
 rw[E]at d3 go⊢;simp only[eR,bq es]at d3 go;have i3:y ((0:Int)<=(n:Int))=true:=by simp
 simp only[aE es (kK _ _),O,jj];have f7:=aA.fn g f8;obtain⟨kx,gt,l,rfl,bm⟩:=akz (T:=T) (F:=T) d.aw[n] {g with of:=(n:Int),gU:=[]} (aA.aN _ (bn es)) ⟨f7.1,f7.2.1,by simp[Sm]⟩ (hs g f8);have g3:fG d.aw[n] {g with of:=(n:Int),gU:=[]}=fG d.aw[n] g:=rfl;have h1:fM d.aw[n] {g with of:=(n:Int),gU:=[]}=fM d.aw[n] g:=rfl;rw[g3,h1]at gt;rw[g3]at bm;refine⟨.dm,_,_,by decide,?_,gt,(λl=>by cases l),?_⟩
 exact .ck eu (.ck (.agg _ _ _ (.ck (.str _ _) (.ck (.str _ _) (.ck (.int _ _ _) (.ck eu (.ck eu (.ck (.aq _ _) (.ck (.int _ _ _) (.nil _))))))))) (.nil _));simp only[fK,dj,eH,O];apply aI rfl;have:=go l (eS ab cI (if fG d.aw[n] g=ad then fM d.aw[n] g else[])) (by grind) rfl (λ_=>by
  grind[eP,Int.toNat_natCast,List.getElem?_eq_getElem])
 exact this;have t:¬0<=ef d g.aN:=by simpa using t
 have kl:(match d.aw[(ef d g.aN).toNat]? with|aa cc=>y (0<=ef d g.aN)&&fG cc g|ae=>ab)=false:=by
  have:y (0<=ef d g.aN)=false:=by simpa using t
  split;rw[this]<;>rfl
  rfl
 have:=go 70 .aq (by grind) rfl (λh=>by cases h);exact this;have:k=Z d.aO:=by simp at h;omega
 subst this;rw[dY]at em;clear W
 refine bG (K:=Nat×AV×List (Int×Int)×AV×List Obj×List AV) (λf=>[f.2.1,I f.1]++f.2.2.2.2.2++[r,L,f.2.2.2.1,eS F (aS T) d.ak]) (λf=>f.2.2.2.2.1) (λf=>Z d.Q -f.1) (λf=>f.1<=Z d.Q/\mu f.2.2.2.2.1 f.2.1 id f.2.2.1/\Z f.2.2.1<=20/\Gr f.2.2.2.2.1 r (bp T) 4 d.aw/\Gr f.2.2.2.2.1 L (λv:List AV=>v) 7 g1/\Gr f.2.2.2.2.1 f.2.2.2.1 (bO T) 7 ((d.Q.take f.1).map (ew d))/\¬hU f.2.2.2.1 id/\(∀m,hU r m->¬hU f.2.2.2.1 m)/\(∀m,hU L m->¬hU f.2.2.2.1 m)/\Z f.2.2.2.2.2=4/\
  (f.2.2.1=[]<->((ay (Z d.aw)).all (qc d)=ad/\(ay (Z d.aO)).all (px d)=ad)/\(ay f.1).all (vE d)=ad)) (0,J,K,.aq,H,[R,S,U,V]) ⟨by simp,u,N,aj,B,.inl ⟨by simp,rfl⟩,uD id,λ_ _=>uD _,λ_ _=>uD _,rfl,by simp[am]⟩ ?_
 rintro⟨k,J,K,d8,H,aF⟩ ⟨bD,u,N,aj,d4,B,d7,hm,hh,ax,am⟩ X W;simp only at bD u N aj d4 B d7 hm hh ax am W⊢;obtain⟨R,S,U,V,rfl⟩:∃af o p w,aF=[af,o,p,w]:=by
  match aF,ax with
  |[af,o,p,w],_=>grind
 simp only[hG,dR,G,i,A,O,a];refine b (λh=>?_) (λh=>?_);have h:k<Z d.Q:=by simpa using h
 generalize ex:d.Q[k]=j at*;have d3:vE d k=((j.aN==[]||y (0<=ef d j.aN))&&eO d j.au==(k:Int)):=by rw[vE,bq h,ex]
 simp only[aE h (ji _ _),O,ex,wu,yb,rZ,r1,r2,sa,sb,sd];apply c (Lb d j.aN aA);have cb:b2 (λv:bQ=>v.au==j.aN) d.aw=ef d j.aN:=rfl;rw[cb];simp only[tx,O,bz,gW];have go:∀l:Int,(l=0<->vE d k=ad)->ch C 144 [J,I l,I j.bb] H λdl be=>bd (fS 7 [(.str []),.aq,(.str []),(I 0),ff,(I 0),(I 0)] 1 [(0,.agg [.str j.au,eS T cI j.a6,.str j.aN,I (ew d j).of,.bool j.ek,I j.fy,I j.bb])]) λds=>
  cq (cJ 7 88 d8 ds be) λd0 bi=>bd (nB d0) λd1=>bd (aT .s .add (I k) (I 1)) λd2=>X [dl,d2,R,S,U,V,r,L,d1,eS F (aS T) d.ak] bi:=by
  intro l bm;refine c4 (Al K l _ u) (by simp[u.pl]) λa2 ac z=>?_;rw[vJ (U:=7) (row:=[AV.str j.au,eS T cI j.a6,.str j.aN,I (ew d j).of,.bool j.ek,I j.fy,I j.bb]) rfl rfl,O];have ho:[AV.str j.au,eS T cI j.a6,.str j.aN,I (ew d j).of,.bool j.ek,I j.fy,I j.bb]=bO T (ew d j):=rfl;rw[ho];have br:=B.mono (H':=ac) λm n P E=>z.2 m n (by grind) E;have bv:=aj.mono (H':=ac) λm n P E=>z.2 m n (by grind) E
  have f9:=d4.mono (H':=ac) λm n P E=>z.2 m n (by grind) E;let⟨fd,f3,a0,o,p,w,ah,f2⟩:=br.grow (bytes:=88) (ew d j) (ji T _) (by grind);have hu:(d.Q.take k).map (ew d)++[ew d j]=(d.Q.take (k+1)).map (ew d):=by
   rw[iy h,hJ,ex]<;>rfl
  rw[hu]at o p;refine aY o (aI rfl ?_);rw[aZ,O];have f5:=z.1.lt;have gc:fd≠id:=by
   rcases ah with x|⟨-,x⟩;exactλl=>d7 (l▸x);omega
  have jp:∀m,hU r m->m≠fd:=by
   intro m P l;rcases ah with x|⟨-,x⟩;grind;have:=bv.lt P;omega
  have i6:∀m,hU L m->m≠fd:=by
   intro m P l;rcases ah with x|⟨-,x⟩;grind;have:=f9.lt P;omega
  refine W (k+1,a2,mw K l j.bb,_,a0,[_,_,_,_]) ⟨h,?_,Ap N,bv.mono (by grind),f9.mono (by grind),p,by grind[sy],by grind[sy],by grind[sy],rfl,?_⟩ (by simp;omega);let⟨a3,ce,ci⟩:=z.1;exact⟨a3,ce,w id _ d7 ci⟩;grind[Ao]
 have ai:∀l:Int,(l=0<->(j.aN==[]||y (0<=ef d j.aN))=ad)->cp C 198 [.agg (cP T F d),.str j.au] H λi0=>bd (aT .s .neq i0 (I k)) λi1=>ez i1
  (ch C 144 [J,I 5,I j.bb] H λdl be=>bd (fS 7 [(.str []),.aq,(.str []),(I 0),ff,(I 0),(I 0)] 1 [(0,.agg [.str j.au,eS T cI j.a6,.str j.aN,I (ew d j).of,.bool j.ek,I j.fy,I j.bb])]) λds=>
   cq (cJ 7 88 d8 ds be) λd0 bi=>bd (nB d0) λd1=>bd (aT .s .add (I k) (I 1)) λd2=>X [dl,d2,R,S,U,V,r,L,d1,eS F (aS T) d.ak] bi)
  (ch C 144 [J,I l,I j.bb] H λdl be=>bd (fS 7 [(.str []),.aq,(.str []),(I 0),ff,(I 0),(I 0)] 1 [(0,.agg [.str j.au,eS T cI j.a6,.str j.aN,I (ew d j).of,.bool j.ek,I j.fy,I j.bb])]) λds=>
   cq (cJ 7 88 d8 ds be) λd0 bi=>bd (nB d0) λd1=>bd (aT .s .add (I k) (I 1)) λd2=>X [dl,d2,R,S,U,V,r,L,d1,eS F (aS T) d.ak] bi):=by
  intro l bm;apply c (Ld d j.au aA);have hn:b2 (λv:cO=>v.au==j.au) d.Q=eO d j.au:=rfl;rw[hn];simp only[cv,O];refine b (λt=>?_) (λt=>?_);refine go 5 ?_;grind;refine go l ?_;grind
 refine b (λt=>?_) (λt=>?_);have a4:j.aN=[]:=by simpa using t
 have eq:(ew d j).of= -1:=by rw[ew,if_pos a4]
 rw[eq]at ai;have:=ai 0 (by simp[a4]);simp only[G,i,a4,beq_self_eq_true,rf,jE,O,jD,e6,if_false,c5]at this⊢;exact this;have a4:j.aN≠[]:=by simpa using t
 have eq:(ew d j).of=ef d j.aN:=by rw[ew,if_neg a4]
 rw[eq]at ai;simp only[G,i,jE,t,ri,O,jD,if_true,A];refine b (λg8=>?_) (λg8=>?_);have:=ai 70 (by
  grind)
 exact this;have:=ai 0 (by
  grind)
 exact this;have:k=Z d.Q:=by simp at h;omega
 subst this;rw[dY]at B;rw[iT (U:=4) rfl (by simp[aj.cell,d4.cell,B.cell]),O,u.pl];have i4:qd d=ad<->((ay (Z d.aw)).all (qc d)=ad/\(ay (Z d.aO)).all (px d)=ad)/\(ay (Z d.Q)).all (vE d)=true:=by
  rw[qd,ba,ba]
 exact⟨r,L,d8,J,K,id,g1,rfl,u,N,aj,d4,B,by grind,by grind,d5,d6,d7⟩
theorem uE(h:eX f ee x=ad):(Z x:Int)<=f/\∀a∈x,ee a=true:=by
 grind[eX]
structure WI(l:Lit):Prop where
 ax:1<=l.ax/\l.ax<=5
 af:Z l.af<=4
 Aq:∀t∈l.af,iN t=ad
 aj:(l.ax=3\/l.ax=4)\/l.aj=[]
 bind:l.bind≠[]->l.ax=1
 cmp:l.ax=5->Z l.af=2
variable{P:Lit}
theorem akL(h:oh P=ad):WI P:=by
 unfold oh at h;simp only[ba]at h;let⟨⟨⟨⟨⟨⟨⟨_,d⟩,e⟩,b⟩,_⟩,f⟩,g⟩,i⟩:=h;let⟨c,a⟩:=uE b;refine⟨(by grind),by omega,a,?_,λj=>?_,λk=>?_⟩;grind;grind;grind
structure HM(r:aD):Prop where
 ax:0<=r.aj.ax/\r.aj.ax<=3
 none:r.au=[]->r.af=[]/\r.aj.ax=0
 aF:(r.aj.ax=2\/r.aj.ax=3)<->r.aj.aF≠[]
 af:Z r.af<=4
 Aq:∀t∈r.af,iN t=ad
 ai:Z r.ai<=8
 lit:∀l∈r.ai,WI l
theorem akM(h:isVar bL=ad):bL≠[]:=by
 rintro rfl;have:isVar []=false:=by decide
 grind
theorem WJ{r:aD}(h:nK r=ad):HM r:=by
 unfold nK at h;simp only[ba]at h;let⟨⟨⟨⟨⟨⟨⟨⟨_,g⟩,i⟩,_⟩,j⟩,_⟩,k⟩,b⟩,c⟩:=h;let⟨d,a⟩:=uE b;let⟨e,f⟩:=uE c;refine⟨(by grind),λl=>?_,?_,by omega,a,by omega,by grind[akL]⟩;simp_all;grind[akM]
structure akN(p:D):Prop where
 aw:Z p.aw<=4
 aO:Z p.aO<=8
 Q:Z p.Q<=24
 ak:Z p.ak<=40
 fn:∀f∈p.aO,Z f.src=Z f.dst/\Z f.src<=8
 a6:∀q∈p.Q,Z q.a6<=4/\∀k∈q.a6,k=1\/k=2
 iU:∀r∈p.ak,HM r
theorem B4(h:rY V=ad):akN V:=by
 unfold rY at h;simp only[ba]at h;let⟨⟨⟨d,e⟩,f⟩,g⟩:=h;let⟨l,_⟩:=uE d;let⟨m,a⟩:=uE e;let⟨n,b⟩:=uE f;let⟨o,p⟩:=uE g;refine⟨by omega,by omega,by omega,by omega,λc i=>?_,λk j=>?_,by grind[WJ]⟩;have:=a c i;unfold uf at this;simp only[ba,beq_iff_eq]at this;have q:=(uE this.1.2).1;omega;have:=b k j;unfold ug at this;simp only[ba]at this;let⟨r,s⟩:=uE this.1.1.1.2;grind[mT]
theorem akO(h:iN bR=ad)(a:bR.aF=[]):bR.const.ty≠0:=by
 grind[iN,nJ]
theorem WK(h:V.Q[(eO V bL).toNat]?=aa oS)(b:y (0<=eO V bL)=ad):∃a:Nat,∃c:a<Z V.Q,eO V bL=a/\V.Q[a]=oS:=by
 grind
theorem WL(h:nQ oS mF=ad):Z mF=Z oS.a6:=by
 grind[nQ]
theorem Eh{r:aD}(h:gQ V r=ad)(i:r.au≠[]):∃a:Nat,∃c:a<Z V.Q,eO V r.au=a/\V.Q[a].ek=ab/\Z r.af=Z V.Q[a].a6/\(r.aj.ax=0<->V.Q[a].of<0)/\
 (r.aj.ax=1->0<=fx V V.Q[a] r.aj.au)/\(r.aj.ax=3->∃b:Nat,∃p:b<Z V.aO,iR V r.aj.au=b/\V.aO[b].of=V.Q[a].of):=by
 unfold gQ at h;have j:(r.au==[])=false:=by simpa using i
 rw[j,l4]at h;split at h;cases h
 rename_i q k;simp only[ba]at h;let⟨⟨⟨⟨⟨e,l⟩,f⟩,m⟩,n⟩,o⟩:=h;obtain⟨a,c,d,rfl⟩:=WK k e;refine⟨a,c,d,by grind,WL f,?_,λg=>?_,λg=>?_⟩;grind;grind;grind
theorem HN(h:hS V P=ad)(c:P.ax≠5):∃a:Nat,∃b:a<Z V.Q,eO V P.au=a/\Z P.af=Z V.Q[a].a6/\(P.bind≠[]\/P.ax=3\/P.ax=4->0<=V.Q[a].of)/\
 (P.ax=3\/P.ax=4->0<=fx V V.Q[a] P.aj/\∃d,V.aw[V.Q[a].of.toNat]?=aa d/\fx V V.Q[a] P.aj≠eD d []):=by
 unfold hS at h;rw[if_neg c]at h;split at h;cases h
 rename_i m i;simp only[ba]at h;let⟨⟨⟨f,g⟩,j⟩,k⟩:=h;obtain⟨a,b,e,rfl⟩:=WK i f;refine⟨a,b,e,WL g,λl=>?_,λc=>?_⟩;grind;grind
theorem WM(x:∀p∈V.Q,Z p.a6<=4/\∀o∈p.a6,o=1\/o=2){r:aD}(f:HM r)(q:gQ V r=ad)(l:r.ai.all (hS V)=ad):Ef V (fi V r):=by
 rw[eQ]at l;have j:∀d∈(fi V r).ai,∃a∈r.ai,d=iu V a:=by
  intro d c;simp only[fi,cy]at c;obtain⟨a,b,rfl⟩:=c;exact⟨a,b,rfl⟩
 refine⟨?_,?_,λd c=>?_,λi=>?_,λd c i=>?_,λd c h=>?_,λp y o h=>?_,λd c w v n=>?_,λd c u=>?_,λn=>?_⟩;have:=f.af;show Z r.af<=100;omega;have:=f.ai;grind[fi];obtain⟨a,b,rfl⟩:=j d c;have:=(f.lit a b).af;show Z a.af<=100;omega;have i:0<=ka V r:=i;have m:r.au≠[]:=by grind[ka]
 let⟨e,g,k,_,t,_⟩:=Eh q m;refine⟨e,g,?_,by show Z r.af<=_;omega⟩;show ka V r=e;grind[ka];obtain⟨a,b,rfl⟩:=j d c;have i:0<=nR V a:=i;have h:a.ax≠5:=by grind[nR]
 let⟨e,g,k,t,_⟩:=HN (l a b) h;refine⟨e,g,?_,by show Z a.af<=_;omega⟩;show nR V a=e;grind[nR];obtain⟨a,b,rfl⟩:=j d c;exact(f.lit a b).cmp h;grind;obtain⟨a,b,rfl⟩:=j d c;exact akO ((f.lit a b).Aq w v) n;obtain⟨a,b,rfl⟩:=j d c;have h:=(f.lit a b).bind u;let⟨e,g,k,_⟩:=HN (l a b) (by omega);refine⟨e,?_,g⟩;show nR V a=e;grind[nR];have h:=(f.aF.2 n);have m:r.au≠[]:=λs=>by have:=(f.none s).2;omega
 let⟨e,g,k,_⟩:=Eh q m;refine⟨e,?_,g⟩;show ka V r=e;grind[ka]
theorem WN{rs:List aD}(h:∀a∈V.Q,Z a.a6<=4/\∀b∈a.a6,b=1\/b=2):∀a∈(eg V rs).Q,Z a.a6<=4/\∀b∈a.a6,b=1\/b=2:=by
 intro a c;simp only[eg,cy]at c;obtain⟨e,d,rfl⟩:=c;exact h e d
theorem akP(a:D)(b:d):ef a b<Z a.aw:=by
 grind[sq,ef]
theorem HO(a:D)(rs:List aD):kA (eg a rs):=by
 intro e c;simp only[eg,cy]at c;obtain⟨b,d,rfl⟩:=c;have:=akP a b.aN;show(if b.aN=[]then -1 else ef a b.aN)<(Z a.aw:Int);omega
theorem WO(a:eA V){rs:List aD}(h:Sm rs)(i:∀r∈rs,pZ r):eA (eg V rs):=by
 refine⟨a.aw,a.aN,?_,λl d=>?_,?_,λn e=>?_,h,i⟩;have:=a.aO;grind[Sm,eg];simp only[eg,cy]at d;obtain⟨c,b,rfl⟩:=d;let⟨f,g,k⟩:=a.fn c b;refine⟨f,g,?_⟩;unfold eP;simp only;split;rename_i j m;split;have:=(a.aN j (by grind)).1;grind[Sm,fM];simp[Sm];simp[Sm];have:=a.Q;grind[Sm,eg];simp only[eg,cy]at e;obtain⟨c,b,rfl⟩:=e;exact a.tb c b
theorem akQ(b:Bool)(a:bQ):b7 M .dm (bp b a) (bp ad a):=
 .ck (.str _ _) (.ck (by simp[tz,bT.snap]) (.ck (by simp[tz,bT.snap]) (.ck (.int _ _ _) (.nil _))))
theorem WQ(b:Bool)(a:bQ):b7 M .cd (bp b a) (bp ad a):=
 .ck (.str _ _) (.ck (by simp[vI,bT.snap]) (.ck (by simp[vI,bT.snap]) (.ck (.int _ _ _) (.nil _))))
theorem akR(b:Bool)(a:Fn):b7 M .dm (xc b a) (cm ad a):=
 .ck (.str _ _) (.ck (.str _ _) (.ck (.int _ _ _) (.ck (by simp[tz,bT.snap]) (.ck (by simp[tz,bT.snap]) (.ck (by simp[tz,bT.snap]) (.ck (.int _ _ _) (.nil _)))))))
theorem akS(b:Bool)(a:Fn):b7 M .cd (xc b a) (cm ad a):=
 .ck (.str _ _) (.ck (.str _ _) (.ck (.int _ _ _) (.ck (by simp[vI,bT.snap]) (.ck (by simp[vI,bT.snap]) (.ck (by simp[vI,bT.snap]) (.ck (.int _ _ _) (.nil _)))))))
theorem akT(b:Bool)(a:cO):b7 M .dm (bO b a) (bO ad a):=
 .ck (.str _ _) (.ck (by simp[tz,bT.snap]) (.ck (.str _ _) (.ck (.int _ _ _) (.ck (.bool _ _) (.ck (.int _ _ _) (.ck (.int _ _ _) (.nil _)))))))
theorem akU(b:Bool)(a:cO):b7 M .cd (bO b a) (bO ad a):=
 .ck (.str _ _) (.ck (by simp[vI,bT.snap]) (.ck (.str _ _) (.ck (.int _ _ _) (.ck (.bool _ _) (.ck (.int _ _ _) (.ck (.int _ _ _) (.nil _)))))))
theorem akV(a:Bool)(r:aD):b7 M .cd (py a r) (aS ad r):=
 .ck (.str _ _) (.ck (.int _ _ _) (.ck (by simp[vI,bT.snap]) (.ck (.int _ _ _) (.ck (.str _ _) (.ck (.str _ _) (.ck (.int _ _ _) (.ck (vI λb _=>WE a b) (.ck (.int _ _ _) (.nil _)))))))))
variable{oO:b0 -> List AV}
theorem Mn{g:K->b0}(h:∀a∈x,b7 M dd (a7 a) (oO (g a))):fJ M dd (x.map a7) ((x.map g).map oO):=by
 induction x with
 |nil=>exact .nil _
 |cons a x b=>exact .ck (h a (by simp)) (by grind)
theorem Mo{d:List bQ}{c:List Fn}{e:List cO}{rs g:List aD}{r:aD}:∀(a:List Lit)(b:Bool),na ⟨d,c,e,rs⟩ r a b=na ⟨d,c,e,g⟩ r a b
 |[],_=>rfl
 |l::a,b=>by
  simp only[na];have h:∀f,hT ⟨d,c,e,rs⟩ f=hT ⟨d,c,e,g⟩ f:=λ_=>rfl;rw[h,h,Mo a b,Mo a ad]
theorem akW{b:List bQ}{a:List Fn}{c:List cO}{rs d:List aD}{r:aD}:lE ⟨b,a,c,rs⟩ r<->lE ⟨b,a,c,d⟩ r:=by
 have f:gQ ⟨b,a,c,rs⟩ r=gQ ⟨b,a,c,d⟩ r:=rfl;have g:hS ⟨b,a,c,rs⟩=hS ⟨b,a,c,d⟩:=rfl;have h:fi ⟨b,a,c,rs⟩ r=fi ⟨b,a,c,d⟩ r:=rfl;have i:∀e,yJ ⟨b,a,c,rs⟩ e=yJ ⟨b,a,c,d⟩ e:=λ_=>rfl;grind[tv,Mo,lE,vG]
def xd(a:D):Prop:=rY a=ad/\qd a=ad/\∀r∈a.ak,lE (eg a []) r
def sA(a:D):D:=eg a (a.ak.map (fi (eg a [])))
def WR(c:D)(e:AV):Prop:=∃a b,e=.aB [.agg a,eS ab b3 b]/\Z a=4/\a.all AV.bU=ad/\bT a/\(b=[]<->xd c)/\(b=[]->∀d,b7 d .dm a (cP ad ad (sA c)))
theorem WT:∀(b:List (Int×Int))(a:List (Int×Int)),(∀x∈b,x.1≠0)->Z a<=20->(b.foldl (λa x=>mw a x.1 x.2) a=[]<->a=[]/\b=[])/\Z (b.foldl (λa x=>mw a x.1 x.2) a)<=20
 |[],a,_,c=>by grind
 |x::b,a,h,c=>by
  have d:=WT b (mw a x.1 x.2) (by grind) (Ap c);grind[Ao]
theorem WU(h:∀x,sV (a7 x)):∀a:List K,we (a.map a7)
 |[]=>.nil
 |x::a=>.cons _ _ (h x) (WU h a)
theorem B5(h:∀b,sV (a7 b))(a:List K):NB (eS ab a7 a):=.sl _ (WU h a)
theorem WV(a:List aK):NB (eS ab cT a):=B5 (λb=>.cons _ _ (.str _) (.cons _ _ (.int _ _) (.cons _ _ (.int _ _) (.cons _ _ (.str _) .nil)))) a
theorem akX(a:List Lit):NB (eS ab (bg ab) a):=B5 (λb=>.cons _ _ (.int _ _) (.cons _ _ (.str _) (.cons _ _ (.int _ _) (.cons _ _ (WV _) (.cons _ _ (.str _) (.cons _ _ (.str _) (.cons _ _ (.int _ _) (.cons _ _ (.int _ _) (.cons _ _ (.int _ _) .nil))))))))) a
theorem WW(a:List (Int×Int)):NB (eS ab b3 a):=B5 (λb=>.cons _ _ (.int _ _) (.cons _ _ (.int _ _) .nil)) a
theorem akY(d:D)(a3:eA d):∃p,PR C 84 [.agg (cP ab T d)] p/\WR d p:=by
 apply afO.ex;simp only[eE,O,e4,fh,gy,bh,aJ,pb,e,aX,dR,e2];apply c (ait d a3 λr g1=>K9 r (a3.iU r g1));simp only[bI,O];have d8:∀l:List Obj,aM l .res (.agg [.aq,.aq,.aq,.aq]) (.agg [.sl ab [],.sl ab [],.sl ab [],.sl ab []]):=λl=>.agg _ _ _ (.ck (.aq _ _) (.ck (.aq _ _) (.ck (.aq _ _) (.ck (.aq _ _) (.nil _)))));have d6:bT [AV.sl ab [],.sl ab [],.sl ab [],.sl ab []]:=by
  have:∀M,Im (.sl M []):=λM=>.sl M [] .nil;simp[this]
 refine dw (λh=>?_) (λh=>?_);refine aI (dW:=[.aq,.aq,.aq,.aq]) rfl (aI (dW:=[I 1,I 0]) rfl (aY (dW:=.q 1 0 0 1) (oR:=[.arr 0 2 [],.arr 0 2 [[I 1,I 0]]]) rfl (aI (dW:=[.aq,.aq,.aq,.aq]) rfl ?_)));refine⟨.aB [.agg [.sl ab [],.sl ab [],.sl ab [],.sl ab []],eS ab b3 [(1,0)]],.aB _ _ _ (.ck (d8 _) (.ck ?_ (.nil _))),_,_,rfl,rfl,rfl,d6,?_,by simp⟩
 exact ic (x:=[((1:Int),(0:Int))]) (a7:=b3) (U:=2) (N:=0) rfl (by simp);constructor;grind;intro go;have:=go.1;grind;have H:=B4 h;refine c4 (akK d a3 (by have:=H.aw;omega) (by have:=H.aO;omega) (by have:=H.Q;omega) (λs f8=>(H.fn s f8).1)) rfl λi4 cb f1=>?_;obtain⟨U,N,V,F,m,id,h1,rfl,u,bm,w,v,x,J,co,hg,hh,hj⟩:=f1;simp only[fK,dj,eH,O];rw[iT (U:=4) rfl (by simp[w.cell,v.cell,x.cell]),O]
 simp only[u.ln,O,eU,G,i];have bad:∀(F:AV)(m:List (Int×Int))(l:List Obj)(id:Nat),mu l F id m->m≠[]->¬xd d->bd (mb [.aq,.aq,.aq,.aq] []) λem=>bd (dO 4 (.agg em)) λac=>∃p,aM l .res (.aB [(AV.pl (.agg [(g ac 0),(g ac 1),(g ac 2),(g ac 3)])),(AV.pl F)]) p/\WR d p:=by
  intro F m l id u S it;refine aI (dW:=[.aq,.aq,.aq,.aq]) rfl (aI (dW:=[.aq,.aq,.aq,.aq]) rfl ?_);rw[u.pl];exact⟨.aB [.agg [.sl ab [],.sl ab [],.sl ab [],.sl ab []],eS ab b3 m],.aB _ _ _ (.ck (d8 _) (.ck u.res (.nil _))),_,_,rfl,rfl,rfl,d6,by grind,λam=>absurd am S⟩
 refine b (λn=>?_) (λn=>?_);have S:m≠[]:=by
  rintro rfl;simp at n
 exact bad F m cb id u S (λP=>S (J.2 P.2.1));have aA:m=[]:=by
  simpa using n
 have cl:=J.1 aA;have gc:=co cl;subst gc;subst aA;refine aI (dW:=.aq) rfl ?_
 refine bG (K:=Nat×AV×List (Int×Int)×AV×List aD×List Obj×List AV) (λf=>[f.2.1,I f.1]++f.2.2.2.2.2.2++[U,N,V,f.2.2.2.1]) (λf=>f.2.2.2.2.2.1) (λf=>Z d.ak -f.1) (λf=>f.1<=Z d.ak/\mu f.2.2.2.2.2.1 f.2.1 id f.2.2.1/\Z f.2.2.1<=20/\Gr f.2.2.2.2.2.1 U (bp ab) 4 d.aw/\Gr f.2.2.2.2.2.1 N (λo:List AV=>o) 7 (d.aO.map λs=>xc ab (eP d s))/\Gr f.2.2.2.2.2.1 V (bO ab) 7 (d.Q.map (ew d))/\
  Gr f.2.2.2.2.2.1 f.2.2.2.1 (py ab) 9 f.2.2.2.2.1/\¬hU f.2.2.2.1 id/\(∀j,hU U j\/hU N j\/hU V j->¬hU f.2.2.2.1 j)/\Z f.2.2.2.2.1=f.1/\Z f.2.2.2.2.2.2=4/\(∀r∈f.2.2.2.2.1,pZ r)/\
  (f.2.2.1=[]<->∀r∈d.ak.take f.1,lE (eg d []) r)/\((∀r∈d.ak.take f.1,lE (eg d []) r)->f.2.2.2.2.1=(d.ak.take f.1).map (fi (eg d [])))) (0,F,[],.aq,[],cb,[.aq,.aq,.aq,.aq]) ⟨by simp,u,by simp,w,v,x,.inl ⟨rfl,rfl⟩,uD id,λ_ _=>uD _,rfl,rfl,by simp,by simp,by simp⟩ ?_
 clear u w v x J co n;rintro⟨z,F,m,hn,rl,l,d7⟩ ⟨gt,u,bm,w,v,x,R,a2,g3,ds,dl,g4,J,a0⟩ hu d4;simp only at gt u bm w v x R a2 g3 ds dl g4 J a0 d4⊢;obtain⟨g7,g8,g9,ha,rfl⟩:∃cc W Y X,d7=[cc,W,Y,X]:=by
  match d7,dl with
  |[cc,W,Y,X],_=>grind
 simp only[hG,dR,G,i,A,O,a];have iG:=H.ak;refine b (λn=>?_) (λn=>?_);have n:z<Z d.ak:=by simpa using n
 have d0:d.ak[z]∈d.ak:=bn n;have br:=H.iU _ d0;have f4:lE (eg d rl) d.ak[z]<->lE (eg d []) d.ak[z]:=akW;have f5:fi (eg d rl) d.ak[z]=fi (eg d []) d.ak[z]:=rfl;simp only[aE n (mP _ _),O,nF];obtain⟨p,d1,k,E,rfl,h3,f7,bv,i3,g5⟩:=akH (T:=true) (F:=true) (bC:=false) (eg d rl) d.ak[z] (by grind[WO,Sm]) (HO d rl) (a3.iU _ d0) (by have:=br.ai;omega) (λbD gU=>(br.lit bD gU).cmp)
  (λB el=>WM (WN H.a6) br B el)
 rw[f4]at f7 bv;rw[f5]at bv;refine eV _ d1 ?_ (.aB _ (.cons _ _ ?_ (.cons _ _ ?_ .nil))) ?_;refine .ck (.agg _ _ _ ?_) (.ck eu (.nil _));refine .ck (w.cd (by grind[WQ])) (.ck ?_ (.ck (x.cd (by grind[akU])) (.ck (R.cd (by grind[akV])) (.nil _))));have:=v.cd (a:=λo:List AV=>o) (M:=l);rcases v with⟨e0,be⟩|⟨g6,f0,be,fd⟩;rw[be];have:d.aO=[]:=by simpa using e0
 show aM l .cd .aq (eS ad (cm ad) (d.aO.map (eP d)));rw[this];exact .aq _ _;rw[be];refine .wc g6 f0 0 _ 7 _ _ fd (by simp) ?_;rw[lq,gT (by simp)];simp only[Jf];exact Mn (by grind[akS]);exact .agg _ (.cons _ _ (.str _) (.cons _ _ (.int _ _) (.cons _ _ (WV _) (.cons _ _ (.int _ _) (.cons _ _ (.str _) (.cons _ _ (.str _) (.cons _ _ (.int _ _) (.cons _ _ (akX _) (.cons _ _ (.int _ _) .nil)))))))))
 exact WW _;simp only[dj,eH,O,akE];have f9:=WT E m g5 bm;apply bG (K:=Nat×AV×List Obj) (λf=>[f.2.1,I f.1,g7,g8,g9,ha,U,N,V,hn]++py ab k) (λf=>f.2.2) (λf=>Z E -f.1) (λf=>f.1<=Z E/\mu f.2.2 f.2.1 id ((E.take f.1).foldl (λm o=>mw m o.1 o.2) m)/\vH id l f.2.2) (0,F,l) (by grind[vH.refl]);rintro⟨j,eq,ek⟩ ⟨y,L,bi⟩ hw d5;simp only at y L bi d5⊢
 have f3:py ab k=[.str k.au,I k.ah,eS ab cT k.af,I k.aj.ax,.str k.aj.au,.str k.aj.aF,I k.aj.aR,eS ab (bg ab) k.ai,I k.bb]:=rfl;simp only[f3,hG,dR,G,i,aX,A,O,a];refine b (λt=>?_) (λt=>?_);have t:j<Z E:=by simpa using t
 simp only[aE t (ub _),O,bh,aJ,F9,Ga,e];refine c4 (Al _ E[j].1 E[j].2 L) (by simp[L.pl]) λes a9 f2=>?_;rw[aZ,O];have hk:=d5 (j+1,es,a9) ⟨t,by grind[mV],bi.trans f2.2⟩ (by simp;omega);exact hk;have:j=Z E:=by simp at t;omega
 subst this;rw[dY]at L;have g2:(AV.agg [.str k.au,I k.ah,eS ab cT k.af,I k.aj.ax,.str k.aj.au,.str k.aj.aF,I k.aj.aR,eS ab (bg ab) k.ai,I k.bb])=.agg (py ab k):=rfl;rw[g2,vJ (U:=9) (row:=py ab k) rfl rfl,O];have a5:∀{p:AV},(¬hU p id)->∀(j:Nat)(K:Obj),hU p j->l[j]?=aa K->ek[j]?=aa K:=λip j K d1 g0=>bi j K (by grind) g0;have ge:=R.mono (a5 a2);have c1:=w.mono (a5 hg);have cs:=v.mono (a5 hh)
 have c2:=x.mono (a5 hj);let⟨d3,ci,a9,W,Y,X,ce,hx⟩:=ge.grow (bytes:=128) k (akD ab k) (by omega);refine aY W (aI rfl ?_);rw[aZ,O];have h4:=L.lt;have io:d3≠id:=by
  rcases ce with az|⟨-,az⟩;exactλam=>a2 (am▸az);omega
 have i2:∀j,hU U j\/hU N j\/hU V j->j≠d3:=by
  intro j y am;rcases ce with az|⟨-,az⟩;grind;rcases y with y|y|y;have:=c1.lt y;omega;have:=cs.lt y;omega;have:=c2.lt y;omega
 refine d4 (z+1,eq,_,_,rl++[k],a9,[_,_,_,_]) ⟨n,?_,f9.2,c1.mono (by grind),cs.mono (by grind),c2.mono (by grind),Y,by grind[sy],by grind[sy],by simp[ds],rfl,?_,?_,?_⟩ (by simp;omega);let⟨fy,hl,hm⟩:=L;exact⟨fy,hl,X id _ a2 hm⟩;grind;grind[List.take_succ_eq_append_getElem];intro o;rw[iy n]at o⊢;rw[a0 (by grind),bv (by grind),hJ]<;>rfl
 have:z=Z d.ak:=by simp at n;omega
 subst this;rw[dY]at J a0;simp only[u.ln,O,eU];have i0:xd d<->∀r∈d.ak,lE (eg d []) r:=⟨λP=>P.2.2,λP=>⟨h,cl,P⟩⟩;refine b (λt=>?_) (λt=>?_);have S:m≠[]:=by
  rintro rfl;simp at t
 grind;have aA:m=[]:=by simpa using t
 have f6:=J.1 aA;rw[iT (U:=4) rfl (by simp[w.cell,v.cell,x.cell,R.cell]),O];simp only[G,i];have d2:gN l (l++[.arr 0 2 []]):=gN.app _ _;have a4:∀{p:AV}(j:Nat)(K:Obj),hU p j->l[j]?=aa K->(l++[Obj.arr 0 2 []])[j]?=aa K:=by grind
 refine⟨.aB [.agg [eS ab (bp ab) d.aw,eS ab (λo:List AV=>o) (d.aO.map λs=>xc ab (eP d s)),eS ab (bO ab) (d.Q.map (ew d)),eS ab (py ab) rl],eS ab b3 []],.aB _ _ _ (.ck (.agg _ _ _ ?_) (.ck ?_ (.nil _))),_,_,rfl,rfl,rfl,?_,?_,λ_ hs=>?_⟩;refine .ck ((w.mono a4).res (by simp)) (.ck ((v.mono a4).res λo d2=>?_) (.ck ((x.mono a4).res (by simp)) (.ck ((R.mono a4).res (by simp)) (.nil _))))
 obtain⟨s,-,rfl⟩:=cy.1 d2;simp;exact ic (x:=([]:List (Int×Int))) (a7:=b3) (U:=2) (N:=0) (by simp) (by simp);have ii:Im (eS ab (λo:List AV=>o) (d.aO.map λs=>xc ab (eP d s))):=by
  refine .sl _ _ ?_;rw[Jf];exact(by grind[Ki,akI,eP])
 have i1:Im (eS ab (py ab) rl):=by simp[nE,akC]
 simp_all;grind;rw[a0 f6];refine .ck (tz (by grind[akQ])) (.ck ?_ (.ck (tz (by grind[akT])) (.ck (tz (by grind[akF])) (.nil _))));refine .CR ab _ _ ?_;simp only[Jf];exact Mn (by grind[akR])
open Classical in
theorem WX(a:D)(p:eA a):PR C 38 [.agg (cP ab T a)] (.bool (lh a)):=by
 apply afh.pr;obtain⟨z,u,q,n,rfl,o,r,y,s,t⟩:=akY (T:=T) a p;simp only[eE,O,gy];apply c u;simp only[fK,dj,eH,O];rw[iT o r,O];obtain⟨f,g,k,j,rfl⟩:∃f g k j,q=[f,g,k,j]:=by
  match q,o with
  |[f,g,k,j],_=>grind
 simp only[aX,c6,O,G,i,bz];have v:iY a<->xd a/\a=sA a:=by
  unfold iY xd sA;constructor;rintro⟨e,d,l,b⟩;exact⟨⟨e,d,l⟩,b⟩;rintro⟨⟨e,d,l⟩,b⟩;exact⟨e,d,l,b⟩
 refine aV (λh=>?_) (λh=>?_);have m:n=[]:=by simpa using h
 refine⟨.dm,_,_,by decide,?_,ail (T:=false) (F:=T) (bC:=true) (c8:=true) a (sA a) p,(λb=>by cases b),?_⟩;have:=t m;refine .ck eu (.ck (.agg _ _ _ ?_) (.nil _));grind;simp_all[lh];have m:n≠[]:=by
  rintro rfl;simp at h
 apply bK;rw[lh,decide_eq_false_iff_not,v];exactλh=>m (s.2 h.1)
theorem WY(h:iY V):kA V:=by
 have:=h.2.2.2;grind[HO]
theorem xe:lh V=ad<->iY V:=by simp[lh]
theorem k8(a:D)(b:List S)(d:eA a)(g:Sm b)(f:∀e∈b,dF e.af):PR C 8 [.agg (cP ab T a),eS F (cF bC) b] (.bool (lh a&&hR a b)):=by
 apply r8.pr;simp only[eE,O,gy,bz];refine c (WX a d) (aV (λh=>?_) (λh=>bK (by rw[h]<;>rfl)));exact c (VC a b d (WY (xe.1 h)) g f) (iW (by rw[h]<;>rfl))
def tA(a:D):List (List Int):=(eN (Z a.Q) (cQ a)).map (·.map b4)
theorem xf(a:Bool)(g:List Nat):eS a cN g=eS a cI (g.map b4):=by
 simp_all[eS,cN,cI]
def qe(b:D)(a:S):Bool:=match b.Q[a.ah.toNat]? with|aa c=>c.ek|ae=>ab
def Ei(a:Option (List S)):AV:=match a with|aa gs=>.aB [eS ab (cF ab) gs,I 0]|ae=>.aB [eS ab (cF ab) [],I 2]
def HP(a:Int):AV:=.aB [eS ab (cF ab) [],I a]
variable{cZ:cA}
theorem Mp:∀(k:Nat){done:Nat->Bool},∀g∈kE U cZ k done,Z g<=U
 |0,_,g,h=>by cases h
 |k+1,done,g,h=>by
  rw[kE]at h;split at h;cases h
  rename_i a _;rcases b6.1 h with rfl|h;grind;exact Mp k g h
theorem Mq{b:Nat}{a:cA}:∀(k:Nat){done:Nat->Bool},Z (kE b a k done)<=k
 |0,_=>by simp[kE]
 |k+1,done=>by
  rw[kE];split;simp;rename_i d _;have:=Mq (b:=b) (a:=a) k (done:=λc=>done c||cY a d c);grind
abbrev aL:=List (Nat×Obj)
def Holds(c:List Obj)(a:aL):Prop:=(a.map Prod.fst).Nodup/\∀b∈a,c[b.1]?=aa b.2
variable{k:aL}
theorem Holds.get(h:Holds M k)(a:(U,gF)∈k):M[U]?=aa gF:=h.2 _ a
variable{hK:Nat × Obj}
theorem Holds.lt(h:Holds M k)(a:hK∈k):hK.1<Z M:=(fH.1 (h.2 _ a)).1
variable{bo:aL}
theorem Holds.perm(h:Holds M k)(a:k.Perm bo):Holds M bo:=
 ⟨(a.map _).nodup_iff.1 h.1,λc b=>h.2 c (a.mem_iff.2 b)⟩
theorem Holds.set(h:Holds M ((U,gF)::k))(c:Obj):Holds (M.set U c) ((U,c)::k):=by
 have f:=h.lt (hK:=(U,gF)) (by simp);have d:=h.1;rw[ej,k0]at d;refine⟨by grind,λb a=>?_⟩;rcases b6.1 a with rfl|a;grind;have e:U≠b.1:=by grind
 rw[uS e];exact h.2 b (by simp[a])
theorem Holds.app(h:Holds M k)(b:List Obj):Holds (M++b) k:=
 ⟨h.1,λc a=>by rw[oG (h.lt a)];exact h.2 c a⟩
theorem Holds.alloc(h:Holds M k)(b:Obj):Holds (M++[b]) ((Z M,b)::k):=by
 refine⟨?_,λc a=>?_⟩;rw[ej,k0];refine⟨λd=>?_,h.1⟩;let⟨c,a,e⟩:=cy.1 d;have:=h.lt a;omega;rcases b6.1 a with rfl|a;simp;exact(h.app [b]).2 c a
theorem Holds.sub(h:Holds M (k++bo)):Holds M bo:=by
 refine⟨?_,λb a=>h.2 b (by simp[a])⟩;have:=h.1;grind
theorem Holds.tail(h:Holds M (hK::k)):Holds M k:=Holds.sub (k:=[hK]) h
variable{hL:aL}
theorem Holds.swap(h:Holds M (k++(bo++hL))):Holds M (bo++(k++hL)):=by
 apply h.perm;rw[<-ht,<-ht];exact Jg.append_right hL
theorem Holds.front(h:Holds M (hK::(k++bo))):Holds M (k++hK::bo):=Holds.swap (k:=[hK]) h
theorem Holds.back(h:Holds M (k++hK::bo)):Holds M (hK::(k++bo)):=Holds.swap (bo:=[hK]) h
def bB(c:AV)(d:K->List AV)(e:Nat)(a:List K)(b:aL):Prop:=(a=[]/\c=.aq/\b=[])\/∃id g,c=.q id g 0 (Z a)/\b=[(id,.arr g e (a.map d))]
theorem bB.gr(h:bB E a7 U x k)(c:Holds M (k++bo)):Gr M E a7 U x:=by
 rcases h with⟨a,b,-⟩|⟨id,g,a,rfl⟩;exact .inl ⟨a,b⟩;exact .inr ⟨id,g,a,c.get (by simp)⟩
theorem bB.pl(h:bB E a7 U x k):E.pl=E:=by
 rcases h with⟨-,h,-⟩|⟨id,g,h,-⟩<;>rw[h]<;>rfl
theorem bB.cell(h:bB E a7 U x k):E.bU=true:=by
 rcases h with⟨-,h,-⟩|⟨id,g,h,-⟩<;>rw[h]<;>rfl
theorem bB.ln(h:bB E a7 U x k)(a:List Obj):gu .sl E a=aa (I (Z x)):=by
 rcases h with⟨b,h,-⟩|⟨id,g,h,-⟩;simp_all;simp_all
theorem bB.nil(a:K->List AV)(b:Nat):bB .aq a b [] []:=.inl ⟨rfl,rfl,rfl⟩
theorem bB.app{bytes:Nat}{F:aL}(h:bB E a7 U x k)(d:Holds M (k++F))(a:K)(e:Z (a7 a)=U)(i:(Z x+1)*bytes<=2^47):
 ∃id g b,cJ U bytes E (.sl ab [a7 a]) M=aa (.q id g 0 (Z (x++[a])),b)/\Holds b ((id,.arr g U ((x++[a]).map a7))::F):=by
 rcases h with⟨rfl,rfl,rfl⟩|⟨id,g,rfl,rfl⟩;refine⟨Z M,0,M++[.arr 0 U [a7 a]],?_,?_⟩;exact pe (a7:=a7) (x:=[a]) rfl (by simp[h6,e]) (by omega);grind[Holds.alloc];have c:=d.get (U:=id) (gF:=.arr g U (x.map a7)) (by simp);have j:=(fH.1 c).1;have f:a1 M id U a7 g x=M:=by
  let⟨l,m⟩:=fH.1 c;simp only[a1];rw[<-m];exact zb l
 have ap:=p2 (M:=M) (id:=id) (U:=U) (bytes:=bytes) (N:=g) (a7:=a7) (x:=x) a j e i;rw[f]at ap;exact⟨id,g+1,_,ap,Holds.set (k:=F) d _⟩
theorem bB.of{id g:Nat}:bB (.q id g 0 (Z x)) a7 U x [(id,.arr g U (x.map a7))]:=.inr ⟨id,g,rfl,rfl⟩
theorem gA{id off:Nat}(h:M[id]?=aa (.arr 0 U [bF]))(a:bF[off]?=aa E):aQ 1 ab (.ptr id 0 0 off) M=aa E:=by
 grind[c0]
theorem lF{id off:Nat}(h:M[id]?=aa (.arr 0 U [bF]))(c:Z bF=U)(d:off<U)(e:E.pl=E)(b:E.bU=ad):du 1 (.ptr id 0 0 off) E M=aa (M.set id (.arr 0 U [bF.set off E])):=by
 have a:e3 bF off [E]=bF.set off E:=by
  simp only[e3,jY];rw[aa8,if_pos (by omega)];simp
 have f:E.cells=[E]:=by
  cases E<;>first|rfl|grind[AV.bU]
 grind[du]
theorem hV{id off:Nat}(h:M[id]?=aa (.arr 0 U b1)):iL (.ptr id 0 0 off) M=aa (.ptr id 0 0 off):=by simp[iL,dK,h]
theorem eF{id off:Nat}(h:M[id]?=aa (.arr 0 U b1)):dK N (.ptr id 0 0 off) M=aa (.ptr id 0 0 (off+N)):=pg h
theorem akZ(d e:List Int)(l:Sm d):PR C 151 [eS T cI d,eS F cI e] (.bool (y (d=e))):=by
 apply ae5.pr;simp only[aX,O,cv];refine b (λh=>bK ?_) (λh=>?_);grind;have p:Z d=Z e:=by
  simp only[bne_eq_false_iff_eq]at h;omega
 refine eB (U:=Z d) (c:=λc=>[ff,I c]) (λc=>d.take c=e.take c) (by simp) rfl (λc f m g o=>?_) (λm g=>?_);have k:c<Z e:=by omega
 simp only[i,G,A,O,a,f,decide_true,aE f (jh _),aE k (jh _),aJ,lN,cv];refine a8 (b (λj=>bK ?_) (λj=>?_));grind;rw[l.inc f,O];grind[Uu];simp only[i,G,A,O,a,cn,decide_false];refine bw (jk ?_);grind
def vK(a b:Lit):Bool:=a.ah==b.ah&&a.iG==b.iG
def xg(a b:aD):Bool:=a.ah==b.ah&&y (a.aj=b.aj)&&((Z a.ai:Int)==Z b.ai&&(ay (Z a.ai)).all λc=>match a.ai[c]?,b.ai[c]? with|aa d,aa e=>vK d e|_,_=>ad)
def Ej(a c:List aD):Bool:=(Z a:Int)==Z c&&(ay (Z a)).all λb=>match a[b]?,c[b]? with|aa d,aa e=>xg d e|_,_=>ad
theorem ak0(a b:Lit):PR C 155 [.agg (bg T a),.agg (bg F b)] (.bool (vK a b)):=by
 apply R1.pr;simp only[rU,O,bh,aJ,zE,QU,e,c6,bz,G];exact aV (by simp_all[vK]) (by simp_all[vK])
theorem ak1(e g:List Lit)(s:Sm e):PR C 154 [eS T (bg T) e,eS F (bg F) g,.fn 155 [] []] (.bool ((Z e:Int)==Z g&&(ay (Z e)).all λd=>match e[d]?,g[d]? with|aa j,aa k=>vK j k|_,_=>ad)):=by
 apply Tz.pr;simp only[aX,O,cv];refine b (λh=>bK ?_) (λh=>?_);grind;have t:Z e=Z g:=by
  simp only[bne_eq_false_iff_eq]at h;omega
 have p:((Z e:Int)==Z g)=true:=by simp[t]
 rw[p,c3];refine eB (U:=Z e) (c:=λd=>[ff,I d]) (λd=>((ay d).all λd=>match e[d]?,g[d]? with|aa j,aa k=>vK j k|_,_=>ad)=ad) (by simp) rfl (λd l n o w=>?_) (λn o=>?_);have r:d<Z g:=by omega
 have v:∀(m:Bool)(f:Lit),[AV.int .i64 f.ax,.str f.au,I f.ah,eS m cT f.af,.str f.bind,.str f.aj,I f.iG,I f.op,I f.bb]=bg m f:=λ_ _=>rfl;simp only[i,G,A,O,a,l,decide_true,aE l (jC _ _),aE r (jC _ _),o8,yc,wG,wH,yp,wI,wJ,wK,yq,wL,wM];refine a8 (aY (dW:=155) (oR:=[.agg (bg T e[d]),.agg (bg F g[d])]) rfl ?_);apply c (ak0 e[d] g[d]);simp only[bI,O];refine dw (λq=>bK ?_) (λq=>?_)
 grind[zX,List.getElem?_eq_getElem];rw[s.inc l,O];grind;simp only[i,G,A,O,a,cn,decide_false];exact bw (jk n)
theorem ak2(b c:pV):aT (.a 4 [0,1,1,0]) .eql (.agg (n9 b)) (.agg (n9 c))=aa (.bool (y (b=c))):=by
 simp
theorem ak3(a b:aD)(f:Sm a.ai):PR C 153 [.agg (aS T a),.agg (aS F b)] (.bool (xg a b)):=by
 apply Sl.pr;simp only[o9,O,bh,aJ,QJ,Bo,qN,e,c6,bz,G,ak2];refine aV (λh=>aV (λd=>?_) (by simp_all[xg])) (by simp_all[xg]);exact c (ak1 a.ai b.ai f) (iW (by rw[xg,h,d]<;>rfl))
theorem ak4(e f:List aD)(p:Sm e)(s:∀r∈e,Sm r.ai):PR C 152 [eS bC (aS T) e,eS c8 (aS F) f,.fn 153 [] []] (.bool (Ej e f)):=by
 apply SF.pr;simp only[aX,O,cv];refine b (λh=>bK ?_) (λh=>?_);grind[Ej];have q:Z e=Z f:=by
  simp only[bne_eq_false_iff_eq]at h;omega
 have m:((Z e:Int)==Z f)=true:=by simp[q]
 rw[Ej,m,c3];refine eB (U:=Z e) (c:=λd=>[ff,I d]) (λd=>((ay d).all λd=>match e[d]?,f[d]? with|aa j,aa bC=>xg j bC|_,_=>ad)=ad) (by simp) rfl (λd g k l u=>?_) (λk l=>?_);have o:d<Z f:=by omega
 simp only[i,G,A,O,a,g,decide_true,aE g (mP _ _),aE o (mP _ _),nF,yd,vh,wN,vi,vj,vk,vl,wO,vm,uj];refine a8 (aY (dW:=153) (oR:=[.agg (aS T e[d]),.agg (aS F f[d])]) rfl ?_);apply c (ak3 e[d] f[d] (s _ (bn g)));simp only[bI,O];refine dw (λn=>bK ?_) (λn=>?_);grind[zX,List.getElem?_eq_getElem];rw[p.inc g,O];grind;simp only[i,G,A,O,a,cn,decide_false];exact bw (jk k)
theorem WZ(d:cO)(c:List aK)(x:Sm c):∃f:Int,PR C 315 [.agg (bO T d),eS F cT c] (I f)/\(f=0<->nQ d c=ad):=by
 have key:∃u o,C 315 [.agg (bO T d),eS F cT c] [] u o/\∃f:Int,aM o .res u (I f)/\(f=0<->nQ d c=ad):=by
  apply TK.hq;simp only[F8,O,aX,bh,aJ,wx,e,cv];refine b (λh=>?_) (λh=>?_);refine⟨71,jS rfl,?_⟩;have:((Z c:Int)==Z d.a6)=false:=by
   simp only[bne_iff_ne,ne_eq]at h;simpa using h
  simp[nQ,this];have y:Z c=Z d.a6:=by
   simp only[bne_eq_false_iff_eq]at h;omega
  have z:nQ d c=(ay (Z c)).all (vF d c):=by
   have:((Z c:Int)==Z d.a6)=true:=by simp[y]
   rw[nQ,this,c3]
  rw[z];refine eB (U:=Z c) (c:=λj=>[I 0,I j]) (λj=>(ay j).all (vF d c)=ad) (by simp) rfl (λj l t p E=>?_) (λt p=>?_);have r:j<Z d.a6:=by omega
  have D:=Ws (oS:=d) l r;have v:∀k:aK,g (cT k) 0=.str k.aF:=λ_=>rfl;have w:∀k:aK,g (cT k) 1=I k.const.ty:=λ_=>rfl;simp only[i,G,A,O,a,l,decide_true,aE l (kt _),lM,ya,v,w,gW,aE r (jh _),aJ,lN,cv,bz];have q:∀n:Bool,n= !vF d c j->ez (.bool n) (∃f,aM [] .res (AV.pl (I 72)) (I f)/\(f=0<->(ay (Z c)).all (vF d c)=ad)) (bd (aT .s .add (I j) (I 1)) λB=>p [I 0,B] []):=by
   rintro n rfl;refine dw (λm=>⟨72,jS rfl,?_⟩) (λm=>?_);grind;rw[x.inc l,O];grind
  refine a8 (aV (λm=>q _ ?_) (λm=>q _ ?_));grind;grind;simp only[i,G,A,O,a,cn,decide_false];exact bw ⟨0,jS rfl,by simp[t]⟩
 grind[Ko]
theorem Ek{bytes:Nat}{h:K->List AV}(m:∀b,bT (h b))(o:∀b,Z (h b)=N)(a:List K)(l:Z a*bytes<=2^47)
 (k:∀T c,C U [.sl T []] c (.q (Z c+1) 0 0 0) (c++[.arr 0 N [],.arr 0 N []]))
 (j:dX U [eS T h a] (λf Q=>cq (fh N f) λ_ d=>bd (aT .n .eql (eS T h a) .aq) λp=>ez p (cq (fh N d) λr g=>Q (AV.pl r) g) (cq (cJ N bytes .dL (eS T h a) d) λs i=>Q (AV.pl s) i))):PR C U [eS T h a] (eS ab h a):=by
 rcases a with _|⟨b,a⟩;have:=k T [];exact⟨_,_,this,ic (x:=([]:List K)) (a7:=h) (U:=N) (N:=0) rfl (by simp)⟩;apply j.pr rfl;simp only[fh,e4];apply aI (dW:=ff) rfl;simp only[c5,e6,if_false];apply aY (pe (a7:=h) (x:=b::a) rfl (uk o _ _ _) l);exact ic (id:=1) (U:=N) (N:=0) (by simp) λt _=>m t
theorem e8.Mr(b:e8 C)(a:List d)(c:Sm a):PR C 267 [eS T cS a] (eS ab cS a):=Ek (bytes:=16) Qx iS a (by grind[Sm]) (b.BB 267 1 (by simp[wE])) aee
theorem e8.ak5(b:e8 C)(a:List Int)(c:Sm a):PR C 124 [eS T cI a] (eS ab cI a):=Ek (bytes:=8) Qw jh a (by grind[Sm]) (b.BB 124 1 (by simp[wE])) RZ
theorem e8.ak6(b:e8 C)(a:List (Int×Int))(c:Sm a):PR C 268 [eS T b3 a] (eS ab b3 a):=Ek (bytes:=16) Qy ub a (by grind[Sm]) (b.BB 268 2 (by simp[wE])) aef
theorem e8.W0(b:e8 C)(a:List aK)(c:Z a<=1000000):PR C 271 [eS T cT a] (eS ab cT a):=Ek (bytes:=48) QA kt a (by omega) (b.BB 271 4 (by simp[wE])) Sa
theorem e8.ak7(b:e8 C)(a:List aG)(c:Z a<=1000000):PR C 118 [eS T cV a] (eS ab cV a):=Ek (bytes:=32) Qz s4 a (by omega) (b.BB 118 3 (by simp[wE])) ae1
theorem e8.ak8(c:e8 C)(a:List Lit)(g:Z a<=1000000)(b:List Obj):C 272 [eS T (bg F) a] b (.q (Z b+1) 0 0 (Z a)) (b++[.arr 0 9 [],.arr 0 9 (a.map (bg F))]):=by
 rcases a with _|⟨d,a⟩;exact c.BB 272 9 (by simp[wE]) T b;apply SP.hr;simp only[fh,e4];apply aI (dW:=ff) rfl;simp only[c5,e6,if_false];refine aY (pe (a7:=bg F) (x:=d::a) rfl (uk (jC F) _ _ _) (by omega)) ⟨by simp,by simp⟩
theorem W1:p.contains bL=y (0<=bV p bL):=by
 have h:=GU (p:=p) (bL:=bL);rw[iA]at h⊢;simp only[decide_eq_true_eq,hv,decide_eq_false_iff_not,Fk]at h⊢;grind[bV]
theorem Ms(c:List d)(a:d):b2 (a==·) c=bV c a:=by
 have:(λb=>a==b)=λb:d=>b==a:=by funext b;rw[iA,beq_iff_eq,beq_iff_eq];exact eq_comm
 grind[bV]
theorem ak9(h:U<Z p):(bV p p[U]==(U:Int))= !(p.take U).contains p[U]:=by
 rw[iA];simp only[beq_iff_eq,hv,Fk,decide_eq_false_iff_not];rcases sq (λe=>e==p[U]) p with⟨c,o,a,b⟩|⟨a,b⟩;have a:bV p p[U]=c:=a;rw[a];have q:p[c]=p[U]:=by
  have:=Jh b;simpa using this
 constructor;intro f j;have f:c=U:=by omega
 subst f;let⟨k,i,g⟩:=kg.1 j;rw[h0]at i;rw[Fj]at g;rw[aa0]at b;let⟨_,r,n,l,m⟩:=b;have:b2 (λe=>e==p[c]) p=k\/True:=.inr trivial;grind[List.getElem?_eq_getElem,Option.some.injEq,b2,List.findIdx?_eq_some_iff_getElem,Nat.lt_or_ge];grind[Nat.lt_trichotomy,List.mem_iff_getElem,List.length_take,b2,List.findIdx?_eq_some_iff_getElem];grind
theorem ala(f:bQ)(d:Fn)(r:lP f)(u:zM d)(a2:Z d.src=Z d.dst):
 ∃t,PR C 270 [.agg (bp T f),.agg (cm F d)] t/\∃k,t=.aB [eS ab cI (if fG f d=ad then fM f d else[]),I k]/\(k=0<->fG f d=ad):=by
 refine aeg.ex ?_;simp only[mQ,F7,O,e4,fh,bh,aJ,pa,Dt,Du,e,aX,jj,dR,e2];have bad:∀(k:Int)(w:List Obj),k≠0->fG f d=ab->∃t,aM (w++[.arr 0 1 []]) .res (.aB [(AV.q (Z w) 0 0 0).pl,(I k).pl]) t/\∃k,t=.aB [eS ab cI (if fG f d=ad then fM f d else[]),I k]/\(k=0<->fG f d=ad):=by
  intro k w aF U;refine⟨.aB [eS ab cI [],I k],.aB _ _ _ (.ck ?_ (.ck (.int _ _ _) (.nil _))),k,by rw[U]<;>rfl,by grind⟩;exact ic (x:=([]:List Int)) (U:=1) (by simp) (by simp)
 have a3:∀j:Int,y (j<0)= !y (0<=j):=by grind
 refine eB (U:=Z d.src) (c:=λg=>[.q 0 0 0 0,I 0,I g]) (λg=>((ay g).all λg=>y (0<=bV f.az (d.src.getD g []))&&y (0<=bV f.az (d.dst.getD g [])))=ad) (by simp) rfl (λg l J x X=>?_) (λJ x=>?_);have E:g<Z d.dst:=by omega
 have S:(y (0<=bV f.az (d.src.getD g []))&&y (0<=bV f.az (d.dst.getD g [])))=(y (0<=bV f.az d.src[g])&&y (0<=bV f.az d.dst[g])):=by
  simp only[oK,bq l,bq E,nr]
 have a6:((y (0<=bV f.az (d.src.getD g []))&&y (0<=bV f.az (d.dst.getD g [])))=ab)->fG f d=false:=by
  intro h;unfold fG;rw[zX l h];simp
 simp only[i,G,A,O,a,l,decide_true,aE l (iS _),aJ,lO,bz];refine a8 (c (yj f.az d.src[g] r.1) ?_);rw[W1];simp only[bI,O];refine ib (λQ=>?_) (λQ=>?_);simp only[aE E (iS _),O,aJ,lO];refine c (yj f.az d.dst[g] r.1) ?_;rw[W1];simp only[bI,O];refine dw (λn=>?_) (λn=>?_);exact bad 70 [.arr 0 1 []] (by omega) (by grind);rw[u.1.inc l,O];grind[DZ];simp only[c5,if_true]
 exact bad 70 [.arr 0 1 []] (by omega) (by grind);simp only[i,G,A,O,a,cn,decide_false];refine bw ?_;have am:fG f d=(((ay (Z d.src)).all λg=>bV d.src (d.src.getD g [])==(g:Int))&&(f.az.all λj=>y (0<=bV d.src j))&&ot f (fM f d)):=by
  unfold fG;rw[J,c3]
 refine eB (U:=Z d.src) (c:=λg=>[.q 0 0 0 0,I 0,I g]) (λg=>((ay g).all λg=>bV d.src (d.src.getD g [])==(g:Int))=ad) (by simp) rfl (λg l K N X=>?_) (λK N=>?_);have S:(bV d.src (d.src.getD g [])==(g:Int))= !(d.src.take g).contains d.src[g]:=by
  simp only[oK,bq l,nr];exact ak9 l
 simp only[i,G,A,O,a,l,decide_true,aE l (iS _),aJ,lO];refine a8 ?_;rw[Hj iS (aaZ l),O];refine c (yj (d.src.take g) d.src[g] (by have:=u.1;grind[Sm])) ?_;refine b (λn=>?_) (λn=>?_);refine bad 5 [.arr 0 1 []] (by omega) ?_;grind;rw[u.1.inc l,O];grind;simp only[i,G,A,O,a,cn,decide_false];refine bw ?_;have M:fG f d=((f.az.all λj=>y (0<=bV d.src j))&&ot f (fM f d)):=by
  rw[am,K,c3]
 simp only[jY,hG,dR];refine bG (λm=>[.q 0 0 0 0,I 0,.q 1 m.2 0 m.1,I m.1]) (λm=>a1 [.arr 0 1 [],.arr 0 1 []] 1 1 cI m.2 ((f.az.take m.1).map λj=>bV f.az (d.dst.getD (bV d.src j).toNat []))) (λm=>Z f.az -m.1) (λm=>m.1<=Z f.az/\(f.az.take m.1).all (λj=>y (0<=bV d.src j))=ad) (0,0) ⟨by simp,by simp⟩ ?_ rfl (by simp[a1]);rintro⟨g,p⟩ ⟨l,B⟩ P aj;have ah:=r.1;unfold Sm at ah;simp only[i,G,A,O,a]
 have ac:1<Z ([.arr 0 1 [],.arr 0 1 []]:List Obj):=by simp
 refine b (λh=>?_) (λh=>?_);have h:g<Z f.az:=by simpa using h
 simp only[aE h (iS _),O,aJ,lO];refine c (GK d.src f.az[g] u.1) ?_;rw[Ms];simp only[A,O];refine b (λn=>?_) (λn=>?_);have n:bV d.src f.az[g]<0:=by simpa using n
 have W:fG f d=false:=by
  have V:y (0<=bV d.src f.az[g])=false:=by simp;omega
  rw[M,yr h V]<;>rfl
 exact bad 71 (a1 [.arr 0 1 [],.arr 0 1 []] 1 1 cI p ((f.az.take g).map λj=>bV f.az (d.dst.getD (bV d.src j).toNat []))) (by omega) W;have n:0<=bV d.src f.az[g]:=by simpa using n
 obtain⟨o,v,aR⟩:∃o:Nat,bV d.src f.az[g]=o/\o<Z d.src:=by
  rcases sq (λj=>j==f.az[g]) d.src with⟨o,v,z,-⟩|⟨z,-⟩;exact⟨o,z,v⟩;grind[bV]
 have H:o<Z d.dst:=by omega
 rw[v];simp only[aE H (iS _),O,aJ,lO];refine c (GK f.az d.dst[o] r.1) ?_;rw[Ms,GV,O];have a0:Z ((f.az.take g).map λj=>bV f.az (d.dst.getD (bV d.src j).toNat []))=g:=by simp;omega
 have ap:=UD (U:=p) (ct:=(f.az.take g).map λj=>bV f.az (d.dst.getD (bV d.src j).toNat [])) (f:=bV f.az d.dst[o]) (iC:=λau R=>bd (aT .s .add (I g) (I 1)) λax=>P [.q 0 0 0 0,I 0,au,ax] R) ac (by omega) ?_;grind;rw[aZ,O];have af:((f.az.take g).map λj=>bV f.az (d.dst.getD (bV d.src j).toNat []))++[bV f.az d.dst[o]]=(f.az.take (g+1)).map λj=>bV f.az (d.dst.getD (bV d.src j).toNat []):=by
  rw[iy h,hJ];simp only[ej,ns,v,eR,oK,bq H,nr]
 rw[af];have Y:Z ((f.az.take (g+1)).map λj=>bV f.az (d.dst.getD (bV d.src j).toNat []))=g+1:=by simp;omega
 rw[Y];refine aj (g+1,p+1) ⟨h,?_⟩ (by simp;omega);grind[oi];have:g=Z f.az:=by simp at h;omega
 subst this;rw[dY]at B⊢;have a5:fG f d=ot f (fM f d):=by rw[M,B,c3]
 have ai:(f.az.map λj=>bV f.az (d.dst.getD (bV d.src j).toNat []))=fM f d:=rfl;have L:Z (fM f d)=Z f.az:=by simp[fM]
 rw[ai];have D:(a1 [.arr 0 1 [],.arr 0 1 []] 1 1 cI p (fM f d))[1]?=aa (.arr p 1 ((fM f d).map cI)):=rfl;refine eV _ (ajv (F:=true) f (fM f d) r (by grind[Sm])) (.ck eu (.ck ?_ (.nil _))) (.bool _) ?_;rw[<-L];exact om D (by simp);simp only[bI,O];refine dw (λn=>?_) (λn=>?_);simp_all;refine⟨.aB [eS ab cI (fM f d),I 0],.aB _ _ _ (.ck ?_ (.ck (.int _ _ _) (.nil _))),0,by grind,by grind⟩;rw[<-L]
 exact ic D (by simp)
abbrev hB:=List (d×Nat)
def q4(a:hB):List AV:=a.map λb=>.str b.1
def uF(a:hB):List AV:=a.map λb=>I (b.2:Int)
def cg(a:hB):Obj:=.mp ad (q4 a) (uF a)
def Mt(a:hB):AV:=.il (q4 a) (uF a)
def pz(b:hB)(c:d):Int:=match b.find? (λa=>a.1==c)with|aa a=>a.2|ae=> -1
def sB(a:hB)(b:d)(c:Nat):hB:=if(a.map Prod.fst).contains b=ad then a else a++[(b,c)]
theorem HQ(a:hB):q4 a=iX (a.map Prod.fst):=by simp[q4,iX]
theorem alb(a:hB)(b:d):(a.map Prod.fst).findIdx? (b==·)=a.findIdx? λc=>c.1==b:=by
 rw[List.findIdx?_map]
 congr 1
 grind
variable{iE:hB}
theorem El(a:d)(h:mf M E=aa (q4 iE,uF iE)):∃f:Int,iM ⟨ab,1,[1]⟩ (I 0) ad E (.str a) M=aa (.aB [I f,.bool ((iE.map Prod.fst).contains a)])/\((iE.map Prod.fst).contains a=ad->f=pz iE a):=by
 have g:(⟨ab,1,[1]⟩:KD)=sf:=rfl;rw[g];simp only[iM,h,th,oJ,if_true];rw[HQ,ti,alb];have i:(iE.map Prod.fst).contains a=(iE.findIdx? λb=>b.1==a).isSome:=by
  rw[List.findIdx?_isSome,iA];simp only[Fk,decide_eq_true_eq,cy,Jd,beq_iff_eq]
 cases e:iE.findIdx? λb=>b.1==a with
 |none=>
  simp_all
 |some c=>
  rw[e]at i;let⟨k,m,l⟩:=qt.1 e;refine⟨iE[c].2,?_,λ_=>?_⟩;grind[uF];have:iE.find? (λb=>b.1==a)=aa iE[c]:=by
   rw[aa0];exact⟨m,c,k,rfl,λn j=>by simpa using l n j⟩
  rw[pz,this]
theorem alc{id:Nat}(a:d)(c:Nat)(h:M[id]?=aa (cg iE))(b:(iE.map Prod.fst).contains a=ab):jP ⟨ab,1,[1]⟩ (.b8 id) (.str a) (I (c:Int)) M=aa (M.set id (cg (iE++[(a,c)]))):=by
 have e:(⟨ab,1,[1]⟩:KD)=sf:=rfl;rw[e];simp only[jP,h,cg,zy,th,oJ,if_true];rw[HQ,ti];have:(iE.map Prod.fst).findIdx? (a==·)=none:=by
  rw[y8];intro g f;rw[beq_eq_false_iff_ne];rintro rfl;simp only[Fk,decide_eq_false_iff_not]at b;exact b f
 rw[this];simp[q4,uF,iX,Fb]
theorem W2(b:K->Int):∀a:List K,bT (a.map λx=>I (b x))
 |[]=>.nil
 |x::a=>.cons _ _ (.int _ _) (W2 b a)
theorem Em{id:Nat}(h:M[id]?=aa (cg iE)):aM M .cd (.b8 id) (Mt iE):=by
 have a:bT (q4 iE):=by rw[HQ];exact vo _
 have b:bT (uF iE):=W2 _ iE;exact .xP id ad _ _ _ _ h a.snap b.snap
theorem ald:(iE.map Prod.fst).contains bL=ad<->0<=pz iE bL:=by
 grind[pz]
theorem En(a:hB)(c:d):PR C 269 [Mt a,.str c] (I (pz a c)):=by
 apply SO.pr;let⟨i,e,g⟩:=El (E:=Mt a) (M:=[]) c rfl;simp only[e,fK,dj,eH,O];refine b (by grind[jS]) (λh=>jS ?_);grind[pz]
theorem ale:pz (sB iE bL U) mG=if(iE.map Prod.fst).contains mG=ad then pz iE mG else if bL=mG then(U:Int)else -1:=by
 unfold sB;grind[pz]
def HS(c b g h:AV)(d e f:Nat)(a:AV):List AV:=[c,b,g,h,.b8 d,.b8 e,.b8 f,a]
def fW(c b g h:AV)(d e f:Nat)(a:AV):Obj:=.arr 0 8 [HS c b g h d e f a]
def oC(a:List (Int×Int))(b c:Int):List (Int×Int):=if b=0 then a else a++[(b,c)]
theorem B6:oC ey f ca=[]<->ey=[]/\f=0:=by
 unfold oC;split;grind;simp_all
theorem B7:Z (oC ey f ca)<=Z ey+1:=by grind[oC]
variable{dG oM oT oP:AV}
theorem alf(d:List (Int×Int))(a c:Int)(t:bB oP b3 2 d k)(A:Z d<1000000)(n:Holds M ((U,fW E dG oM oT N z dp oP)::(k++bo))):
 HR C 264 [.ptr U 0 0 0,I a,I c] M (λr o=>r=.aB []/\∃l j,bB l b3 2 (oC d a c) j/\Holds o ((U,fW E dG oM oT N z dp l)::(j++bo))):=by
 apply Tf.hq;simp only[cv,O];refine b (λh=>?_) (λh=>?_);have s:a≠0:=by simpa using h
 have f:=n.get (U:=U) (gF:=fW E dG oM oT N z dp oP) (by simp);have v:aQ 1 ab (.ptr U 0 0 7) M=aa oP:=gA f rfl;simp only[hV f,eF f,O,e,v,wU,yv];let⟨id,g,x,p,m⟩:=t.app (bytes:=16) n.front (a,c) rfl (by omega);apply aY p;have i:=m.get (U:=U) (gF:=fW E dG oM oT N z dp oP) (by simp);simp only[hV i,eF i,O,e]
 refine aI (lF i rfl (by omega) rfl rfl) ⟨trivial,.q id g 0 (Z (d++[(a,c)])),[(id,.arr g 2 ((d++[(a,c)]).map b3))],?_,?_⟩;rw[oC,if_neg s];exact bB.of;exact(Holds.back (k:=[(id,.arr g 2 ((d++[(a,c)]).map b3))]) m).set _;grind[oC]
theorem Mu(a:hB)(c:d)(f:Nat)(g:Int)(e:Holds M ((U,cg a)::k)):
 HR C 265 [.b8 U,.str c,I (f:Int),I g] M (λr j=>r=I (if(a.map Prod.fst).contains c=ad then 5 else g)/\Holds j ((U,cg (sB a c f))::k)):=by
 apply Tg.hq;have i:=e.get (U:=U) (gF:=cg a) (by simp);let⟨m,l,n⟩:=El (E:=.b8 U) (iE:=a) (M:=M) c (by simp[mf,i,cg]);simp only[l,fK,dj,eH,O];refine b (λh=>?_) (λh=>?_);rw[if_pos h,sB,if_pos h];exact⟨rfl,e⟩;rw[if_neg (by grind),sB,if_neg (by grind)];refine aI (alc c f i h) ⟨rfl,e.set _⟩
theorem W3(a:List bQ)(b:Nat)(h:b<Z a)(f:d)(i:lP a[b]):PR C 316 [.aH ad (eS ad (bp ad) a::bF) 0,I (b:Int),.str f] (I (bV a[b].az f)):=by
 apply aff.pr;have j:∀g,iL (.aH ad (eS ad (bp ad) a::bF) 0) g=aa (.aH ad (eS ad (bp ad) a::bF) 0):=λ_=>rfl;simp only[j,O,bh,aJ,dj,e,aE h (kK _ _),pa];apply c (GK a[b].az f i.1);rw[Ms];simp
theorem alg{a:List bQ}(b:M[U]?=aa (fW E dG oM oT N z dp oP))(c:Gr M E (bp T) 4 a):aM M .cd (.ptr U 0 0 0) (.aH ad [eS ad (bp ad) a,.undef,.undef,.undef,.undef,.undef,.undef,.undef] 0):=
 .o2 U 0 0 0 8 _ _ _ b rfl (.ck (c.cd λd _=>WQ T d) (.ck (.undef _ _) (.ck (.undef _ _) (.ck (.undef _ _) (.ck (.undef _ _) (.ck (.undef _ _) (.ck (.undef _ _) (.ck (.undef _ _) (.nil _)))))))))
theorem Ar(b:K->Bool)(a:List K): -1<=b2 b a/\b2 b a<Z a:=by
 grind[sq]
variable{lx:List K}
theorem W4:b2 ee (x++lx)=if 0<=b2 ee x then b2 ee x else if 0<=b2 ee lx then b2 ee lx+Z x else -1:=by
 grind[b2]
theorem alh(h:U<Z x):b2 ee (x.take (U+1))=if 0<=b2 ee (x.take U)then b2 ee (x.take U)else if ee x[U]=ad then(U:Int)else -1:=by
 rw[iy h,W4];grind[b2]
theorem ali(h:U<Z x)(e:ee x[U]=ad):(b2 ee x==(U:Int))= !y (0<=b2 ee (x.take U)):=by
 have a:x=x.take U++x.drop U:=by simp
 have b:b2 ee x=b2 ee (x.take U++x.drop U):=by rw[<-a]
 rw[b,W4];have d:Z (x.take U)=U:=by rw[h0];omega
 have c:=Ar ee (x.take U);rw[d]at c;have g:b2 ee (x.drop U)=0:=by
  rw[oI h,b2,Fe,e]<;>rfl
 by_cases f:0<=b2 ee (x.take U);grind;grind
def oD(e:K->d)(b:List K)(c:hB):Prop:=∀a,pz c a=b2 (λf=>e f==a) b
theorem oD.step{a:K->d}(h:U<Z x)(b:oD a (x.take U) iE):oD a (x.take (U+1)) (sB iE (a x[U]) U):=by
 intro c;rw[ale,alh h,<-b c];grind[pz]
theorem oD.has{a:K->d}(h:U<Z x)(b:oD a (x.take U) iE):(iE.map Prod.fst).contains (a x[U])= !(b2 (λc=>a c==a x[U]) x==(U:Int)):=by
 rw[ali h (by simp),Ff,<-b,iA,ald];simp
def bf(i a b c:Nat)(l k p q j:AV)(m n o:hB)(e g f h d:aL):aL:=
 (i,fW l k p q a b c j)::(e++((a,cg m)::(b,cg n)::(c,cg o)::(g++(f++(h++d)))))
variable{iD:List Obj -> Prop}
section
variable{H:List Obj}{S m1 m2 m3:Nat}{lv fv pv rv dv:AV}{n1 n2 n3:hB}{PD PL PF PP F:aL}
theorem bf.sc(h:Holds H (bf S m1 m2 m3 lv fv pv rv dv n1 n2 n3 PD PL PF PP F)):H[S]?=aa (fW lv fv pv rv m1 m2 m3 dv):=h.get (by simp[bf])
theorem bf.W5(h:Holds H (bf S m1 m2 m3 lv fv pv rv dv n1 n2 n3 PD PL PF PP F)):H[m1]?=aa (cg n1):=h.get (by simp[bf])
theorem bf.alj(h:Holds H (bf S m1 m2 m3 lv fv pv rv dv n1 n2 n3 PD PL PF PP F)):H[m2]?=aa (cg n2):=h.get (by simp[bf])
theorem bf.alk(h:Holds H (bf S m1 m2 m3 lv fv pv rv dv n1 n2 n3 PD PL PF PP F)):H[m3]?=aa (cg n3):=h.get (by simp[bf])
theorem bf.pl(h:Holds H (bf S m1 m2 m3 lv fv pv rv dv n1 n2 n3 PD PL PF PP F)):Holds H (PL++((S,fW lv fv pv rv m1 m2 m3 dv)::(PD++((m1,cg n1)::(m2,cg n2)::(m3,cg n3)::(PF++(PP++F)))))):=by
 have:Holds H (((S,fW lv fv pv rv m1 m2 m3 dv)::(PD++[(m1,cg n1),(m2,cg n2),(m3,cg n3)]))++(PL++(PF++(PP++F)))):=by simpa[bf]using h
 simpa using this.swap
theorem bf.pf(h:Holds H (bf S m1 m2 m3 lv fv pv rv dv n1 n2 n3 PD PL PF PP F)):Holds H (PF++((S,fW lv fv pv rv m1 m2 m3 dv)::(PD++((m1,cg n1)::(m2,cg n2)::(m3,cg n3)::(PL++(PP++F)))))):=by
 have:Holds H (((S,fW lv fv pv rv m1 m2 m3 dv)::(PD++([(m1,cg n1),(m2,cg n2),(m3,cg n3)]++PL)))++(PF++(PP++F))):=by simpa[bf]using h
 simpa using this.swap
theorem bf.pp(h:Holds H (bf S m1 m2 m3 lv fv pv rv dv n1 n2 n3 PD PL PF PP F)):Holds H (PP++((S,fW lv fv pv rv m1 m2 m3 dv)::(PD++((m1,cg n1)::(m2,cg n2)::(m3,cg n3)::(PL++(PF++F)))))):=by
 have:Holds H (((S,fW lv fv pv rv m1 m2 m3 dv)::(PD++([(m1,cg n1),(m2,cg n2),(m3,cg n3)]++(PL++PF))))++(PP++F)):=by simpa[bf]using h
 simpa using this.swap
theorem bf.report(h:Holds H (bf S m1 m2 m3 lv fv pv rv dv n1 n2 n3 PD PL PF PP F))(b a:Int)(f:bB dv b3 2 ey PD)(g:Z ey<1000000):
 HR C 264 [.ptr S 0 0 0,I b,I a] H (λr e=>r=.aB []/\∃d c,bB d b3 2 (oC ey b a) c/\Holds e (bf S m1 m2 m3 lv fv pv rv d n1 n2 n3 c PL PF PP F)):=alf ey b a f g h
theorem bf.alm(h:Holds H (bf S m1 m2 m3 lv fv pv rv dv n1 n2 n3 PD PL PF PP F))(a:d)(e:Nat)(c:Int):
 HR C 265 [.b8 m1,.str a,I (e:Int),I c] H (λr b=>r=I (if(n1.map Prod.fst).contains a=ad then 5 else c)/\Holds b (bf S m1 m2 m3 lv fv pv rv dv (sB n1 a e) n2 n3 PD PL PF PP F)):=by
 have j:Holds H ((m1,cg n1)::(((S,fW lv fv pv rv m1 m2 m3 dv)::PD)++((m2,cg n2)::(m3,cg n3)::(PL++(PF++(PP++F)))))):=Holds.back (k:=(S,fW lv fv pv rv m1 m2 m3 dv)::PD) h;let⟨r,b,f,g,i⟩:=Mu n1 a e c j;exact⟨r,b,f,g,i.front⟩
theorem bf.aln(h:Holds H (bf S m1 m2 m3 lv fv pv rv dv n1 n2 n3 PD PL PF PP F))(a:d)(e:Nat)(c:Int):
 HR C 265 [.b8 m2,.str a,I (e:Int),I c] H (λr b=>r=I (if(n2.map Prod.fst).contains a=ad then 5 else c)/\Holds b (bf S m1 m2 m3 lv fv pv rv dv n1 (sB n2 a e) n3 PD PL PF PP F)):=by
 have j:Holds H (((S,fW lv fv pv rv m1 m2 m3 dv)::(PD++[(m1,cg n1)]))++(m2,cg n2)::((m3,cg n3)::(PL++(PF++(PP++F))))):=by simpa[bf]using h
 let⟨r,b,f,g,i⟩:=Mu n2 a e c j.back;exact⟨r,b,f,g,by simpa[bf]using i.front⟩
theorem bf.alo(h:Holds H (bf S m1 m2 m3 lv fv pv rv dv n1 n2 n3 PD PL PF PP F))(a:d)(e:Nat)(c:Int):
 HR C 265 [.b8 m3,.str a,I (e:Int),I c] H (λr b=>r=I (if(n3.map Prod.fst).contains a=ad then 5 else c)/\Holds b (bf S m1 m2 m3 lv fv pv rv dv n1 n2 (sB n3 a e) PD PL PF PP F)):=by
 have j:Holds H (((S,fW lv fv pv rv m1 m2 m3 dv)::(PD++[(m1,cg n1),(m2,cg n2)]))++(m3,cg n3)::(PL++(PF++(PP++F)))):=by simpa[bf]using h
 let⟨r,b,f,g,i⟩:=Mu n3 a e c j.back;exact⟨r,b,f,g,by simpa[bf]using i.front⟩
theorem bf.alp(h:Holds H (bf S m1 m2 m3 lv fv pv rv dv n1 n2 n3 PD PL PF PP F)){a:List bQ}(p:bB lv (bp ab) 4 a PL)(b:bQ)(w:Z a<1000000)
 (k:∀l i e,bB l (bp ab) 4 (a++[b]) i->Holds e (bf S m1 m2 m3 l fv pv rv dv n1 n2 n3 PD i PF PP F)->iD e):
 cq (cJ 4 72 lv (.sl ab [bp ab b]) H) λr c=>bd (iL (.ptr S 0 0 0) c) λs=>bd (dK 0 s c) λt=>bd (dK 0 t c) λu=>bd (du 1 u r c) λo=>iD o:=by
 let⟨id,g,f,m,j⟩:=p.app (bytes:=72) (bf.pl h) b (kK ab b) (by omega);apply aY m;have d:=j.get (U:=S) (gF:=fW lv fv pv rv m1 m2 m3 dv) (by simp);simp only[hV d,eF d,O,fY];refine aI (lF d rfl (by omega) rfl rfl) (k _ [(id,.arr g 4 ((a++[b]).map (bp ab)))] _ bB.of ?_)
 have n:Holds f (((S,fW lv fv pv rv m1 m2 m3 dv)::(PD++[(m1,cg n1),(m2,cg n2),(m3,cg n3)]))++(id,.arr g 4 ((a++[b]).map (bp ab)))::(PF++(PP++F))):=by
  apply Holds.front;simpa using j
 change Holds (f.set S (fW (.q id g 0 (Z (a++[b]))) fv pv rv m1 m2 m3 dv)) _;have v:=Holds.set (k:=(PD++[(m1,cg n1),(m2,cg n2),(m3,cg n3)])++(id,.arr g 4 ((a++[b]).map (bp ab)))::(PF++(PP++F))) n (fW (.q id g 0 (Z (a++[b]))) fv pv rv m1 m2 m3 dv);simp_all[bf]
theorem bf.wS(h:Holds H (bf S m1 m2 m3 lv fv pv rv dv n1 n2 n3 PD PL PF PP F)){b:List (List AV)}(p:bB fv (λa:List AV=>a) 7 b PF)(a:List AV)(r:Z a=7)(x:Z b<1000000)
 (m:∀k j f,bB k (λa:List AV=>a) 7 (b++[a]) j->Holds f (bf S m1 m2 m3 lv k pv rv dv n1 n2 n3 PD PL j PP F)->iD f):
 cq (cJ 7 120 fv (.sl ab [a]) H) λs c=>bd (iL (.ptr S 0 0 0) c) λt=>bd (dK 0 t c) λu=>bd (dK 1 u c) λv=>bd (du 1 v s c) λo=>iD o:=by
 let⟨id,g,i,n,l⟩:=p.app (bytes:=120) (bf.pf h) a r (by omega);apply aY n;have d:=l.get (U:=S) (gF:=fW lv fv pv rv m1 m2 m3 dv) (by simp);simp only[hV d,eF d,O,e,fY];refine aI (lF d rfl (by omega) rfl rfl) (m _ [(id,.arr g 7 ((b++[a]).map λa:List AV=>a))] _ bB.of ?_)
 have w:Holds i (((S,fW lv fv pv rv m1 m2 m3 dv)::(PD++([(m1,cg n1),(m2,cg n2),(m3,cg n3)]++PL)))++(id,.arr g 7 ((b++[a]).map λa:List AV=>a))::(PP++F)):=by
  apply Holds.front;simpa using l
 change Holds (i.set S (fW lv (.q id g 0 (Z (b++[a]))) pv rv m1 m2 m3 dv)) _;grind[Holds.set,cg,fW,bf]
theorem bf.alq(h:Holds H (bf S m1 m2 m3 lv fv pv rv dv n1 n2 n3 PD PL PF PP F)){b:List cO}(p:bB pv (bO ab) 7 b PP)(a:cO)(w:Z b<1000000)
 (l:∀m j f,bB m (bO ab) 7 (b++[a]) j->Holds f (bf S m1 m2 m3 lv fv m rv dv n1 n2 n3 PD PL PF j F)->iD f):
 cq (cJ 7 88 pv (.sl ab [bO ab a]) H) λr c=>bd (iL (.ptr S 0 0 0) c) λs=>bd (dK 0 s c) λt=>bd (dK 2 t c) λu=>bd (du 1 u r c) λo=>iD o:=by
 let⟨id,g,i,n,k⟩:=p.app (bytes:=88) (bf.pp h) a (ji ab a) (by omega);apply aY n;have d:=k.get (U:=S) (gF:=fW lv fv pv rv m1 m2 m3 dv) (by simp);simp only[hV d,eF d,O,e,fY];refine aI (lF d rfl (by omega) rfl rfl) (l _ [(id,.arr g 7 ((b++[a]).map (bO ab)))] _ bB.of ?_)
 have v:Holds i (((S,fW lv fv pv rv m1 m2 m3 dv)::(PD++([(m1,cg n1),(m2,cg n2),(m3,cg n3)]++(PL++PF))))++(id,.arr g 7 ((b++[a]).map (bO ab)))::F):=by
  apply Holds.front;simpa using k
 change Holds (i.set S (fW lv fv (.q id g 0 (Z (b++[a]))) rv m1 m2 m3 dv)) _;grind[Holds.set,cg,bO,fW,bf]
end
def alr(x:Bool)(a:D)(p:aL)(r:AV)(q:List Obj):Prop:=∃g t u v k j o h l m n c e d f i b,r=.ptr g 0 0 0/\Holds q (bf g t u v k j o .aq h l m n c e d f p)/\bB h b3 2 b c/\Z b<=1000/\bB k (bp ab) 4 a.aw e/\bB j (λw:List AV=>w) 7 i d/\bB o (bO ab) 7 (a.Q.map (ew a)) f/\
 oD bQ.au a.aw l/\oD Fn.au a.aO m/\oD cO.au a.Q n/\(b=[]<->qd a=ad)/\(qd a=ad->i=a.aO.map λs=>cm ab (eP a s))
theorem Mv(a:D)(b:d):b2 (λc:bQ=>c.au==b) a.aw=ef a b:=rfl
theorem e8.als(af:e8 C)(d:D)(cc:eA d)(fd:Holds M k)(lt:Z d.aw<=100)(lm:Z d.aO<=100)(lw:Z d.Q<=100)(it:∀j∈d.aO,Z j.src=Z j.dst):HR C 210 [.agg (cP T F d)] M (alr T d k):=by
 apply Ta.hq;simp only[eE,O,e4,bh,aJ,rW,wz,kv,e,aX];refine aI rfl (aY (dW:=.ptr (Z M+3) 0 0 0) (oR:=M++[cg []]++[cg []]++[cg []]++[fW .aq .aq .aq .aq (Z M) (Z M+1) (Z M+2) .aq]) ?_ ?_);simp[nC,fW,HS];exact⟨rfl,rfl⟩;have hh:Holds (M++[cg []]++[cg []]++[cg []]++[fW .aq .aq .aq .aq (Z M) (Z M+1) (Z M+2) .aq]) (bf (Z M+3) (Z M) (Z M+1) (Z M+2) .aq .aq .aq .aq .aq [] [] [] [] [] [] [] k):=by
  have g9:=((fd.alloc (cg [])).alloc (cg [])).alloc (cg []);have u:=g9.alloc (fW .aq .aq .aq .aq (Z M) (Z M+1) (Z M+2) .aq);simp only[gC,jY]at u;apply u.perm;simp only[bf,dR];apply List.Perm.cons _;exact(List.Perm.swap _ _ _).trans ((List.Perm.cons _ (List.Perm.swap _ _ _)).trans ((List.Perm.swap _ _ _)))
 generalize hj:Z M+3=n at*;generalize hw:Z M=E at*;generalize hx:E+1=S at*;generalize hH:E+2=R at*;generalize M++[cg []]++[cg []]++[cg []]++[fW .aq .aq .aq .aq E S R .aq]=g3 at*;clear hj hw hx hH fd
 refine bG (K:=Nat×List Obj×AV×AV×List (Int×Int)×hB×aL×aL) (λg=>[I g.1]) (λg=>g.2.1) (λg=>Z d.aw -g.1) (λg=>g.1<=Z d.aw/\Holds g.2.1 (bf n E S R g.2.2.1 .aq .aq .aq g.2.2.2.1 g.2.2.2.2.2.1 [] [] g.2.2.2.2.2.2.1 g.2.2.2.2.2.2.2 [] [] k)/\bB g.2.2.2.1 b3 2 g.2.2.2.2.1 g.2.2.2.2.2.2.1/\Z g.2.2.2.2.1<=g.1/\bB g.2.2.1 (bp ab) 4 (d.aw.take g.1) g.2.2.2.2.2.2.2/\
  oD bQ.au (d.aw.take g.1) g.2.2.2.2.2.1/\(g.2.2.2.2.1=[]<->(ay g.1).all (qc d)=ad)) (0,g3,.aq,.aq,[],[],[],[]) ⟨by simp,hh,bB.nil _ _,by simp,bB.nil _ _,λg=>rfl,by simp⟩ ?_
 rintro⟨f,o,ce,ah,t,U,Y,ci⟩ ⟨aA,p,z,am,bm,N,L⟩ a4 B;simp only at aA p z am bm N L B⊢;simp only[G,A,O,a];refine b (λh=>?_) (λh=>?_);have h:f<Z d.aw:=by simpa using h
 have hu:d.aw[f]∈d.aw:=bn h;have c2:=cc.aN _ hu;have r:=bf.sc p;have a3:aQ 1 ab (.ptr n 0 0 4) o=aa (.b8 E):=gA r rfl;have hk:(AV.agg [.str d.aw[f].au,eS T cS d.aw[f].az,eS T b3 d.aw[f].eK,I d.aw[f].bb])=.agg (bp T d.aw[f]):=rfl;have hl:(AV.agg [.str d.aw[f].au,eS ab cS d.aw[f].az,eS ab b3 d.aw[f].eK,I d.aw[f].bb])=.agg (bp ab d.aw[f]):=rfl
 simp only[aE h (kK _ _),O,jj,zB,DN,DO,DP,DQ,hk,hV r,eF r,e,a3];apply c (ajn _ c2);refine c4 (bf.alm p d.aw[f].au f (eY d.aw[f])) rfl λgc em a0=>?_;obtain⟨rfl,aj⟩:=a0;rw[N.has h];simp only[mg,true_and];have a5:qc d f=(eY d.aw[f]==0&&ef d d.aw[f].au==(f:Int)):=by rw[qc,bq h]
 have hs:b2 (λJ:bQ=>J.au==d.aw[f].au) d.aw=ef d d.aw[f].au:=rfl;rw[hs];apply aY (dW:=264) (oR:=[.ptr n 0 0 0,I (if(!(ef d d.aw[f].au==(f:Int)))=ad then 5 else eY d.aw[f]),I d.aw[f].bb]) rfl;refine c4 (bf.report aj (if(!(ef d d.aw[f].au==(f:Int)))=ad then 5 else eY d.aw[f]) d.aw[f].bb z (by omega)) rfl λge W a2=>?_;obtain⟨rfl,ai,ac,ax,K⟩:=a2
 refine c (af.Mr d.aw[f].az c2.1) (c (af.ak6 d.aw[f].eK c2.2) ?_);refine aI (dW:=eS ab cS d.aw[f].az) rfl (aI (dW:=eS ab b3 d.aw[f].eK) rfl ?_);have x:=bf.sc K;have i3:aQ 1 ab (.ptr n 0 0 0) W=aa ce:=gA x rfl;simp only[hV x,eF x,O,fY,i3,hl];rw[vJ (U:=4) (row:=bp ab d.aw[f]) rfl rfl,O];refine bf.alp K bm d.aw[f] (by grind) λi8 g5 X f2 ak=>?_;rw[aZ,O];rw[<-iy h]at f2
 have f0:=B7 (ey:=t) (f:=if(!(ef d d.aw[f].au==(f:Int)))=ad then 5 else eY d.aw[f]) (ca:=d.aw[f].bb);refine B (f+1,X,i8,ai,oC t (if(!(ef d d.aw[f].au==(f:Int)))=ad then 5 else eY d.aw[f]) d.aw[f].bb,sB U d.aw[f].au f,ac,g5) ⟨h,ak,ax,by grind,f2,N.step h,?_⟩ (by simp;omega);grind[B6];have:f=Z d.aw:=by simp at h;omega
 subst this;rw[dY]at bm N;clear B
 refine bG (K:=Nat×List Obj×AV×AV×List (Int×Int)×hB×aL×aL×List (List AV)) (λg=>[I g.1]) (λg=>g.2.1) (λg=>Z d.aO -g.1) (λg=>g.1<=Z d.aO/\Holds g.2.1 (bf n E S R ce g.2.2.1 .aq .aq g.2.2.2.1 U g.2.2.2.2.2.1 [] g.2.2.2.2.2.2.1 ci g.2.2.2.2.2.2.2.1 [] k)/\bB g.2.2.2.1 b3 2 g.2.2.2.2.1 g.2.2.2.2.2.2.1/\Z g.2.2.2.2.1<=100+g.1/\bB g.2.2.1 (λJ:List AV=>J) 7 g.2.2.2.2.2.2.2.2 g.2.2.2.2.2.2.2.1/\
  oD Fn.au (d.aO.take g.1) g.2.2.2.2.2.1/\Z g.2.2.2.2.2.2.2.2=g.1/\(g.2.2.2.2.1=[]<->(ay (Z d.aw)).all (qc d)=ad/\(ay g.1).all (px d)=ad)/\((ay g.1).all (px d)=ad->g.2.2.2.2.2.2.2.2=(d.aO.take g.1).map λj=>cm ab (eP d j))) (0,o,.aq,ah,t,[],Y,[],[]) ⟨by simp,p,z,by grind,bB.nil _ _,λg=>rfl,rfl,by simp[L],by simp⟩ ?_
 rintro⟨f,o,cs,ah,t,d0,Y,eq,gt⟩ ⟨aA,p,z,am,dl,aF,f6,L,bv⟩ a4 B;simp only at aA p z am dl aF f6 L bv B⊢;simp only[G,A,O,a];refine b (λh=>?_) (λh=>?_);have h:f<Z d.aO:=by simpa using h
 have f1:d.aO[f]∈d.aO:=bn h;have f4:=aF.has h;have h1:=aF.step h;have hO:(d.aO.take (f+1)).map (λj=>cm ab (eP d j))=(d.aO.take f).map (λj=>cm ab (eP d j))++[cm ab (eP d d.aO[f])]:=by
  rw[iy h,hJ]<;>rfl
 have a5:px d f=((match d.aw[(ef d d.aO[f].aN).toNat]? with|aa P=>y (0<=ef d d.aO[f].aN)&&fG P d.aO[f]|ae=>ab)&&iR d d.aO[f].au==(f:Int)):=by rw[px,bq h]<;>rfl
 have hn:b2 (λJ:Fn=>J.au==d.aO[f].au) d.aO=iR d d.aO[f].au:=rfl;rw[hn]at f4;have ds:=aE (T:=T) (a7:=cm T) (x:=d.aO) (M:=o) h (s5 T _);have iG:=it _ f1;have bi:=cc.fn _ f1;generalize d.aO[f]=j at*;have r:=bf.sc p;have a3:aQ 1 ab (.ptr n 0 0 4) o=aa (.b8 E):=gA r rfl;have i6:aQ 1 ab (.ptr n 0 0 5) o=aa (.b8 S):=gA r rfl;simp only[ds,O,Dq,F6,GN,GO,GP,GQ,GR,hV r,eF r,e,a3]
 apply eV _ (En U j.aN) (.ck (Em (bf.W5 p)) (.ck (.str _ _) (.nil _))) (.int _ _);rw[N j.aN,Mv];simp only[tx,O];refine aI (dW:=.aq) rfl ?_;refine c (af.Mr j.src bi.1) (c (af.Mr j.dst bi.2.1) ?_);refine aI (dW:=eS ab cS j.src) rfl (aI (dW:=eS ab cS j.dst) rfl ?_)
 have go:∀(m:Int)(V:AV),(m=0<->(match d.aw[(ef d j.aN).toNat]? with|aa P=>y (0<=ef d j.aN)&&fG P j|ae=>ab)=ad)->V.bU=ad->(m=0->V=eS ab cI (eP d j).gU)->
  bd (iL (.ptr n 0 0 0) o) λkl=>bd (dK 5 kl o) λkw=>bd (aQ 1 ab kw o) λkx=>ch C 265 [kx,.str j.au,I f,I m] o λlc hg=>
   (ob (I j.bb) (I j.bb))/\((True)/\(cq (lL (.fn 264 [.ptr n 0 0 0] []) [lc.pl,(I j.bb).pl]) λco cl=>ch C co cl hg λld w=>bd (iL (.ptr n 0 0 0) w) λd1=>bd (dK 0 d1 w) λd2=>bd (dK 1 d2 w) λd3=>bd (aQ 1 ab d3 w) λd4=>
   bd (fS 7 [(.str []),(.str []),(I 0),.aq,.aq,.aq,(I 0)] 1 [(0,.agg [.str j.au,.str j.aN,I (ef d j.aN),eS ab cS j.src,eS ab cS j.dst,V,I j.bb])]) λd5=>
    cq (cJ 7 120 d4 d5 w) λd6 H=>bd (iL (.ptr n 0 0 0) H) λd7=>bd (dK 0 d7 H) λd8=>bd (dK 1 d8 H) λd9=>bd (du 1 d9 d6 H) λc1=>bd (aT .s .add (I f) (I 1)) λel=>a4 [el] c1)):=by
  intro m V be i2 i1;simp only[hV r,eF r,O,e,i6];refine c4 (bf.aln p j.au f m) rfl λgc em a0=>?_;obtain⟨rfl,aj⟩:=a0;rw[f4];simp only[mg,true_and];apply aY (dW:=264) (oR:=[.ptr n 0 0 0,I (if(!(iR d j.au==(f:Int)))=ad then 5 else m),I j.bb]) rfl;refine c4 (bf.report aj (if(!(iR d j.au==(f:Int)))=ad then 5 else m) j.bb z (by omega)) rfl λge W a2=>?_;obtain⟨rfl,ai,ac,ax,K⟩:=a2;have x:=bf.sc K
  have i4:aQ 1 ab (.ptr n 0 0 1) W=aa cs:=gA x rfl;simp only[hV x,eF x,O,e,fY,i4];rw[vJ (U:=7) (row:=[.str j.au,.str j.aN,I (ef d j.aN),eS ab cS j.src,eS ab cS j.dst,V,I j.bb]) rfl (by simp[i2]),O];refine bf.wS K dl _ rfl (by omega) λg8 g4 X ho ak=>?_;rw[aZ,O];have f0:=B7 (ey:=t) (f:=if(!(iR d j.au==(f:Int)))=ad then 5 else m) (ca:=j.bb)
  refine B (f+1,X,g8,ai,oC t (if(!(iR d j.au==(f:Int)))=ad then 5 else m) j.bb,sB d0 j.au f,ac,g4,gt++[[.str j.au,.str j.aN,I (ef d j.aN),eS ab cS j.src,eS ab cS j.dst,V,I j.bb]]) ⟨h,ak,ax,by grind,ho,h1,by simp[f6],?_,?_⟩ (by simp;omega);grind[B6];intro a9;rw[Mm,a5]at a9;simp only[ba]at a9;rw[bv a9.1,hO,i1 (be.2 a9.2.1)]<;>rfl
 simp only[bz,hz,O,G,i,mg,true_and]at go⊢;refine b (λu=>?_) (λu=>?_);have u:0<=ef d j.aN:=by simpa using u
 let⟨q,bD,cb⟩:∃q:Nat,ef d j.aN=q/\q<Z d.aw:=by
  rcases sq (λJ:bQ=>J.au==j.aN) d.aw with⟨q,bD,es,-⟩|⟨es,-⟩;exact⟨q,es,bD⟩;grind[Mv]
 rw[bD]at go⊢;simp only[eR,bq cb]at go;have li:y ((0:Int)<=(q:Int))=true:=by simp
 simp only[aE cb (kK _ _),O,jj];obtain⟨md,f7,m,rfl,be⟩:=ala (T:=T) (F:=false) d.aw[q] {j with of:=(q:Int),gU:=[]} (cc.aN _ (bn cb)) ⟨bi.1,bi.2.1,by simp[Sm]⟩ iG;have g1:fG d.aw[q] {j with of:=(q:Int),gU:=[]}=fG d.aw[q] j:=rfl;have jp:fM d.aw[q] {j with of:=(q:Int),gU:=[]}=fM d.aw[q] j:=rfl;rw[g1,jp]at f7;rw[g1]at be;refine⟨.dm,_,_,by decide,?_,f7,(λm=>by cases m),?_⟩
 exact .ck eu (.ck (.agg _ _ _ (.ck (.str _ _) (.ck (.str _ _) (.ck (.int _ _ _) (.ck eu (.ck eu (.ck (.aq _ _) (.ck (.int _ _ _) (.nil _))))))))) (.nil _));simp only[fK,dj,eH,O];apply aI rfl;exact go m (eS ab cI (if fG d.aw[q] j=ad then fM d.aw[q] j else[])) (by grind) rfl (λ_=>by
  rw[eP];simp only[bD,eR,bq cb];grind)
 have u:¬0<=ef d j.aN:=by simpa using u
 have l0:(match d.aw[(ef d j.aN).toNat]? with|aa P=>y (0<=ef d j.aN)&&fG P j|ae=>ab)=false:=by
  have:y (0<=ef d j.aN)=false:=by simpa using u
  split;rw[this]<;>rfl
  rfl
 exact go 70 .aq (by grind) rfl (λh=>by cases h);have:f=Z d.aO:=by simp at h;omega
 subst this;rw[dY]at bv aF;clear B
 refine bG (K:=Nat×List Obj×AV×AV×List (Int×Int)×hB×aL×aL) (λg=>[I g.1]) (λg=>g.2.1) (λg=>Z d.Q -g.1) (λg=>g.1<=Z d.Q/\Holds g.2.1 (bf n E S R ce cs g.2.2.1 .aq g.2.2.2.1 U d0 g.2.2.2.2.2.1 g.2.2.2.2.2.2.1 ci eq g.2.2.2.2.2.2.2 k)/\bB g.2.2.2.1 b3 2 g.2.2.2.2.1 g.2.2.2.2.2.2.1/\Z g.2.2.2.2.1<=200+g.1/\bB g.2.2.1 (bO ab) 7 ((d.Q.take g.1).map (ew d)) g.2.2.2.2.2.2.2/\
  oD cO.au (d.Q.take g.1) g.2.2.2.2.2.1/\(g.2.2.2.2.1=[]<->((ay (Z d.aw)).all (qc d)=ad/\(ay (Z d.aO)).all (px d)=ad)/\(ay g.1).all (vE d)=ad)) (0,o,.aq,ah,t,[],Y,[]) ⟨by simp,p,z,by grind,bB.nil _ _,λg=>rfl,by simp[L]⟩ ?_
 rintro⟨f,o,f9,ah,t,f8,Y,g6⟩ ⟨aA,p,z,am,br,aR,L⟩ a4 B;simp only at aA p z am br aR L B⊢;simp only[G,A,O,a];refine b (λh=>?_) (λh=>?_);have h:f<Z d.Q:=by simpa using h
 have io:d.Q[f]∈d.Q:=bn h;have f5:=aR.has h;have h3:=aR.step h;have i0:(d.Q.take f).map (ew d)++[ew d d.Q[f]]=(d.Q.take (f+1)).map (ew d):=by
  rw[iy h,hJ]<;>rfl
 have a5:vE d f=((d.Q[f].aN==[]||y (0<=ef d d.Q[f].aN))&&eO d d.Q[f].au==(f:Int)):=by rw[vE,bq h]
 have id:b2 (λJ:cO=>J.au==d.Q[f].au) d.Q=eO d d.Q[f].au:=rfl;rw[id]at f5;have ds:=aE (T:=T) (a7:=bO T) (x:=d.Q) (M:=o) h (ji T _);have ii:=cc.tb _ io;generalize d.Q[f]=l at*;have r:=bf.sc p;have a3:aQ 1 ab (.ptr n 0 0 4) o=aa (.b8 E):=gA r rfl;have i7:aQ 1 ab (.ptr n 0 0 6) o=aa (.b8 R):=gA r rfl;simp only[ds,O,wu,yb,rZ,r1,r2,sa,sb,sd];apply c (af.ak5 l.a6 ii);apply aI (dW:=eS ab cI l.a6) rfl
 simp only[tx,O,bz,jE,G,i,hV r,eF r,e,a3,i7,mg,true_and];have go:∀m:Int,(m=0<->(l.aN==[]||y (0<=ef d l.aN))=ad)->ch C 265 [.b8 R,.str l.au,I f,I m] o λke ha=>(cq (lL (.fn 264 [.ptr n 0 0 0] []) [ke.pl,(I l.bb).pl]) λco cl=>ch C co cl ha λld w=>bd (iL (.ptr n 0 0 0) w) λd1=>bd (dK 0 d1 w) λd2=>bd (dK 2 d2 w) λd3=>bd (aQ 1 ab d3 w) λd4=>
  bd (fS 7 [(.str []),.aq,(.str []),(I 0),ff,(I 0),(I 0)] 1 [(0,.agg [.str l.au,eS ab cI l.a6,.str l.aN,I (ew d l).of,.bool l.ek,I l.fy,I l.bb])]) λd5=>
   cq (cJ 7 88 d4 d5 w) λd6 H=>bd (iL (.ptr n 0 0 0) H) λd7=>bd (dK 0 d7 H) λd8=>bd (dK 2 d8 H) λd9=>bd (du 1 d9 d6 H) λc1=>bd (aT .s .add (I f) (I 1)) λel=>a4 [el] c1):=by
  intro m be;refine c4 (bf.alo p l.au f m) rfl λgc em a0=>?_;obtain⟨rfl,aj⟩:=a0;rw[f5];apply aY (dW:=264) (oR:=[.ptr n 0 0 0,I (if(!(eO d l.au==(f:Int)))=ad then 5 else m),I l.bb]) rfl;refine c4 (bf.report aj (if(!(eO d l.au==(f:Int)))=ad then 5 else m) l.bb z (by omega)) rfl λge W a2=>?_;obtain⟨rfl,ai,ac,ax,K⟩:=a2;have x:=bf.sc K;have i5:aQ 1 ab (.ptr n 0 0 2) W=aa f9:=gA x rfl
  have ip:(AV.agg [AV.str l.au,eS ab cI l.a6,.str l.aN,I (ew d l).of,.bool l.ek,I l.fy,I l.bb])=.agg (bO ab (ew d l)):=rfl;simp only[hV x,eF x,O,e,fY,i5,ip];rw[vJ (U:=7) (row:=bO ab (ew d l)) rfl rfl,O];refine bf.alq K br (ew d l) (by grind) λi9 g7 X f3 ak=>?_;rw[aZ,O];rw[i0]at f3;have f0:=B7 (ey:=t) (f:=if(!(eO d l.au==(f:Int)))=ad then 5 else m) (ca:=l.bb)
  refine B (f+1,X,i9,ai,oC t (if(!(eO d l.au==(f:Int)))=ad then 5 else m) l.bb,sB f8 l.au f,ac,g7) ⟨h,ak,ax,by grind,f3,h3,?_⟩ (by simp;omega);rw[B6,L,Mm,a5];rcases ls:eO d l.au==(f:Int)with _|_;simp;grind
 refine dw (λu=>?_) (λu=>?_);have ex:l.aN≠[]:=by simpa using u
 have h4:(ew d l).of=ef d l.aN:=by rw[ew,if_neg ex]
 rw[h4]at go;apply eV _ (En U l.aN) (.ck (Em (bf.W5 p)) (.ck (.str _ _) (.nil _))) (.int _ _);rw[N l.aN,Mv];simp only[tx,O,A];refine b (λhe=>?_) (λhe=>?_);exact go 70 (by
  grind)
 exact go 0 (by
  grind)
 have ex:l.aN=[]:=by simpa using u
 simp_all[ew];have:f=Z d.Q:=by simp at h;omega
 subst this;rw[dY]at br aR;have hm:qd d=ad<->((ay (Z d.aw)).all (qc d)=ad/\(ay (Z d.aO)).all (px d)=ad)/\(ay (Z d.Q)).all (vE d)=true:=by
  rw[qd,ba,ba]
 exact⟨n,E,S,R,ce,cs,f9,ah,U,d0,f8,Y,ci,eq,g6,gt,t,rfl,p,z,by omega,bm,dl,br,N,aF,aR,by grind,λh=>bv (hm.1 h).1.2⟩
theorem Eo{id g off:Nat}(h:M[id]?=aa (.arr g N b1))(d:b1[U]?=aa bF)(a:off<Z bF)(e:E.pl=E)(c:E.bU=ad):du 1 (.ptr id g U off) E M=aa (M.set id (.arr g N (b1.set U (bF.set off E)))):=by
 have b:e3 bF off [E]=bF.set off E:=by
  simp only[e3,jY];rw[aa8,if_pos a];simp
 have f:E.cells=[E]:=by
  cases E<;>first|rfl|grind[AV.bU]
 grind[du]
section
variable{H:List Obj}{X:aL}{B g i n:Nat}{es:List (List AV)}{cs:List AV}
theorem Ep(a:Holds H ((B,.arr g n (es.set i cs))::X)):H[B]?=aa (.arr g n (es.set i cs)):=a.get (by simp)
theorem W6(a:i<Z es):(es.set i cs)[i]?=aa cs:=by simp[a]
theorem qf(a:Holds H ((B,.arr g n (es.set i cs))::X))(off:Nat):iL (.ptr B g i off) H=aa (.ptr B g i off):=by
 grind[Ep,iL,dK]
theorem ng(b:Holds H ((B,.arr g n (es.set i cs))::X))(off a:Nat):dK a (.ptr B g i off) H=aa (.ptr B g i (off+a)):=pg (Ep b)
theorem sC(b:i<Z es)(a:Holds H ((B,.arr g n (es.set i cs))::X))(off:Nat):aQ 1 ab (.ptr B g i off) H=cs[off]?:=c0 (Ep a) (W6 b)
theorem tB(e:i<Z es)(c:Holds H ((B,.arr g n (es.set i cs))::X)){off:Nat}{a:AV}(f:off<Z cs)(h:a.pl=a)(d:a.bU=ad)
 (j:∀b,Holds b ((B,.arr g n (es.set i (cs.set off a)))::X)->iD b):bd (du 1 (.ptr B g i off) a H) iD:=by
 refine aI (Eo (Ep c) (W6 e) f h d) (j _ ?_);rw[I6];exact c.set _
end
theorem Gr.at(h:Gr M E a7 U x)(a:N<Z x):∃id g,bP U E (I N) M=aa (.ptr id g N 0)/\M[id]?=aa (.arr g U (x.map a7))/\(x.map a7)[N]?=aa (a7 x[N]):=by
 rcases h with⟨rfl,-⟩|⟨id,g,rfl,h⟩;simp at a;grind[fw]
def SC(b:D)(j:Nat)(a:List Obj):Prop:=∃d c i m l e f k g h,a[j]?=aa (fW d c i m l e f k)/\Gr a d (bp ab) 4 b.aw/\Gr a c (cm ab) 7 b.aO/\Gr a i (bO ab) 7 b.Q/\
 a[e]?=aa (cg g)/\a[f]?=aa (cg h)/\oD Fn.au b.aO g/\oD cO.au b.Q h
theorem SC.tb(h:SC V U M):∃a,aQ 1 ab (.ptr U 0 0 2) M=aa a/\Gr M a (bO ab) 7 V.Q:=by
 let⟨m,e,a,s,n,o,p,d,q,r,c,f,g,b,i,j,k,l⟩:=h;exact⟨a,gA c rfl,b⟩
theorem SC.aO(h:SC V U M):∃a,aQ 1 ab (.ptr U 0 0 1) M=aa a/\Gr M a (cm ab) 7 V.aO:=by
 let⟨m,b,a,s,n,o,p,e,q,r,d,f,c,g,i,j,k,l⟩:=h;exact⟨b,gA d rfl,c⟩
theorem SC.aN(h:SC V U M):∃a,aQ 1 ab (.ptr U 0 0 0) M=aa a/\Gr M a (bp ab) 4 V.aw:=by
 let⟨d,f,a,s,n,o,p,e,q,r,c,b,g,i,j,k,l,m⟩:=h;exact⟨d,gA c rfl,b⟩
theorem SC.nc(h:SC V U M)(off:Nat):iL (.ptr U 0 0 off) M=aa (.ptr U 0 0 off):=by
 let⟨l,c,r,s,m,n,o,b,p,q,a,d,e,f,g,i,j,k⟩:=h;exact hV a
theorem SC.ao(h:SC V U M)(off a:Nat):dK a (.ptr U 0 0 off) M=aa (.ptr U 0 0 (off+a)):=by
 let⟨m,d,s,t,n,o,p,c,q,r,b,e,f,g,i,j,k,l⟩:=h;exact eF b
theorem SC.alu(h:SC V U M):∃a b,aQ 1 ab (.ptr U 0 0 5) M=aa (.b8 a)/\M[a]?=aa (cg b)/\oD Fn.au V.aO b:=by
 let⟨p,j,t,u,q,f,r,i,g,s,e,k,l,m,c,n,d,o⟩:=h;exact⟨f,g,gA e rfl,c,d⟩
theorem SC.W7(h:SC V U M):∃a b,aQ 1 ab (.ptr U 0 0 6) M=aa (.b8 a)/\M[a]?=aa (cg b)/\oD cO.au V.Q b:=by
 let⟨p,j,t,u,q,r,f,i,s,g,e,k,l,m,n,c,o,d⟩:=h;exact⟨f,g,gA e rfl,c,d⟩
theorem SC.mr(h:SC V U M):aM M .cd (.ptr U 0 0 0) (.aH ad [eS ad (bp ad) V.aw,.undef,.undef,.undef,.undef,.undef,.undef,.undef] 0):=by
 let⟨l,d,r,s,m,n,o,c,p,q,b,a,e,f,g,i,j,k⟩:=h;exact alg b a
def fe(r:aD)(a:AV):List AV:=[.str r.au,I r.ah,eS ab cT r.af,I r.aj.ax,.str r.aj.au,.str r.aj.aF,I r.aj.aR,a,I r.bb]
theorem W8(a:cO):dO 7 (.agg (bO ab a))=aa (bO ab a):=iT rfl rfl
def Es(a:D)(r:aD)(g:aL)(e j k:Nat)(i:List (List AV))(h:AV)(l:AV)(f:List Obj):Prop:=∃c b d,l=I c/\(c=0<->gQ a r=ad)/\(gQ a r=ad->ih r b d=tw a r)/\Holds f ((e,.arr j 9 (i.set k (fe (ih r b d) h)))::g)
theorem Es.mk{r:aD}(b a c:Int)(d:b=0<->gQ V r=ad)(e:gQ V r=ad->ih r a c=tw V r)(h:Holds M ((U,.arr N 9 (b1.set z (fe (ih r a c) E)))::k)):Es V r k U N z b1 E (I b) M:=⟨b,a,c,rfl,d,e,h⟩
theorem Es.bad{r:aD}(a b c:Int)(d:a≠0)(e:gQ V r=ab)(h:Holds M ((U,.arr N 9 (b1.set z (fe (ih r b c) E)))::k)):Es V r k U N z b1 E (I a) M:=by grind[mk]
theorem alv(a:D)(r:aD)(d2:eA a)(d1:Sm r.af)(ds:kA a)(n:z<Z b1)(V:∀M,Holds M k->SC a dp M)
 (x:Holds M ((U,.arr N 9 (b1.set z (fe r E)))::k)):
 HR C 273 [.ptr dp 0 0 0,.ptr U N z 0] M (Es a r k U N z b1 E):=by
 apply RO.hq;simp only[qf x,ng x,O,e];refine tB n x (by simp[fe]) rfl rfl λd7 B=>?_;simp only[qf B,ng B,O,e];refine tB n B (by simp[fe]) rfl rfl λbm m=>?_;have m:Holds bm ((U,.arr N 9 (b1.set z (fe (ih r (-1) (-1)) E)))::k):=m;simp only[qf m,ng m,sC n m,O,e,fe,ih,dj,gW];clear B x;refine b (λh=>?_) (λh=>?_);have h:r.au=[]:=by simpa using h
 exact .mk 0 (-1) (-1) (by simp[gQ,h]) (λ_=>by rw[tw,ka,oB,if_pos h,if_pos h]) m;have aF:r.au≠[]:=by simpa using h
 have f:gQ a r=(match a.Q[(eO a r.au).toNat]? with
  |ae=>ab
  |aa d=>y (0<=eO a r.au)&& !d.ek&&nQ d r.af&&((r.aj.ax==0)==y (d.of<0))&&
   (!(r.aj.ax==1)||y (0<=fx a d r.aj.au))&&
   (!(r.aj.ax==3)||(y (0<=iR a r.aj.au)&&(match a.aO[(iR a r.aj.au).toNat]? with|aa bv=>bv.of==d.of|ae=>ab)))):=by
  rw[gQ,h,l4]<;>rfl
 have F:=V _ m.tail;let⟨d6,bi,a9,J,aR⟩:=F.W7;simp only[F.nc,F.ao,O,e,a9];apply eV _ (En bi r.au) (.ck (Em J) (.ck (.str _ _) (.nil _))) (.int _ _);have d0:pz bi r.au=eO a r.au:=aR _;rw[d0];refine tB n m (by simp[fe]) rfl rfl λbr j=>?_;have j:Holds br ((U,.arr N 9 (b1.set z (fe (ih r (eO a r.au) (-1)) E)))::k):=j;simp only[qf j,ng j,sC n j,O,e,fe,ih,dj,eH,A];clear F a9 J aR m
 refine b (λs=>?_) (λs=>?_);have s:eO a r.au<0:=by simpa using s
 refine .bad 70 _ _ (by omega) ?_ j;grind;have s:0<=eO a r.au:=by simpa using s
 let⟨o,G,H⟩:∃o:Nat,eO a r.au=o/\o<Z a.Q:=by
  have:=Ar (λp:cO=>p.au==r.au) a.Q;grind[eO]
 rw[G]at f s j;simp only[eR,bq H]at f;rw[G];have u:=V _ j.tail;let⟨es,a5,ak⟩:=u.tb;let⟨id,gi,K,v,L⟩:=ak.at H;simp only[u.nc,u.ao,O,e,fY,a5,K,mj v L (ji _ _),W8,rZ,r1,r2,te,sa,sb,sd];clear K v L ak a5;generalize a2:a.Q[o]=d at*;have eq:d.of<Z a.aw:=ds d (a2▸bn H);have cb:y ((0:Int)<=(o:Int))=true:=by simp
 rw[cb,c3]at f;refine b (λam=>?_) (λam=>?_);exact .bad 73 _ _ (by omega) (by grind) j;rw[am,ri,c3]at f;let⟨R,ci,cl⟩:=WZ (T:=false) (F:=false) d r.af d1;have ce:(AV.agg [.str d.au,eS ab cI d.a6,.str d.aN,I d.of,.bool d.ek,I d.fy,I d.bb])=.agg (bO ab d):=rfl;rw[ce];apply c ci;simp only[cv,O];refine b (λq=>?_) (λq=>?_);have q:R≠0:=by simpa using q
 refine .bad R _ _ q ?_ j;grind;have q:R=0:=by simpa using q
 rw[cl.1 q,c3]at f;simp only[c6,A,O,Bq];refine dw (λS=>?_) (λS=>?_);exact .bad 72 _ _ (by omega) (by grind) j;rw[S,c3]at f;have c2:(r.aj.ax=0)<->d.of<0:=by
  have:=S;rw[beq_iff_eq]at this;constructor;intro X;rw[X]at this;simpa using this.symm;intro X;have l:y (d.of<0)=true:=by simpa using X
  rw[l]at this;simpa using this
 have ac:ka a r=o:=by rw[ka,if_neg aF,G]
 have W:oB a r=if r.aj.ax=1 then fx a d r.aj.au else if r.aj.ax=3 then iR a r.aj.au else -1:=by
  rw[oB,if_neg aF,G];simp only[eR,bq H,a2]
 rw[bz];refine b (λl=>?_) (λl=>?_);have l:r.aj.ax=1:=by simpa using l
 have em:0<=d.of:=by
  rcases Fc d.of 0 with h|h;have:=c2.2 h;omega;exact h
 let⟨w,a0⟩:∃w:Nat,d.of=w:=⟨d.of.toNat,by omega⟩;have Y:w<Z a.aw:=by omega
 have co:fx a d r.aj.au=bV a.aw[w].az r.aj.au:=by
  rw[fx,a0,eR,bq Y]
 have d3:(r.aj.ax==3)=false:=by rw[l]<;>rfl
 have ai:(r.aj.ax==1)=true:=by rw[l]<;>rfl
 rw[ai,d3]at f;simp only[rf,l4,ri,AQ,y4]at f;rw[a0];apply eV _ (W3 a.aw w Y r.aj.au (d2.aN _ (bn Y))) (.ck u.mr (.ck (.int _ _ _) (.ck (.str _ _) (.nil _)))) (.int _ _);rw[<-co];refine tB n j (by simp[fe]) rfl rfl λP g=>?_;have g:Holds P ((U,.arr N 9 (b1.set z (fe (ih r o (fx a d r.aj.au)) E)))::k):=g;simp only[qf g,ng g,sC n g,O,e,fe,ih,dj,eH,A];refine b (λi=>?_) (λi=>?_)
 have i:fx a d r.aj.au<0:=by simpa using i
 have cs:gQ a r=false:=by rw[f];simp;omega
 exact .bad 70 _ _ (by omega) cs g;have i:0<=fx a d r.aj.au:=by simpa using i
 have ah:gQ a r=true:=by rw[f];simpa using i
 exact .mk 0 _ _ (by simp[ah]) (λ_=>by rw[tw,ac,W,if_pos l]) g;have l:r.aj.ax≠1:=by simpa using l
 have ai:(r.aj.ax==1)=false:=by simpa using l
 rw[ai]at f;simp only[ri,AQ,c3]at f;simp only[];refine b (λi=>?_) (λi=>?_);rw[i]at f;simp only[rf,l4]at f;have i:r.aj.ax=3:=by simpa using i
 let⟨d6,be,d5,J,dl⟩:=u.alu;simp only[O,d5];apply eV _ (En be r.aj.au) (.ck (Em J) (.ck (.str _ _) (.nil _))) (.int _ _);have c1:pz be r.aj.au=iR a r.aj.au:=dl _;rw[c1];refine tB n j (by simp[fe]) rfl rfl λP g=>?_;have g:Holds P ((U,.arr N 9 (b1.set z (fe (ih r o (iR a r.aj.au)) E)))::k):=g;simp only[qf g,ng g,sC n g,O,e,fe,ih,dj,eH,A];refine b (λt=>?_) (λt=>?_)
 have t:iR a r.aj.au<0:=by simpa using t
 have:y (0<=iR a r.aj.au)=false:=by simp;omega
 exact .bad 70 _ _ (by omega) (by grind) g;have t:0<=iR a r.aj.au:=by simpa using t
 let⟨p,a3,a4⟩:∃p:Nat,iR a r.aj.au=p/\p<Z a.aO:=by
  have:=Ar (λp:Fn=>p.au==r.aj.au) a.aO;grind[iR]
 rw[a3]at f g⊢;simp only[eR,bq a4]at f;have cc:y ((0:Int)<=(p:Int))=true:=by simp
 rw[cc,c3]at f;have T:=V _ g.tail;let⟨el,d4,bD⟩:=T.aO;let⟨id,gi,K,v,L⟩:=bD.at a4;simp only[T.nc,T.ao,O,e,fY,d4,K,pg v,c0 v L,cm,dj,eH,cv];refine b (λaA=>?_) (λaA=>?_);exact .bad 72 _ _ (by omega) (by grind) g;have ah:gQ a r=true:=by rw[f];simpa using aA
 exact .mk 0 _ _ (by simp[ah]) (λ_=>by rw[tw,ac,W,if_neg l,if_pos i,a3]) g;rw[i]at f;simp only[ri,AQ]at f;have i:r.aj.ax≠3:=by simpa using i
 exact .mk 0 _ _ (by simp[f]) (λ_=>by rw[tw,ac,W,if_neg l,if_neg i]) j
end AM
end Go
