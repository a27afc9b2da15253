/- The law DeriveRoundsUptoCardSaid: part 3 of 14 of the proof. No condition. -/
import Derived.Test.YtegalmbcaggfiaaGreatDoorXb
set_option maxRecDepth 100000
open List renaming length->Z,range->ay,replicate->dh
open Option renaming some->aa,none->ae
open Bool renaming true->ad,false->ab
open Decidable renaming decide->y
open Int renaming cast_ofNat_Int->arR
namespace Go
namespace AM
variable{M:List Obj}{T:Bool}
theorem bK(h:T=ab):aM M .res (AV.pl ff) (.bool T):=by simp[h]
theorem jk(h:T=ad):aM M .res (AV.pl tt) (.bool T):=by simp[h]
variable{F:Bool}
theorem iW(h:F=T):aM M .res (AV.pl (.bool T)) (.bool F):=by simp[h]
variable{fp iB:Prop}
theorem bw(a:iB)(h:T=false:=by exact rfl):ez (.bool T) fp iB:=by subst h;simpa using a
theorem a8(a:fp)(h:T=true:=by exact rfl):ez (.bool T) fp iB:=by subst h;simpa using a
theorem b(a:T=ad->fp)(c:T=ab->iB):ez (.bool T) fp iB:=by cases T<;>simp_all
variable{f ca:Int}
theorem K3(h:y (f<ca)=ab):y (ca<=f)=true:=by grind
theorem K4(h:y (f<ca)=ad):y (ca<=f)=false:=by grind
theorem e8.ah1(t:e8 C)(a:Lit)(K:vc a):PR C 313 [.agg (bg T a)] (.bool (oh a)):=by
 apply TJ.pr;have g:oh a=(y (0<=a.bb)&&y (1<=a.ax)&&y (a.ax<=5)&&eX 4 iN a.af&&
  (if(a.ax==5)=ad then a.au==[]else bY a.au)&&(if(a.ax==3||a.ax==4)=ad then bY a.aj else a.aj==[])&&(a.bind==[]||a.ax==1&&isVar a.bind)&&
  (if(a.ax==5)=ad then((Z a.af:Int)==2)&&y (1<=a.op)&&y (a.op<=4)else a.op==0)):=rfl
 generalize oh a=f at*;simp only[bz,rU,O,bh,aJ,ud,Kl,s6,Gg,Km,Dw,Gh,aX,A,eU,hz,kL,c6,jE,e,G,bI];have F:PR C 310 [eS T cT a.af,I 4,.fn 311 [] []] (.bool (eX 4 iN a.af)):=Ub (d:=iN) (by simp) rfl _ K (λL _=>vb (t.Ue L) (by simp));have q:∀(i:d)(k:Bool),PR C 308 [.str i,.bool k,.fn 300 [] []] (.bool (if k=ad then bY i else i==[])):=by grind[GL,yk]
 have H:∀(i:d)(k:Bool),PR C 308 [.str i,.bool k,.fn 309 [] []] (.bool (if k=ad then isVar i else i==[])):=by grind[GL,KZ]
 refine dH (λn=>?_) (λn=>a8 (bK (by rw[g,K4 n]<;>rfl)));refine dH (λo=>?_) (λo=>a8 (bK (by rw[g,K4 o];simp)));refine dH (λp=>?_) (λp=>a8 (bK (by rw[g,K4 p];simp)));apply c F;simp only[bI,O];refine b (by simp_all) (λx=>?_);have z:eX 4 iN a.af=true:=by simpa using x
 rw[K3 n,K3 o,K3 p,z]at g;simp only[c3]at g;apply c (q a.au (!(a.ax==5)));have v:(if(!(a.ax==5))=ad then bY a.au else a.au==[])=(if(a.ax==5)=ad then a.au==[]else bY a.au):=by cases(a.ax==5)<;>rfl
 rw[v];simp only[bI,O];generalize(if(a.ax==5)=ad then a.au==[]else bY a.au)=u at*;refine dH (λm=>?_) (λm=>a8 (bK (by simp only[hv]at m;rw[g,m];simp)));have B:u=true:=by simpa using m
 subst B;simp only[c3]at g;have r:∀l:Bool,l=(if(a.ax==3||a.ax==4)=ad then bY a.aj else a.aj==[])->bd (nw .not (.bool l)) λM=>
  gd M ab (gd (.bool (!(a.bind==[]))) ad (cp C 308 [.str a.bind,.bool (a.ax==1),.fn 309 [] []] [] λN=>bd (nw .not N) λP=>ez P (aM [] .res (AV.pl ff) (.bool f)) (ez (.bool (a.ax==5)) (gd (.bool ((Z a.af:Int)==2)) ad (gd (.bool (y (1<=a.op))) ad (aM [] .res (AV.pl (.bool (y (a.op<=4)))) (.bool f)) (aM [] .res (AV.pl ff) (.bool f))) (aM [] .res (AV.pl ff) (.bool f))) (aM [] .res (AV.pl (.bool (a.op==0))) (.bool f))))
   (ez ff (aM [] .res (AV.pl ff) (.bool f)) (ez (.bool (a.ax==5)) (gd (.bool ((Z a.af:Int)==2)) ad (gd (.bool (y (1<=a.op))) ad (aM [] .res (AV.pl (.bool (y (a.op<=4)))) (.bool f)) (aM [] .res (AV.pl ff) (.bool f))) (aM [] .res (AV.pl ff) (.bool f))) (aM [] .res (AV.pl (.bool (a.op==0))) (.bool f)))))
  (ez tt (aM [] .res (AV.pl ff) (.bool f)) (ez (.bool (a.ax==5)) (gd (.bool ((Z a.af:Int)==2)) ad (gd (.bool (y (1<=a.op))) ad (aM [] .res (AV.pl (.bool (y (a.op<=4)))) (.bool f)) (aM [] .res (AV.pl ff) (.bool f))) (aM [] .res (AV.pl ff) (.bool f))) (aM [] .res (AV.pl (.bool (a.op==0))) (.bool f)))):=by
  intro l J;rw[<-J]at g;simp only[bI,O];refine dH (λh=>?_) (λh=>a8 (bK (by simp only[hv]at h;rw[g,h];simp)));have D:l=true:=by simpa using h
  rw[D]at g;simp only[c3]at g;have last:(a.bind==[]||a.ax==1&&isVar a.bind)=ad->(ez (.bool (a.ax==5)) (gd (.bool ((Z a.af:Int)==2)) ad (gd (.bool (y (1<=a.op))) ad (aM [] .res (AV.pl (.bool (y (a.op<=4)))) (.bool f)) (aM [] .res (AV.pl ff) (.bool f))) (aM [] .res (AV.pl ff) (.bool f))) (aM [] .res (AV.pl (.bool (a.op==0))) (.bool f))):=by
   intro j;rw[j]at g;simp only[c3]at g;refine b (λs=>?_) (λs=>?_);rw[s]at g;simp only[if_true]at g;refine aV (λE=>?_) (by simp_all);rw[E]at g;refine aV (λQ=>?_) (by grind[bK]);simp_all;simp_all
  refine aV (λj=>?_) (λj=>bw (last (by simp at j;simp[j])));apply c (H _ _);simp only[bI,O];have w:(a.bind==[]||a.ax==1&&isVar a.bind)=(if(a.ax==1)=ad then isVar a.bind else a.bind==[]):=by
   have:(a.bind==[])=false:=by simpa using j
   rw[this];cases(a.ax==1)<;>rfl
  rw[w]at g last;refine(by grind[b,bK,Bool.not_eq_true'])
 refine dH (λh=>?_) (λh=>?_);refine c (q a.aj (a.ax==4)) ?_;exact r _ (by grind);refine c (q a.aj ad) ?_;exact r _ (by rw[h]<;>rfl)
theorem BE(a:T=ab->fp)(b:T=ad->iB):gd (.bool (!T)) ad fp iB:=by
 cases T<;>simp_all[jD]
theorem ib(a:T=ad->fp)(b:T=ab->iB):gd (.bool (!T)) ab fp iB:=by
 cases T<;>simp_all[jD]
theorem dw(a:T=ab->fp)(b:T=ad->iB):ez (.bool (!T)) fp iB:=by
 cases T<;>simp_all
theorem lQ(a b:Int):y (a<=b)= !y (b<a):=by grind
theorem ah2(a:aK):PR C 293 [.agg (cT a)] (.bool (iN a)):=by
 apply aeH.pr;have d:mb [I 0,I 0,.str []] []=aa (cV ⟨0,0,[]⟩):=rfl;simp only[bz,zC,O,bh,aJ,rV,jE,e,Kk,d,iN,G];refine b (λh=>?_) (λh=>?_);have:¬a.aF=[]:=by simpa using h
 rw[if_neg this];exact c (GJ _) (aV (λh=>by simp[h]) (λh=>by simp[h]));have:a.aF=[]:=by simpa using h
 rw[if_pos this];exact c (wB _) (by simp)
variable{K:Type}{x:List K}{ee:K -> Bool}{km:List AV -> List Obj -> (List AV -> List Obj -> Prop) -> Prop}
theorem BF{Q:AV->List Obj->Prop}(j:Sm x)
 (step:∀(a:Nat)(b:List AV->List Obj->Prop),(∀h:a<Z x,(ee x[a]=ad->b [ff,I ((a+1:Nat):Int)] M)->(ee x[a]=ab->Q (AV.pl ff) M)->km [ff,I a] M b)/\(Z x<=a->Q (AV.pl tt) M->km [ff,I a] M b))
 (f:x.all ee=ad->Q (AV.pl tt) M)(g:x.all ee=ab->Q (AV.pl ff) M):jB km [ff,I 0] M:=by
 apply bG (λa:Nat=>[ff,I a]) (λ_=>M) (λa=>Z x -a) (λa=>a<=Z x/\x.all ee=(x.drop a).all ee) 0 (by simp);rintro a ⟨i,d⟩ b e;by_cases h:a<Z x;refine(step a b).1 h (λc=>?_) (λc=>?_);exact e (a+1) ⟨h,by rw[d,DI h,c,c3]⟩ (by omega);grind;grind
variable{U:Nat}
theorem Sm.inc(a:Sm x)(h:U<Z x)(bk:BK):aT bk .add (I (U:Int)) (I 1)=aa (I ((U+1:Nat):Int)):=by grind[aZ,Sm]
theorem Us(d:List aK)(e:Sm d):PR C 248 [eS T cT d] (.bool (eX 4 iN d)):=by
 apply af5.pr;simp only[aX,O,eU];have g:eX 4 iN d=(!y ((4:Int)<Z d)&&d.all iN):=by
  unfold eX;rw[<-decide_not];congr 2;simp
 rw[g];refine b (by simp_all) (λh=>?_);rw[h];refine BF (ee:=iN) (Q:=λk f=>aM f .res k (.bool (!ab&&d.all iN))) e (λp l=>⟨λh o n=>?_,λh j=>?_⟩) (by simp) (by simp);simp only[O,i,G,A,c5,decide_eq_true_eq,a,h,if_true,aE h (kt _),lM];apply c (ah2 _);simp only[bI,O];refine b (by grind) (λm=>?_);rw[e.inc h,O];grind;simp only[O,i,G,A,c5,decide_eq_true_eq,a,if_neg (Nat.not_lt.2 h)];exact j
theorem Ut(a:d)(b:Bool):PR C 247 [.str a,.bool b] (.bool (b&&a==[]||bY a)):=by
 apply agw.pr;simp only[bz,gW,O,G];refine aV (λh=>?_) (λh=>?_);refine dH (λe=>?_) (by simp_all);exact c (s9 _) (iW (by rw[h,e]<;>rfl));exact c (s9 _) (iW (by rw[h]<;>rfl))
theorem ah3(a:Lit)(d:vc a):PR C 250 [.agg (bg T a)] (.bool (oh a)):=by
 apply aeb.pr;have g:oh a=(!y (a.bb<0)&& !y (a.ax<1)&& !y (5<a.ax)&&eX 4 iN a.af&&
  (if(a.ax==5)=ad then a.au==[]else bY a.au)&&(if(a.ax==3||a.ax==4)=ad then bY a.aj else a.aj==[])&&(a.bind==[]||a.ax==1&&isVar a.bind)&&
  (if(a.ax==5)=ad then((Z a.af:Int)==2)&&y (1<=a.op)&&y (a.op<=4)else a.op==0)):=by
  rw[<-lQ,<-lQ,<-lQ]<;>rfl
 generalize oh a=f at*;simp only[bz,rU,O,bh,aJ,ud,Kl,s6,Gg,Km,Dw,Gh,aX,A,eU,hz,kL,c6,cv,gW,jE,e,G,bI]
 repeat' first
  |refine BE (λ_=>?_) (λ_=>?_)
  |refine aV (λ_=>?_) (λ_=>?_)
  |refine ib (λ_=>?_) (λ_=>?_)
  |refine dH (λ_=>?_) (λ_=>?_)
  |refine a8 ?_
  |refine bw ?_
  |refine dw (λ_=>?_) (λ_=>?_)
  |refine b (λ_=>?_) (λ_=>?_)
  |(refine c (Us _ d) ?_;simp only[bI,O])
  |(refine c (s9 _) ?_;try simp only[bI,O])
  |(refine c (GJ _) ?_;try simp only[bI,O])
 all_goals(first|refine bK ?_|refine jk ?_|refine iW ?_)
 all_goals grind
variable{bF:List AV}
theorem eB{c:Nat->List AV}(b:Nat->Prop)(e:b 0)(f:c 0=bF)
 (step:∀a,a<U->b a->∀d:List AV->List Obj->Prop,(b (a+1)->d (c (a+1)) M)->km (c a) M d)
 (last:b U->∀d:List AV->List Obj->Prop,km (c U) M d):jB km bF M:=by
 refine bG c (λ_=>M) (λa=>U -a) (λa=>a<=U/\b a) 0 ⟨by omega,e⟩ ?_ f rfl;grind
variable{lx:List K}
theorem Uu(h:U<Z x)(a:U<Z lx)(c:x.take U=lx.take U)(b:x[U]=lx[U]):x.take (U+1)=lx.take (U+1):=by
 grind[List.take_succ_eq_append_getElem]
theorem ui(g:Z x=Z lx){c:Nat->List AV}(e:c 0=bF)
 (step:∀a(h:a<Z x)(j:a<Z lx),∀b:List AV->List Obj->Prop,(x[a]=lx[a]->b (c (a+1)) M)->(x[a]≠lx[a]->x≠lx)->km (c a) M b)
 (last:x=lx->∀b:List AV->List Obj->Prop,km (c (Z x)) M b):jB km bF M:=by
 refine eB (U:=Z x) (c:=c) (λa=>x.take a=lx.take a) (by simp) e (λa d i b k=>?_) (λi b=>?_);refine step a d (g▸d) b (by grind[Uu]) (λf l=>f ?_);grind;grind
theorem Sm.lt(a:Sm x)(h:U<Z x):U<4611686018427387904:=by grind[Sm]
theorem td(h:((Z x:Int) !=Z lx)=ab):Z x=Z lx:=by
 grind
theorem ah4(a w:Int×Int):gb [0,0] (b3 a) (b3 w)=aa (y (a=w)):=by
 let⟨b,c⟩:=a;let⟨d,e⟩:=w;have:y (((b,c):Int×Int)=(d,e))=((b==d)&&((c==e)&&ad)):=by
  rw[iA];simp
 rw[this];rfl
theorem ah5(a w:aK):gb [1,0,0,1] (cT a) (cT w)=aa (y (a=w)):=by
 let⟨h,b,c,d⟩:=a;let⟨i,e,f,g⟩:=w;have:y ((⟨h,b,c,d⟩:aK)=⟨i,e,f,g⟩)=((h==i)&&((b==e)&&((c==f)&&((d==g)&&ad)))):=by
  rw[iA];simp
 rw[this];rfl
theorem Uv(a w:pV):gb [0,1,1,0] (n9 a) (n9 w)=aa (y (a=w)):=by
 let⟨h,b,c,d⟩:=a;let⟨i,e,f,g⟩:=w;have:y ((⟨h,b,c,d⟩:pV)=⟨i,e,f,g⟩)=((h==i)&&((b==e)&&((c==f)&&((d==g)&&ad)))):=by
  rw[iA];simp
 rw[this];rfl
@[simp] theorem ah6(b w:Int×Int):aT (.a 2 [0,0]) .neq (.agg (b3 b)) (.agg (b3 w))=aa (.bool (!y (b=w))):=by
 simp[aT,ah4]
@[simp] theorem ah7(b w:aK):aT (.a 4 [1,0,0,1]) .neq (.agg (cT b)) (.agg (cT w))=aa (.bool (!y (b=w))):=by
 simp[aT,ah5]
@[simp] theorem ah8(b w:pV):aT (.a 4 [0,1,1,0]) .neq (.agg (n9 b)) (.agg (n9 w))=aa (.bool (!y (b=w))):=by
 simp[aT,Uv]
@[simp] theorem aug(b w:pV):aT (.a 4 [0,1,1,0]) .eql (.agg (n9 b)) (.agg (n9 w))=aa (.bool (y (b=w))):=by
 simp[aT,Uv]
variable{dW oN:K}
theorem GM[DecidableEq K](h:dW≠oN):y (dW=oN)=false:=by simp[h]
theorem K5(e g:List d)(l:Sm e):PR C 145 [eS T cS e,eS F cS g] (.bool (y (e=g))):=by
 apply afR.pr;simp only[aX,O,cv];refine b (by grind[bK]) (λh=>?_);refine ui (td h) (c:=λf=>[ff,I f]) rfl (λf c k j o m=>?_) (λh j=>?_);simp only[O,i,G,A,a,c,decide_true,aE c (iS _),aE k (iS _),aJ,lO,jE];refine a8 (b (λh=>bK (GM (m (by simpa using h)))) (λh=>?_));rw[l.inc c,O];grind;simp only[O,i,G,A,a,cn,decide_false];exact bw (jk (by simp[h]))
theorem va(d f:List Int)(k:Sm d):PR C 21 [eS T cI d,eS F cI f] (.bool (y (d=f))):=by
 apply Tn.pr;simp only[aX,O,cv];refine b (by grind[bK]) (λh=>?_);refine ui (td h) (c:=λe=>[ff,I e]) rfl (λe c j g n l=>?_) (λh g=>?_);simp only[O,i,G,A,a,c,decide_true,aE c (jh _),aE j (jh _),aJ,lN,cv];refine a8 (b (λh=>bK (GM (l (by simpa using h)))) (λh=>?_));rw[k.inc c,O];grind;simp only[O,i,G,A,a,cn,decide_false];exact bw (jk (by simp[h]))
theorem Uw(d f:List aK)(k:Sm d):PR C 202 [eS T cT d,eS F cT f] (.bool (y (d=f))):=by
 apply agq.pr;simp only[aX,O,cv];refine b (by grind[bK]) (λh=>?_);refine ui (td h) (c:=λe=>[ff,I e]) rfl (λe c j g n l=>?_) (λh g=>?_);simp only[O,i,G,A,a,c,decide_true,aE c (kt _),aE j (kt _),lM,ah7];refine a8 (b (λh=>bK (GM (l (by simpa using h)))) (λh=>?_));rw[k.inc c,O];grind;simp only[O,i,G,A,a,cn,decide_false];exact bw (jk (by simp[h]))
theorem Ux(d f:List aG)(k:Sm d):PR C 100 [eS T cV d,eS F cV f] (.bool (y (d=f))):=by
 apply afo.pr;simp only[aX,O,cv];refine b (by grind[bK]) (λh=>?_);refine ui (td h) (c:=λe=>[ff,I e]) rfl (λe c j g n l=>?_) (λh g=>?_);simp only[O,i,G,A,a,c,decide_true,aE c (s4 _),aE j (s4 _),u9,QY];refine a8 (b (λh=>bK (GM (l (by simpa using h)))) (λh=>?_));rw[k.inc c,O];grind;simp only[O,i,G,A,a,cn,decide_false];exact bw (jk (by simp[h]))
theorem ah9(a b:S)(i:Sm a.af):PR C 47 [.agg (cF T a),.agg (cF F b)] (.bool (y (a=b))):=by
 apply afj.pr;have f:y (a=b)=((a.ah==b.ah)&&(y (a.af=b.af)&&(a.aj==b.aj))):=by
  let⟨j,T,k⟩:=a;let⟨l,m,g⟩:=b;rw[iA];simp
 rw[f];simp only[pX,O,bz,bh,aJ,oc,s7,s8,e,c6,G];refine aV (λh=>?_) (by simp_all);refine c (Ux _ _ i) (aV (λd=>iW (by rw[h,d];simp)) (λd=>bK (by rw[h,d];simp)))
variable{bC c8:Bool}
theorem aia(e g:List S)(n:Sm e)(l:∀k∈e,Sm k.af):PR C 15 [eS bC (cF T) e,eS c8 (cF F) g] (.bool (y (e=g))):=by
 apply adX.pr;simp only[aX,O,cv];refine b (by grind[bK]) (λh=>?_);refine ui (td h) (c:=λf=>[ff,I f]) rfl (λf d m j p q=>?_) (λh j=>?_);simp only[O,i,G,A,a,d,decide_true,aE d (fB _ _),aE m (fB _ _),ku];refine a8 (c (ah9 _ _ (l _ (bn d))) ?_);simp only[bI,O];refine b (by simp_all) (λh=>?_);rw[n.inc d,O];grind;simp only[O,i,G,A,a,cn,decide_false];exact bw (jk (by simp[h]))
theorem aib(b d:Lit)(i:Sm b.af):PR C 203 [.agg (bg T b),.agg (bg F d)] (.bool (y (b=d))):=by
 apply ad8.pr;have f:y (b=d)=((b.ax==d.ax)&&((b.au==d.au)&&((b.ah==d.ah)&&(y (b.af=d.af)&&((b.bind==d.bind)&&((b.aj==d.aj)&&((b.iG==d.iG)&&((b.op==d.op)&&(b.bb==d.bb))))))))):=by
  let⟨j,T,l,n,p,r,g,h,v⟩:=b;let⟨k,F,m,o,q,s,t,u,w⟩:=d;rw[iA];simp
 rw[f];clear f;simp only[rU,O,bz,bh,aJ,ud,Kl,zE,s6,Gg,Km,QU,Dw,Gh,e,c6,gW,G];refine aV (λa=>?_) (by simp_all);rw[a,c3];refine aV (λa=>?_) (by simp_all);rw[a,c3];refine aV (λa=>?_) (by simp_all);rw[a,c3];apply c (Uw _ _ i);refine aV (λa=>?_) (by simp_all);rw[a,c3];refine aV (λa=>?_) (by simp_all);rw[a,c3];refine aV (λa=>?_) (by simp_all);rw[a,c3];refine aV (λa=>?_) (by simp_all);rw[a,c3]
 refine aV (λa=>?_) (by simp_all);simp_all
theorem BG(h:(f !=ca)=ab):f=ca:=by grind
variable{bL mG:d}
theorem DL(h:(!(bL==mG))=ab):bL=mG:=by grind
theorem DM[DecidableEq K](h:(!y (dW=oN))=ab):dW=oN:=by grind
theorem aic(h:(!(T==F))=ab):T=F:=by grind
theorem ea(b:T=ad->iB)(a:T=ab->fp):gd (.bool T) ab fp iB:=dH a b
theorem aid(f k:aD)(g:pZ f):PR C 146 [.agg (aS T f),.agg (aS F k)] (.bool (y (f=k))):=by
 apply afS.pr;simp only[o9,O,bz,bh,aJ,Kn,Bo,wy,qN,Bp,e,QJ,aX,cv,jE,ah8,G];refine ea (by grind[a8,bK]) (λv=>?_);refine ea (by grind[a8,bK]) (λw=>?_);apply c (Uw _ _ g.1);simp only[bI,O];refine ea (by grind[a8,bK]) (λx=>?_);refine ea (by grind[a8,bK]) (λz=>?_);refine ea (by grind[a8,bK]) (λB=>?_);refine b (by grind[bK]) (λm=>?_);refine ui (td m) (c:=λj=>[ff,I j]) rfl (λj d n l D E=>?_) (λh l=>?_)
 simp only[O,i,G,A,a,d,decide_true,aE d (jC _ _),aE n (jC _ _),o8];refine a8 (c (aib _ _ (g.2.2 _ (bn d))) ?_);simp only[bI,O];refine b (by grind[bK]) (λh=>?_);rw[g.2.1.inc d,O];grind;simp only[O,i,G,A,a,cn,decide_false];refine bw (jk ?_);let⟨o,t,p,q,r,s⟩:=f;simp_all
@[simp] theorem DN(b:Bool)(a:bQ):g (bp b a) 0=.str a.au:=rfl
@[simp] theorem DO(a:Bool)(b:bQ):g (bp a b) 1=eS a cS b.az:=rfl
@[simp] theorem DP(a:Bool)(b:bQ):g (bp a b) 2=eS a b3 b.eK:=rfl
@[simp] theorem DQ(b:Bool)(a:bQ):g (bp b a) 3=I a.bb:=rfl
@[simp] theorem GN(b:Bool)(a:Fn):g (cm b a) 0=.str a.au:=rfl
@[simp] theorem GO(b:Bool)(a:Fn):g (cm b a) 1=.str a.aN:=rfl
@[simp] theorem Uy(b:Bool)(a:Fn):g (cm b a) 2=I a.of:=rfl
@[simp] theorem GP(a:Bool)(b:Fn):g (cm a b) 3=eS a cS b.src:=rfl
@[simp] theorem GQ(a:Bool)(b:Fn):g (cm a b) 4=eS a cS b.dst:=rfl
@[simp] theorem Uz(a:Bool)(b:Fn):g (cm a b) 5=eS a cI b.gU:=rfl
@[simp] theorem GR(b:Bool)(a:Fn):g (cm b a) 6=I a.bb:=rfl
@[simp] theorem rZ(b:Bool)(a:cO):g (bO b a) 0=.str a.au:=rfl
@[simp] theorem r1(a:Bool)(b:cO):g (bO a b) 1=eS a cI b.a6:=rfl
@[simp] theorem r2(b:Bool)(a:cO):g (bO b a) 2=.str a.aN:=rfl
@[simp] theorem te(b:Bool)(a:cO):g (bO b a) 3=I a.of:=rfl
@[simp] theorem sa(b:Bool)(a:cO):g (bO b a) 4=.bool a.ek:=rfl
@[simp] theorem sb(b:Bool)(a:cO):g (bO b a) 5=I a.fy:=rfl
@[simp] theorem sd(b:Bool)(a:cO):g (bO b a) 6=I a.bb:=rfl
@[simp] theorem wG(b:Bool)(a:Lit):g (bg b a) 0=I a.ax:=rfl
@[simp] theorem wH(b:Bool)(a:Lit):g (bg b a) 1=.str a.au:=rfl
@[simp] theorem yp(b:Bool)(a:Lit):g (bg b a) 2=I a.ah:=rfl
@[simp] theorem wI(a:Bool)(b:Lit):g (bg a b) 3=eS a cT b.af:=rfl
@[simp] theorem wJ(b:Bool)(a:Lit):g (bg b a) 4=.str a.bind:=rfl
@[simp] theorem wK(b:Bool)(a:Lit):g (bg b a) 5=.str a.aj:=rfl
@[simp] theorem yq(b:Bool)(a:Lit):g (bg b a) 6=I a.iG:=rfl
@[simp] theorem wL(b:Bool)(a:Lit):g (bg b a) 7=I a.op:=rfl
@[simp] theorem wM(b:Bool)(a:Lit):g (bg b a) 8=I a.bb:=rfl
@[simp] theorem vh(b:Bool)(a:aD):g (aS b a) 0=.str a.au:=rfl
@[simp] theorem wN(b:Bool)(a:aD):g (aS b a) 1=I a.ah:=rfl
@[simp] theorem vi(a:Bool)(b:aD):g (aS a b) 2=eS a cT b.af:=rfl
@[simp] theorem vj(b:Bool)(a:aD):g (aS b a) 3=I a.aj.ax:=rfl
@[simp] theorem vk(b:Bool)(a:aD):g (aS b a) 4=.str a.aj.au:=rfl
@[simp] theorem vl(b:Bool)(a:aD):g (aS b a) 5=.str a.aj.aF:=rfl
@[simp] theorem wO(b:Bool)(a:aD):g (aS b a) 6=I a.aj.aR:=rfl
@[simp] theorem vm(a:Bool)(b:aD):g (aS a b) 7=eS a (bg a) b.ai:=rfl
@[simp] theorem uj(b:Bool)(a:aD):g (aS b a) 8=I a.bb:=rfl
@[simp] theorem aul(a c:Bool)(b:D):g (cP a c b) 0=eS a (bp a) b.aw:=rfl
@[simp] theorem aum(a c:Bool)(b:D):g (cP a c b) 1=eS a (cm a) b.aO:=rfl
@[simp] theorem aun(a c:Bool)(b:D):g (cP a c b) 2=eS a (bO a) b.Q:=rfl
@[simp] theorem auo(a b:Bool)(c:D):g (cP a b c) 3=eS b (aS a) c.ak:=rfl
@[simp] theorem aie(b:Bool)(a:S):g (cF b a) 0=I a.ah:=rfl
@[simp] theorem aif(a:Bool)(b:S):g (cF a b) 1=eS a cV b.af:=rfl
@[simp] theorem aih(b:Bool)(a:S):g (cF b a) 2=I a.aj:=rfl
@[simp] theorem aup(a:aG):g (cV a) 0=I a.ty:=rfl
@[simp] theorem auq(a:aG):g (cV a) 1=I a.n:=rfl
@[simp] theorem aur(a:aG):g (cV a) 2=.str a.s:=rfl
@[simp] theorem UA(a:aK):g (cT a) 0=.str a.aF:=rfl
@[simp] theorem aii(a:aK):g (cT a) 1=I a.const.ty:=rfl
@[simp] theorem aij(a:aK):g (cT a) 2=I a.const.n:=rfl
@[simp] theorem aik(a:aK):g (cT a) 3=.str a.const.s:=rfl
theorem ail(n s:D)(r:eA n):PR C 85 [.agg (cP T F n),.agg (cP bC c8 s)] (.bool (y (n=s))):=by
 refine aeW.pr ?_;simp only[eE,O,bz,bh,aJ,rW,wz,kv,pb,e,aX,cv,G];refine ea (λh=>a8 (by grind[bK])) (λK=>?_);refine ea (λh=>a8 (by grind[bK])) (λL=>?_);refine ea (λh=>a8 (by grind[bK])) (λM=>?_);refine b (by grind[bK]) (λN=>?_);refine ui (td K) (c:=λd=>[ff,I d]) rfl (λd f u t v m=>?_) (λK t=>?_);have m:=λh k=>m h (congrArg D.aw k)
 simp only[O,i,G,A,a,f,decide_true,aE f (kK _ _),aE u (kK _ _),jj,zB,DN,DO,DP,DQ,jE,aX,cv];refine a8 (ea (λh=>a8 (by grind[bK])) (λe0=>?_));refine c (K5 _ _ (r.aN _ (bn f)).1) ?_;simp only[bI,O];refine ea (λh=>a8 (by grind[bK])) (λg=>?_);refine ea (λh=>a8 (by grind[bK])) (λj=>?_);refine b (by grind[bK]) (λl=>?_)
 refine ui (td l) (c:=λP=>[ff,I P,.str n.aw[d].au,eS T cS n.aw[d].az,eS T b3 n.aw[d].eK,I n.aw[d].bb,.str s.aw[d].au,eS bC cS s.aw[d].az,eS bC b3 s.aw[d].eK,I s.aw[d].bb]) rfl (λP z U S Y Z=>?_) (λh S=>?_);simp only[O,i,G,A,aX,a,z,decide_true,aE z (ub _),aE U (ub _),QI,ah6];refine a8 (b (by grind[bK]) (λh=>?_));rw[(r.aN _ (bn f)).2.inc z,O];grind;simp only[O,i,G,A,aX,a,cn,decide_false]
 refine bw ?_;rw[r.aw.inc f,O];refine v ?_;have e0:=DL e0;have g:=DM g;have j:=BG j;revert h e0 g j;generalize n.aw[d]=x;generalize s.aw[d]=R;intro h e0 g j;obtain⟨B,E,H,J⟩:=x;simp_all;simp only[O,i,G,A,a,cn,decide_false];refine bw ?_;refine ui (td L) (c:=λd=>[ff,I d]) rfl (λd f u t v m=>?_) (λL t=>?_);have m:=λh k=>m h (congrArg D.aO k);have w:=r.fn _ (bn f)
 simp only[O,i,G,A,a,f,decide_true,aE f (s5 _ _),aE u (s5 _ _),Dq,F6,GN,GO,Uy,GP,GQ,Uz,GR,jE,cv];refine a8 (ea (λh=>a8 (by grind[bK])) (λe0=>?_));refine ea (λh=>a8 (by grind[bK])) (λg=>?_);refine ea (λh=>a8 (by grind[bK])) (λj=>?_);refine c (K5 _ _ w.1) ?_;simp only[bI,O];refine ea (λh=>a8 (by grind[bK])) (λl=>?_);refine c (K5 _ _ w.2.1) ?_;simp only[bI,O]
 refine ea (λh=>a8 (by grind[bK])) (λo=>?_);refine c (va _ _ w.2.2) ?_;simp only[bI,O];refine ea (λh=>a8 (by grind[bK])) (λp=>?_);refine b (by grind[bK]) (λq=>?_);rw[r.aO.inc f,O];refine v ?_;have e0:=DL e0;have g:=DL g;have j:=BG j;have l:=DM l;have o:=DM o;have p:=DM p;have q:=BG q;revert e0 g j l o p q;generalize n.aO[d]=x;generalize s.aO[d]=R;intro e0 g j l o p q
 obtain⟨B,E,H,J,V,W,X⟩:=x;simp_all;simp only[O,i,G,A,a,cn,decide_false];refine bw ?_;refine ui (td M) (c:=λd=>[ff,I d]) rfl (λd f u t v m=>?_) (λM t=>?_);have m:=λh k=>m h (congrArg D.Q k);have w:=r.tb _ (bn f);simp only[O,i,G,A,a,f,decide_true,aE f (ji _ _),aE u (ji _ _),wu,yb,rZ,r1,r2,te,sa,sb,sd,jE,cv,Bq];refine a8 (ea (λh=>a8 (by grind[bK])) (λe0=>?_));refine c (va _ _ w) ?_;simp only[bI,O]
 refine ea (λh=>a8 (by grind[bK])) (λg=>?_);refine ea (λh=>a8 (by grind[bK])) (λj=>?_);refine ea (λh=>a8 (by grind[bK])) (λl=>?_);refine ea (λh=>a8 (by grind[bK])) (λo=>?_);refine ea (λh=>a8 (by grind[bK])) (λp=>?_);refine b (by grind[bK]) (λq=>?_);rw[r.Q.inc f,O];refine v ?_;have e0:=DL e0;have g:=DM g;have j:=DL j;have l:=BG l;have o:=aic o;have p:=BG p;have q:=BG q;revert e0 g j l o p q
 generalize n.Q[d]=x;generalize s.Q[d]=R;intro e0 g j l o p q;obtain⟨B,E,H,J,V,W,X⟩:=x;simp_all;simp only[O,i,G,A,a,cn,decide_false];refine bw ?_;refine ui (td N) (c:=λd=>[ff,I d]) rfl (λd f u t v m=>?_) (λN t=>?_);have m:=λh k=>m h (congrArg D.ak k);simp only[O,i,G,A,a,f,decide_true,aE f (mP _ _),aE u (mP _ _),nF];refine a8 (c (aid _ _ (r.iU _ (bn f))) ?_);simp only[bI,O]
 refine b (by simp_all) (λh=>?_);rw[r.ak.inc f,O];grind;simp only[O,i,G,A,a,cn,decide_false];refine bw (jk ?_);obtain⟨B,E,H,J⟩:=n;simp_all
variable{rI:List AV -> List Obj -> Prop}
theorem dA{a:(List AV->List Obj->Prop)->Prop}(c:Bool)(d:∀b:List AV->List Obj->Prop,b [.bool c] M->a b)(e:rI [.bool c] M):jn a rI:=d rI e
theorem kB(a:rI [.bool T] M)(h:T=F):rI [.bool F] M:=h▸a
theorem yr(h:U<Z x)(a:ee x[U]=ab):x.all ee=false:=by
 grind
theorem oi(h:U<Z x):(x.take (U+1)).all ee=((x.take U).all ee&&ee x[U]):=by
 grind[List.take_succ_eq_append_getElem]
theorem e8.aim(q:e8 C)(r:aD)(o:pZ r):PR C 263 [.agg (aS T r)] (.bool (nK r)):=by
 apply SN.pr;have w:nK r=(!y (r.bb<0)&& !y (r.aj.ax<0)&& !y (3<r.aj.ax)&&(r.au==[]||bY r.au)&&(!(r.au==[])|| !(y (0<(Z r.af:Int))|| !(r.aj.ax==0)))&&
  (if(r.aj.ax==1||r.aj.ax==3)=ad then bY r.aj.au else r.aj.au==[])&&(if(r.aj.ax==2||r.aj.ax==3)=ad then isVar r.aj.aF else r.aj.aF==[])&&
  eX 4 iN r.af&&eX 8 oh r.ai):=by
  rw[<-lQ,<-lQ,<-lQ]<;>rfl
 generalize nK r=B at*;have x:PR C 310 [eS T cT r.af,I 4,.fn 311 [] []] (.bool (eX 4 iN r.af)):=Ub (by simp) rfl _ o.1 (λk _=>vb (q.Ue k) (by simp));have v:PR C 312 [eS T (bg T) r.ai,I 8,.fn 313 [] []] (.bool (eX 8 oh r.ai)):=ahf (by simp) rfl _ o.2.1 (λk z=>vb (q.ah1 k (o.2.2 k z)) (by simp))
 have s:∀(a:d)(f:Bool),PR C 308 [.str a,.bool f,.fn 300 [] []] (.bool (if f=ad then bY a else a==[])):=by grind[GL,yk]
 have i:∀(a:d)(f:Bool),PR C 308 [.str a,.bool f,.fn 309 [] []] (.bool (if f=ad then isVar a else a==[])):=by grind[GL,KZ]
 simp only[o9,O,bh,aJ,Kn,wy,Gi,QV,Gj,qN,Bp,e,fY,Nat.reduceAdd,aX,A,eU,c6,cv,gW,jE];refine dA (M:=[]) (!(!y (r.bb<0)&& !y (r.aj.ax<0)&& !y (3<r.aj.ax)&&(r.au==[]||bY r.au)&&(!(r.au==[])|| !(y (0<(Z r.af:Int))|| !(r.aj.ax==0))))) (λt j=>?_) ?_;refine ea (by grind) (λl=>?_);refine ea (by grind) (λm=>?_);refine ea (by grind) (λg=>?_);refine BE (λn=>?_) (λn=>?_);refine c (yk _) ?_;simp only[bI,O]
 refine ib (λu=>?_) (by grind);refine aV (λh=>?_) (λh=>kB j ?_);rw[h]at n;cases n;grind;refine aV (λ_=>ea (by grind) (λu=>kB j ?_)) (λh=>?_);grind;grind;simp only[G];refine b (λh=>bK ?_) (λh=>?_);grind;simp only[OU]at h;rw[w,h,c3];refine dA (M:=[]) ((if(r.aj.ax==1||r.aj.ax==3)=ad then bY r.aj.au else r.aj.au==[])&&(if(r.aj.ax==2||r.aj.ax==3)=ad then isVar r.aj.aF else r.aj.aF==[])) (λt j=>?_) ?_
 refine dH (λl=>?_) (λl=>?_);refine c (s _ _) (aV (λm=>dH (λg=>?_) (λg=>?_)) (by grind));refine c (i _ _) (by grind);refine c (i _ _) (by grind);refine c (s _ _) (aV (λm=>dH (λg=>?_) (λg=>?_)) (by grind));refine c (i _ _) (by grind);refine c (i _ _) (by grind)
 generalize((if(r.aj.ax==1||r.aj.ax==3)=ad then bY r.aj.au else r.aj.au==[])&&(if(r.aj.ax==2||r.aj.ax==3)=ad then isVar r.aj.aF else r.aj.aF==[]))=W;refine dA (M:=[]) (W&&eX 4 iN r.af&&eX 8 oh r.ai) (λt j=>?_) (iW rfl);refine aV (λl=>c x (aV (λm=>c v (by grind)) (by grind))) (by grind)
theorem e8.ain(g:e8 C)(a:D)(d:eA a):PR C 209 [.agg (cP T F a)] (.bool (rY a)):=by
 apply RI.pr;have h:PR C 257 [eS T (bp T) a.aw,I 4,.fn 256 [] []] (.bool (eX 4 zL a.aw)):=ahg (by simp) rfl _ d.aw (by simp[vb,ahn]);have i:PR C 258 [eS T (cm T) a.aO,I 8,.fn 259 [] []] (.bool (eX 8 uf a.aO)):=ahh (by simp) rfl _ d.aO (λb f=>vb (aho b (d.fn b f)) (by simp))
 have j:PR C 260 [eS T (bO T) a.Q,I 24,.fn 261 [] []] (.bool (eX 24 ug a.Q)):=ahi (by simp) rfl _ d.Q (λb f=>vb (ahp b (d.tb b f)) (by simp));have k:PR C 262 [eS F (aS T) a.ak,I 40,.fn 263 [] []] (.bool (eX 40 nK a.ak)):=ahj (by simp) rfl _ d.ak (λb f=>vb (g.aim b (d.iU b f)) (by simp));simp only[eE,O,bh,aJ,rW,wz,kv,pb,e,bz,G];refine c h (aV (λl=>?_) (by simp_all[rY]))
 refine c i (aV (λm=>?_) (by simp_all[rY]));refine c j (aV (λn=>?_) (by simp_all[rY]));exact c k (by simp_all[rY])
theorem aio(d:Fn)(v:zM d):PR C 191 [.agg (cm T d)] (.bool (uf d)):=by
 apply ae7.pr;have t:uf d=(!y (d.bb<0)&&bY d.au&&bY d.aN&&((Z d.src:Int)==Z d.dst)&&(!y (8<(Z d.src:Int))&&d.src.all bY)&&(!y (8<(Z d.dst:Int))&&d.dst.all bY)):=by
  rw[<-lQ,<-lQ,<-lQ]<;>rfl
 generalize uf d=n at*;simp only[F7,O,bz,bh,aJ,QL,QM,Dt,Du,QP,e,aX,A,eU,cv,G];refine ea (by simp_all) (λp=>?_);apply c (s9 _);simp only[bI,O];refine ib (λq=>?_) (by simp_all);apply c (s9 _);simp only[bI,O];refine ib (λr=>?_) (by simp_all);refine ea (λh=>a8 (bK ?_)) (λs=>?_);grind;refine b (by simp_all) (λk=>?_);have j:=td s;have z:n=(d.src.all bY&&d.dst.all bY):=by
  rw[t,p,q,r,k,<-j,k];simp
 refine eB (U:=Z d.src) (c:=λf=>[ff,I f]) (λf=>(d.src.take f).all bY=ad/\(d.dst.take f).all bY=ad) (by simp) rfl (λf g l m B=>?_) (λl m=>?_);have u:=j▸g;simp only[O,i,G,A,a,g,decide_true,aE g (iS _),aE u (iS _),aJ,lO];refine a8 (c (s9 _) ?_);simp only[bI,O];refine ib (λw=>?_) (λo=>a8 (by grind[bK,yr]));apply c (s9 _);simp only[bI,O];refine dw (by grind[bK,yr]) (λx=>?_);rw[v.1.inc g,O];grind[oi]
 simp only[O,i,G,A,a,cn,decide_false];rw[dY,j,dY]at l;exact bw (by simp_all)
theorem aip:∀a b c d e f g h:Bool,(!a&&b&& !c&&d&& !e&& !f&&g)=ad->(!a&&b&&d&&(!c&&h)&& !e&& !f&&g)=h:=by decide
theorem aiq(d:cO)(j:DJ d):PR C 192 [.agg (bO T d)] (.bool (ug d)):=by
 apply agn.pr;have m:ug d=(!y (d.bb<0)&&bY d.au&&(d.aN==[]||bY d.aN)&&(!y (4<(Z d.a6:Int))&&d.a6.all mT)&& !y (d.fy<0)&& !y ((Z d.a6:Int)<d.fy)&&(d.fy==(Z d.a6:Int)||d.ek&&d.aN==[])):=by
  rw[<-lQ,<-lQ,<-lQ,<-lQ]<;>rfl
 generalize ug d=k at*;simp only[F8,O,bh,aJ,QQ,wx,QR,Ge,QS,QT,e,aX,A,eU,cv,jE,bI];refine dA (M:=[]) (!(!y (d.bb<0)&&bY d.au&& !y (4<(Z d.a6:Int))&&(d.aN==[]||bY d.aN)&& !y (d.fy<0)&& !y ((Z d.a6:Int)<d.fy)&&(d.fy==(Z d.a6:Int)||d.ek&&d.aN==[]))) (λF t=>?_) ?_;refine ea (by grind) (λf=>?_);apply c (s9 _);simp only[bI,O];refine ib (λg=>?_) (by grind);refine ea (by grind) (λo=>?_);apply c (Ut _ _)
 simp only[bI,O];refine ib (λl=>?_) (by grind);rw[c3]at l;refine ea (by grind) (λp=>?_);refine ea (by grind) (λq=>?_);rw[f,g,o,l,p,q]at t;refine aV (λr=>ib (λs=>?_) (λs=>?_)) (λr=>?_);grind;grind;grind;simp only[G];refine dw (λh=>bK ?_) (λh=>?_);grind;have B:k=d.a6.all mT:=by
  rw[m];exact aip _ _ _ _ _ _ _ _ h
 clear m h;refine BF (ee:=mT) (Q:=λw n=>aM n .res w (.bool k)) j (λE z=>⟨λh D u=>?_,λh v=>?_⟩) (by simp_all) (by simp_all);simp only[O,i,G,A,a,h,decide_true,aE h (jh _),aJ,lN,cv,bz];refine a8 (aV (λf=>b (λg=>u ?_) (λg=>?_)) (λf=>bw ?_));grind[mT];rw[Sm.inc j h,O];grind[mT];rw[Sm.inc j h,O];grind[mT];simp only[O,i,G,A,a];exact bw v (by simp;omega)
def a1(a:List Obj)(id e:Nat)(b:K->List AV)(c:Nat)(d:List K):List Obj:=a.set id (.arr c e (d.map b))
variable{a7:K -> List AV}{N:Nat}
theorem oj{id:Nat}(h:id<Z M):(a1 M id U a7 N x)[id]?=aa (.arr N U (x.map a7)):=by
 simp[a1,h]
theorem pd{id:Nat}:Z (a1 M id U a7 N x)=Z M:=by simp[a1]
theorem UB(d:∀c,Z (a7 c)=U)(b:List K):(b.map a7).all (λa=>Z a==U)=true:=by
 grind
theorem uk(e:∀d,Z (a7 d)=U)(b:List Obj)(c:Bool)(a:List K):h6 b U (eS c a7 a)=aa (a.map a7):=by
 grind[h6,eS]
variable{E:AV}
theorem GS{id bytes:Nat}(h:id<Z M)(b:h6 (a1 M id U a7 N x) U E=aa (lx.map a7))(a:(Z x+Z lx)*bytes<=2^47):
 cJ U bytes (.q id N 0 (Z x)) E (a1 M id U a7 N x)=aa (.q id (N+1) 0 (Z (x++lx)),a1 M id U a7 (N+1) (x++lx)):=by
 simp_all[cJ,AV.isNil,e6,jX,gT,a1,gC,hJ]
theorem p2{id bytes:Nat}(a:K)(h:id<Z M)(c:Z (a7 a)=U)(b:(Z x+1)*bytes<=2^47):
 cJ U bytes (.q id N 0 (Z x)) (.sl ab [a7 a]) (a1 M id U a7 N x)=aa (.q id (N+1) 0 (Z (x++[a])),a1 M id U a7 (N+1) (x++[a])):=by
 grind[GS,h6]
variable{b0:Type}{oR:b0}
theorem aY{b:Option (K×b0)}{a:K->b0->Prop}(h:b=aa (dW,oR))(c:a dW oR):cq b a:=by subst h;exact c
variable{rK:Option K}
theorem aI{a:K->Prop}(h:rK=aa dW)(b:a dW):bd rK a:=by subst h;exact b
variable{p:List d}{iC:AV -> List Obj -> Prop}
theorem UC{id:Nat}(h:id<Z M)(b:Z p<1099511627776)(a:iC (.q id (U+1) 0 (Z (p++[bL]))) (a1 M id 1 cS (U+1) (p++[bL]))):cq (cJ 1 16 (.q id U 0 (Z p)) (.sl ab [cS bL]) (a1 M id 1 cS U p)) iC:=
 aY (p2 bL h rfl (by omega)) a
variable{aP:List aG}{ju:aG}
theorem K6{id:Nat}(h:id<Z M)(b:Z aP<1099511627776)(a:iC (.q id (U+1) 0 (Z (aP++[ju]))) (a1 M id 3 cV (U+1) (aP++[ju]))):cq (cJ 3 32 (.q id U 0 (Z aP)) (.sl ab [cV ju]) (a1 M id 3 cV U aP)) iC:=
 aY (p2 ju h rfl (by omega)) a
variable{ct:List Int}
theorem UD{id:Nat}(h:id<Z M)(b:Z ct<1099511627776)(a:iC (.q id (U+1) 0 (Z (ct++[f]))) (a1 M id 1 cI (U+1) (ct++[f]))):cq (cJ 1 8 (.q id U 0 (Z ct)) (.sl ab [cI f]) (a1 M id 1 cI U ct)) iC:=
 aY (p2 f h rfl (by omega)) a
theorem air{id bytes:Nat}(h:id<Z M)(b:∀d,Z (a7 d)=U)(a:(Z x+Z lx)*bytes<=2^47)(c:iC (.q id (N+1) 0 (Z (x++lx))) (a1 M id U a7 (N+1) (x++lx))):cq (cJ U bytes (.q id N 0 (Z x)) (eS T a7 lx) (a1 M id U a7 N x)) iC:=
 aY (GS h (uk b _ _ _) a) c
theorem ys{id bytes:Nat}(h:id<Z M)(b:Z (a7 dW)=U)(a:(Z x+1)*bytes<=2^47)(c:iC (.q id (N+1) 0 (Z (x++[dW]))) (a1 M id U a7 (N+1) (x++[dW]))):cq (cJ U bytes (.q id N 0 (Z x)) (.sl ab [a7 dW]) (a1 M id U a7 N x)) iC:=
 aY (p2 dW h b a) c
variable{dG:AV}
theorem pe{bytes:Nat}(b:E.isNil=ad)(c:h6 M U dG=aa (x.map a7))(a:Z x*bytes<=2^47):
 cJ U bytes E dG M=aa (.q (Z M) 0 0 (Z x),M++[.arr 0 U (x.map a7)]):=by
 grind[cJ]
theorem K7(a:List Obj)(d:Nat)(b:K->List AV)(c:List K)(e:Obj):a++[.arr 0 d (c.map b)]=a1 (a++[e]) (Z a) d b 0 c:=by
 simp[a1]
variable{oO:b0 -> List AV}{z dp:Nat}
theorem UE{id:Nat}{a:List b0}:a1 (a1 M id U a7 z x) id N oO dp a=a1 M id N oO dp a:=by
 simp[a1]
theorem DR{id:Nat}(h:id<Z M)(b:∀a∈x,bT (a7 a)):aM (a1 M id U a7 N x) .res (.q id N 0 (Z x)) (eS ab a7 x):=by
 refine .pK id N 0 (Z x) U (x.map a7) _ (oj h) (by simp) ?_;rw[lq,gT (by simp)];have:pW (x.map a7):=by
  clear h;induction x with
  |nil=>exact .nil
  |cons a x c=>exact .cons _ _ (b a (by simp)) (by grind)
 exact this.snap
theorem om{id:Nat}(h:M[id]?=aa (.arr N U (x.map a7)))(b:∀a∈x,bT (a7 a)):aM M .cd (.q id N 0 (Z x)) (eS ad a7 x):=by
 refine .wc id N 0 (Z x) U (x.map a7) _ h (by simp) ?_;rw[lq,gT (by simp)];have:pW (x.map a7):=by
  clear h;induction x with
  |nil=>exact .nil
  |cons a x c=>exact .cons _ _ (b a (by simp)) (by grind)
 exact this.snap
variable{b1:List (List AV)}
theorem ais{id off len:Nat}(h:M[id]?=aa (.arr U N b1))(a:z<len):bP N (.q id U off len) (I z) M=aa (.ptr id U (off+z) 0):=by
 simp[bP,a,h]
theorem fw{id len:Nat}(h:M[id]?=aa (.arr U N b1))(a:z<len):bP N (.q id U 0 len) (I z) M=aa (.ptr id U z 0):=by
 grind[ais]
theorem pg{id off:Nat}(h:M[id]?=aa (.arr U dp b1)):dK z (.ptr id U N off) M=aa (.ptr id U N (off+z)):=by
 simp[dK,h]
theorem c0{id off:Nat}(h:M[id]?=aa (.arr U z b1))(a:b1[N]?=aa bF):aQ 1 ab (.ptr id U N off) M=bF[off]?:=by
 simp only[aQ,wo,h,if_true,a,kf];by_cases h:off<Z bF;rw[if_pos (by omega)];simp[qv,bq h,OG];grind
theorem mj{id:Nat}(h:M[id]?=aa (.arr U z b1))(a:b1[N]?=aa bF)(b:Z bF=dp):aQ dp ad (.ptr id U N 0) M=aa (.agg bF):=by
 grind[aQ,wo,qv]
theorem mV{b:K->b0->K}{a:List b0}(h:U<Z a):(a.take (U+1)).foldl b dW=b ((a.take U).foldl b dW) a[U]:=by
 grind[List.take_succ_eq_append_getElem]
variable{fq:List Obj}
theorem wP(a:List b0)(f:List K->b0->List K)(d:List K)(id k:Nat)(j:K->List AV)(m:Nat)
 (p:[.q id m 0 (Z d),I ((0:Nat):Int)]=bF)(o:a1 M id k j m d=fq)
 (step:∀b(h:b<Z a)(i:List K)(e:Nat)(g:List AV->List Obj->Prop),i=(a.take b).foldl f d->(∀l,g [.q id l 0 (Z (f i a[b])),I ((b+1:Nat):Int)] (a1 M id k j l (f i a[b])))->km [.q id e 0 (Z i),I b] (a1 M id k j e i) g)
 (last:∀(e:Nat)(g:List AV->List Obj->Prop),km [.q id e 0 (Z (a.foldl f d)),I (Z a)] (a1 M id k j e (a.foldl f d)) g):jB km bF fq:=by
 refine bG (λc=>[.q id c.2 0 (Z ((a.take c.1).foldl f d)),I c.1]) (λc=>a1 M id k j c.2 ((a.take c.1).foldl f d)) (λc=>Z a -c.1) (λc=>c.1<=Z a) (0,m) (by simp) ?_ (by grind) (by grind);rintro⟨b,e⟩ r g n;by_cases h:b<Z a;refine step b h _ e g rfl λl=>?_;have:=n (b+1,l) h (by simp;omega);grind[mV];grind
def eo(a:List d)(b:d):List d:=if b=[]\/b∈a then a else a++[b]
def c9(a:List d)(b:List aK):List d:=b.foldl (λa c=>eo a c.aF) a
def fF(r:aD):List d:=(r.ai.map Lit.af++[r.af]).foldl c9 []
theorem UF(a:List d)(b:d):Z (eo a b)<=Z a+1:=by
 grind[eo]
theorem zN(a:List aK):∀b:List d,Z (c9 b a)<=Z b+Z a:=by
 induction a with
 |nil=>grind[c9]
 |cons e a c=>
  grind[UF,eo,c9,List.length_cons]
theorem UG(a:List (List aK)):∀b:List d,Z (a.foldl c9 b)<=Z b+Z a.flatten:=by
 induction a with
 |nil=>grind
 |cons f e c=>
  grind[zN,c9,List.flatten_cons,List.length_append]
theorem GU:y (b2 (λa=>a==bL) p<0)= !y (bL∈p):=by
 have h:=TX (λa=>a==bL) p;grind
theorem DS(a:d):fS 1 [(.str [])] 1 [(0,.str a)]=aa (.sl ab [cS a]):=rfl
theorem GV(a:Int):fS 1 [(I 0)] 1 [(0,I a)]=aa (.sl ab [cI a]):=rfl
theorem GW(a:aG):fS 3 [(I 0),(I 0),(.str [])] 1 [(0,.agg (cV a))]=aa (.sl ab [cV a]):=rfl
theorem K8(a:Bool)(b:S):fS 3 [(I 0),.aq,(I 0)] 1 [(0,.agg (cF a b))]=aa (.sl ab [cF a b]):=rfl
theorem um(c:List d)(g:d)(n:Sm c):PR C 113 [eS T cS c,.str g] (I (b2 (λk=>k==g) c)):=by
 refine aev.pr ?_;refine eB (U:=Z c) (c:=λf=>[I 0,I f]) (λf=>∀j(p:j<Z c),j<f->(c[j]==g)=ab) (by simp) rfl (λf e l m q=>?_) (λl m=>?_);simp only[O,i,G,aX,A,a,e,decide_true,aE e (iS _),aJ,lO,gW];refine a8 (b (λh=>?_) (λh=>?_));simp[ue (ee:=λk=>k==g) e l h];rw[n.inc e,O];grind;simp only[O,i,G,aX,A,a,cn,decide_false];refine bw ?_;simp_all[wC]
theorem GX(c:List d)(k:d)(n:Sm c):PR C 177 [eS T cS c,.str k] (.bool (y (k∈c))):=by
 apply afZ.pr;refine eB (U:=Z c) (c:=λf=>[ff,I f]) (λf=>∀e(j:e<Z c),e<f->(c[e]==k)=ab) (by simp) rfl (λf g l m q=>?_) (λl m=>?_);simp only[O,i,G,aX,A,a,g,decide_true,aE g (iS _),aJ,lO,gW];refine a8 (b (λh=>jk ?_) (λh=>?_));grind;rw[n.inc g,O];grind;simp only[O,i,G,aX,A,a,cn,decide_false];refine bw (bK ?_);simp only[decide_eq_false_iff_not];intro o;obtain⟨e,j,rfl⟩:=kg.1 o;have:=l e j j
 simp at this
theorem UH(c:List aG)(j:aG)(m:Sm c):PR C 112 [eS T cV c,.agg (cV j)] (.bool (y (j∈c))):=by
 apply ad6.pr;simp only[Bn,O];refine eB (U:=Z c) (c:=λe=>[ff,I e]) (λe=>∀d(g:d<Z c),d<e->c[d]≠j) (by simp) rfl (λe f k l p=>?_) (λk l=>?_);simp only[O,i,G,aX,A,a,f,decide_true,aE f (s4 _),u9,ac4];refine a8 (b (λh=>jk ?_) (λh=>?_));grind;rw[m.inc f,O];grind;simp only[O,i,G,aX,A,a,cn,decide_false];refine bw (bK ?_);simp only[decide_eq_false_iff_not];intro n;obtain⟨d,g,rfl⟩:=kg.1 n;exact k d g g rfl
theorem UI(r:aD)(V:pZ r)(K:Sm (r.ai.map Lit.af++[r.af]).flatten):PR C 63 [.agg (aS T r)] (eS ab cS (fF r)):=by
 refine aeS.pr ?_;simp only[o9,O,e4,fh,bh,aJ,wy,qN,e,aX,bz,dR,e2,OQ,kI];have W:Z (r.ai.map Lit.af++[r.af])=Z r.ai+1:=by simp
 refine wP (r.ai.map Lit.af++[r.af]) c9 [] 1 1 cS (M:=[.arr 0 1 [],.arr 0 1 []]) 0 rfl (by simp[a1]) (λf R k n E P S=>?_) (λn E=>?_);have a5:=List.take_sublist f (r.ai.map Lit.af++[r.af]);have a4:Z k+Z (r.ai.map Lit.af++[r.af])[f]<=Z (r.ai.map Lit.af++[r.af]).flatten:=by
  have H:=UG ((r.ai.map Lit.af++[r.af]).take f) [];rw[<-P]at H;have t:Z (r.ai.map Lit.af++[r.af]).flatten=Z ((r.ai.map Lit.af++[r.af]).take f).flatten+Z ((r.ai.map Lit.af++[r.af]).drop f).flatten:=by
   rw[<-gC,<-xC,vV]
  rw[oI R,xB,gC]at t;simp only[e2,e]at H;omega
 have v:∀o,o<Z (r.ai.map Lit.af++[r.af])[f]->o<4611686018427387904:=by unfold Sm at K;omega
 generalize J:(r.ai.map Lit.af++[r.af])[f]=j at*;have U:y ((f:Int)<=Z r.ai)=true:=by simp;omega
 simp only[i,G];refine a8 ?_ U;have inner:jB (λd c va=>bd (gu .sl (eS T cT j) c) λY=>bd (aT .s .lss (g d 1) Y) λac=>ez ac
  (bd (bP 4 (eS T cT j) (g d 1) c) λah=>bd (dK 0 ah c) λaj=>bd (aQ 1 ab aj c) λak=>bd (aT .s .neq ak (.str [])) λam=>
   gd am ad (bd (bP 4 (eS T cT j) (g d 1) c) λau=>bd (dK 0 au c) λax=>bd (aQ 1 ab ax c) λaz=>cp C 113 [g d 0,az] c λaA=>bd (aT .s .lss aA (I 0)) λaR=>
    ez (g [aR] 0) (bd (bP 4 (eS T cT j) (g d 1) c) λw=>bd (dK 0 w c) λx=>bd (aQ 1 ab x c) λz=>bd (fS 1 [.str []] 1 [(0,z)]) λB=>cq (cJ 1 16 (g d 0) B c) λD u=>bd (aT .s .add (g d 1) (I 1)) λl=>va [g [D] 0,l] u)
     (bd (aT .s .add (g d 1) (I 1)) λl=>va [g [g d 0] 0,l] c))
    (ez (g [ff] 0) (bd (bP 4 (eS T cT j) (g d 1) c) λw=>bd (dK 0 w c) λx=>bd (aQ 1 ab x c) λz=>bd (fS 1 [.str []] 1 [(0,z)]) λB=>cq (cJ 1 16 (g d 0) B c) λD u=>bd (aT .s .add (g d 1) (I 1)) λl=>va [g [D] 0,l] u)
     (bd (aT .s .add (g d 1) (I 1)) λl=>va [g [g d 0] 0,l] c)))
  (bd (aT .s .add (I f) (I 1)) λa0=>E [g d 0,a0] c)) [.q 1 n 0 (Z k),I 0] (a1 [.arr 0 1 [],.arr 0 1 []] 1 1 cS n k):=by
  refine wP j (λk X=>eo k X.aF) k 1 1 cS (M:=[.arr 0 1 [],.arr 0 1 []]) n rfl rfl (λo m F N M Q a3=>?_) (λN M=>?_);have a2:Z F+1<=1099511627776:=by
   have:=zN (j.take o) k;simp only[c9]at this;rw[<-Q]at this;simp at this;unfold Sm at K;omega
  simp only[i,G,O,aX,A,a,m,decide_true,aE m (kt _),bh,aJ,rV,jE,e];refine a8 (BE (λh=>?_) (λh=>bw ?_));refine eV _ (um F _ (by grind[Sm])) (.ck (om (oj (by simp)) (by simp)) (.ck (.str _ _) (.nil _))) (.int _ _) ?_;simp only[A,O,GU];refine dw (λt=>?_) (λt=>?_);rw[DS,O];refine UC (by simp) (by omega) ?_;rw[aZ (v _ m),O];grind[eo];rw[aZ (v _ m),O];grind[eo];rw[aZ (v _ m),O];grind[eo]
  simp only[i,G,O,aX,A,a,cn,decide_false];refine bw ?_;rw[aZ (by have:=V.2.1;grind[Sm]),O];exact S _
 refine b (λh=>?_) (λh=>?_);have p:f<Z r.ai:=by simpa using h
 have:r.ai[f].af=j:=by rw[<-J,aaT (by simpa using p)];simp
 simp only[aE p (jC _ _),O,bh,aJ,s6,e,this];exact inner;have p:f=Z r.ai:=by simp at h;omega
 have:r.af=j:=by rw[<-J,List.getElem_append_right (by simp;omega)];simp
 simp only[this];exact inner;have:y ((Z (r.ai.map Lit.af++[r.af]):Int)<=Z r.ai)=false:=by rw[decide_eq_false_iff_not,W];omega
 simp only[i,G];refine bw ?_ this;exact DR (by simp) (by simp)
theorem wQ(c:List K)(d:K->Bool)(ok:Bool)(g:[.bool ok,I ((0:Nat):Int)]=bF)
 (step:∀a(h:a<Z c)(e:Bool)(b:List AV->List Obj->Prop),b [.bool (e&&d c[a]),I ((a+1:Nat):Int)] M->km [.bool e,I a] M b)
 (last:∀b:List AV->List Obj->Prop,km [.bool (ok&&c.all d),I (Z c)] M b):jB km bF M:=by
 refine eB (U:=Z c) (c:=λa=>[.bool (ok&&(c.take a).all d),I a]) (λ_=>True) trivial (by grind) (λa i _ b j=>?_) (λ_ b=>?_);grind[oi];grind
def BH(a:bQ):Bool:=y ((Z a.az:Int)<=10)&&y ((Z a.eK:Int)<=80)
def zO(a:Fn):Bool:=y ((Z a.src:Int)<=10)&&(y ((Z a.dst:Int)<=10)&&y ((Z a.gU:Int)<=10))
def DT(a:cO):Bool:=y ((Z a.a6:Int)<=10)
def GY(r:aD):Bool:=y ((Z r.ai:Int)<=10)&&y ((Z r.af:Int)<=10)&&r.ai.all λa=>y ((Z a.af:Int)<=10)
def DU(a:D):Bool:=(!y (6<(Z a.aw:Int))&& !y (10<(Z a.aO:Int))&& !y (26<(Z a.Q:Int))&& !y (14<(Z a.ak:Int)))&&
 (a.aw.all BH&&a.aO.all zO&&a.Q.all DT&&a.ak.all GY)
def ml(a:D)(b:List S):Bool:=DU a&& !y (10<(Z a.ak:Int))&& !y (60<(Z b:Int))&&a.ak.all (λr=> !y (5<(Z r.ai:Int)))&&b.all λc=> !y (6<(Z c.af:Int))
theorem ait(b:D)(l:eA b)(K9:∀r∈b.ak,PR C 193 [.agg (aS T r)] (.bool (nK r))):PR C 141 [.agg (cP T F b)] (.bool (rY b)):=by
 refine afs.pr ?_;have o:rY b=((!y (4<(Z b.aw:Int))&& !y (8<(Z b.aO:Int))&& !y (24<(Z b.Q:Int))&& !y (40<(Z b.ak:Int)))&&((((ad&&b.aw.all zL)&&b.aO.all uf)&&b.Q.all ug)&&b.ak.all nK)):=by
  simp only[rY,eX,<-lQ];generalize y ((Z b.aw:Int)<=4)=p;generalize y ((Z b.aO:Int)<=8)=t;generalize y ((Z b.Q:Int)<=24)=q;generalize y ((Z b.ak:Int)<=40)=s;cases p<;>cases t<;>cases q<;>cases s<;>simp
 simp only[eE,O,bh,aJ,rW,wz,kv,pb,e,aX,eU];refine dA (M:=[]) (!(!y (4<(Z b.aw:Int))&& !y (8<(Z b.aO:Int))&& !y (24<(Z b.Q:Int))&& !y (40<(Z b.ak:Int)))) (λn d=>?_) ?_;refine ea (by grind) (λu=>ea (by grind) (λv=>ea (by grind) (λw=>by simp_all)));simp only[G];refine dw (by grind[bK]) (λh=>?_);rw[o,h,c3];clear o h;refine wQ b.aw zL ad rfl (λk f j g d=>?_) (λg=>?_)
 simp only[O,i,G,A,a,f,decide_true,aE f (kK _ _),bh,aJ,ac2,hz,e];refine a8 (dA (M:=[]) (j&&zL b.aw[k]) (λn d=>aV (λh=>kB d (by rw[h]<;>rfl)) (λh=>kB d (by rw[h]<;>rfl))) ?_);rw[l.aw.inc f,O,G];exact d;simp only[O,i,G,A,a,cn,decide_false];refine bw ?_;refine wQ b.aO uf _ rfl (λk f j g d=>?_) (λg=>?_);simp only[O,i,G,A,a,f,decide_true,aE f (s5 _ _),Dq]
 refine a8 (dA (M:=[]) (j&&uf b.aO[k]) (λn d=>aV (λh=>c (aio _ (l.fn _ (bn f))) (kB d (by rw[h]<;>rfl))) (λh=>kB d (by rw[h]<;>rfl))) ?_);rw[l.aO.inc f,O,G];exact d;simp only[O,i,G,A,a,cn,decide_false];refine bw ?_;refine wQ b.Q ug _ rfl (λk f j g d=>?_) (λg=>?_);simp only[O,i,G,A,a,f,decide_true,aE f (ji _ _),wu]
 refine a8 (dA (M:=[]) (j&&ug b.Q[k]) (λn d=>aV (λh=>c (aiq _ (l.tb _ (bn f))) (kB d (by rw[h]<;>rfl))) (λh=>kB d (by rw[h]<;>rfl))) ?_);rw[l.Q.inc f,O,G];exact d;simp only[O,i,G,A,a,cn,decide_false];refine bw ?_;refine wQ b.ak nK _ rfl (λk f j g d=>?_) (λg=>?_);simp only[O,i,G,A,a,f,decide_true,aE f (mP _ _),nF]
 refine a8 (dA (M:=[]) (j&&nK b.ak[k]) (λn d=>aV (λh=>c (K9 _ (bn f)) (kB d (by rw[h]<;>rfl))) (λh=>kB d (by rw[h]<;>rfl))) ?_);rw[l.ak.inc f,O,G];exact d;simp only[O,i,G,A,a,cn,decide_false];exact bw (iW rfl)
theorem aiu(c:D)(m:eA c):PR C 111 [.agg (cP T F c)] (.bool (DU c)):=by
 refine agi.pr ?_;have q:DU c=((!y (6<(Z c.aw:Int))&& !y (10<(Z c.aO:Int))&& !y (26<(Z c.Q:Int))&& !y (14<(Z c.ak:Int)))&&((((ad&&c.aw.all BH)&&c.aO.all zO)&&c.Q.all DT)&&c.ak.all GY)):=by
  simp[DU]
 simp only[eE,O,bh,aJ,rW,wz,kv,pb,e,aX,eU];refine dA (M:=[]) (!(!y (6<(Z c.aw:Int))&& !y (10<(Z c.aO:Int))&& !y (26<(Z c.Q:Int))&& !y (14<(Z c.ak:Int)))) (λn b=>?_) ?_;refine ea (by grind) (λx=>ea (by grind) (λf=>ea (by grind) (λo=>by simp_all)));simp only[G];refine dw (by grind[bK]) (λh=>?_);rw[q,h,c3];clear q h;refine wQ c.aw BH ad rfl (λg d k j b=>?_) (λj=>?_)
 simp only[O,i,G,A,a,d,decide_true,aE d (kK _ _),bh,aJ,pa,Gd,aX,kL,e];refine a8 (dA (M:=[]) (k&&BH c.aw[g]) (λn b=>aV (λh=>aV (λf=>kB b (by rw[h,BH,f]<;>rfl)) (λf=>kB b (by rw[h,BH,f]<;>rfl))) (λh=>kB b (by rw[h]<;>rfl))) ?_);rw[m.aw.inc d,O,G];exact b;simp only[O,i,G,A,a,cn,decide_false];refine bw ?_;refine wQ c.aO zO _ rfl (λg d k j b=>?_) (λj=>?_)
 simp only[O,i,G,A,a,d,decide_true,aE d (s5 _ _),bh,aJ,Dt,Du,QO,aX,kL,e];refine a8 (dA (M:=[]) (k&&zO c.aO[g]) (λn b=>aV (λh=>aV (λf=>aV (λo=>kB b (by rw[h,zO,f,o]<;>rfl)) (λo=>kB b (by rw[h,zO,f,o]<;>rfl))) (λf=>kB b (by rw[h,zO,f]<;>rfl))) (λh=>kB b (by rw[h]<;>rfl))) ?_);rw[m.aO.inc d,O,G];exact b;simp only[O,i,G,A,a,cn,decide_false];refine bw ?_
 refine wQ c.Q DT _ rfl (λg d k j b=>?_) (λj=>?_);simp only[O,i,G,A,a,d,decide_true,aE d (ji _ _),bh,aJ,wx,aX,kL,e];refine a8 (dA (M:=[]) (k&&DT c.Q[g]) (λn b=>aV (λh=>kB b (by rw[h,DT]<;>rfl)) (λh=>kB b (by rw[h]<;>rfl))) ?_);rw[m.Q.inc d,O,G];exact b;simp only[O,i,G,A,a,cn,decide_false];refine bw ?_;refine wQ c.ak GY _ rfl (λg d k j b=>?_) (λj=>?_);have u:=m.iU _ (bn d)
 simp only[O,i,G,A,a,d,decide_true,aE d (mP _ _),bh,aJ,wy,qN,aX,kL,e];refine a8 (dA (M:=[]) (k&&(y ((Z c.ak[g].ai:Int)<=10)&&y ((Z c.ak[g].af:Int)<=10))) (λn b=>aV (λh=>aV (λf=>kB b (by rw[h,f]<;>rfl)) (λf=>kB b (by rw[h,f]<;>rfl))) (λh=>kB b (by rw[h]<;>rfl))) ?_);refine wQ c.ak[g].ai (λw=>y ((Z w.af:Int)<=10)) _ rfl (λv p s r t=>?_) (λr=>?_)
 simp only[O,i,G,A,a,p,decide_true,aE p (jC _ _),bh,aJ,s6,aX,kL,e];refine a8 (dA (M:=[]) (s&&y ((Z c.ak[g].ai[v].af:Int)<=10)) (λn b=>aV (λh=>kB b (by rw[h]<;>rfl)) (λh=>kB b (by rw[h]<;>rfl))) ?_);rw[u.2.1.inc p,O,G];exact t;simp only[O,i,G,A,a,cn,decide_false];refine bw ?_;rw[m.ak.inc d,O,aaU];exact b;simp only[O,i,G,A,a,cn,decide_false];exact bw (iW rfl)
theorem aiv(f:D)(g:List S)(n:eA f)(u:Sm g):PR C 61 [.agg (cP T F f),eS c8 (cF bC) g] (.bool (ml f g)):=by
 refine aes.pr ?_;simp only[eE,O,bh,aJ,gy,pb,e,aX,eU,bz,G];refine c (aiu f n) ?_;simp only[bI,O];refine ib (λp=>?_) (λh=>a8 (bK (by rw[ml,h]<;>rfl)));refine ea (λh=>a8 (bK (by rw[ml,h];simp))) (λq=>?_);refine b (by simp_all[ml]) (λs=>?_);have t:ml f g=(f.ak.all (λr=> !y (5<(Z r.ai:Int)))&&g.all λm=> !y (6<(Z m.af:Int))):=by
  rw[ml,p,q,s]<;>rfl
 rw[t];refine eB (U:=Z f.ak) (c:=λd=>[ff,I d]) (λd=>(f.ak.take d).all (λr=> !y (5<(Z r.ai:Int)))=ad) (by simp) rfl (λd j k l v=>?_) (λk l=>?_);simp only[O,i,G,A,a,j,decide_true,aE j (mP _ _),bh,aJ,qN,aX,eU,e];refine a8 (b (λh=>bK ?_) (λh=>?_));grind;rw[n.ak.inc j,O];grind[oi];rw[dY]at k;simp only[O,i,G,A,a,cn,decide_false];refine bw ?_;rw[k,c3]
 refine eB (U:=Z g) (c:=λd=>[ff,I d]) (λd=>(g.take d).all (λm=> !y (6<(Z m.af:Int)))=ad) (by simp) rfl (λd j k l v=>?_) (λk l=>?_);simp only[O,i,G,A,aX,a,j,decide_true,aE j (fB _ _),bh,aJ,s7,eU,e];refine a8 (b (λh=>bK ?_) (λh=>?_));grind;rw[u.inc j,O];grind[oi];rw[dY]at k;simp only[O,i,G,A,a,cn,decide_false];exact bw (jk k)
theorem zP{id:Nat}(h:id<Z M)(a:List Obj):a1 M id U a7 N x++a=a1 (M++a) id U a7 N x:=by
 grind[a1]
variable{mK:Nat}
theorem wR{id:Nat}{a:List b0}(h:id≠N):
 a1 (a1 M id U a7 dp x) N z oO mK a=a1 (a1 M N z oO mK a) id U a7 dp x:=by
 grind[a1,List.set_comm]
theorem UJ{id:Nat}{a:List b0}(h:id≠N)(b:id<Z M):
 (a1 (a1 M id U a7 dp x) N z oO mK a)[id]?=aa (.arr dp U (x.map a7)):=by
 grind[a1]
theorem aiw(a:List b0)(f:List K->b0->List K)(d:List K)(id k:Nat)(j:K->List AV)(n:Nat)
 (r:id<Z M)(u:[.q id n 0 (Z d),I ((0:Nat):Int)]=bF)(t:a1 M id k j n d=fq)
 (step:∀c(h:c<Z a)(i:List K)(e:Nat)(M:List Obj)(g:List AV->List Obj->Prop),id<Z M->i=(a.take c).foldl f d->(∀m l,id<Z l->g [.q id m 0 (Z (f i a[c])),I ((c+1:Nat):Int)] (a1 l id k j m (f i a[c])))->km [.q id e 0 (Z i),I c] (a1 M id k j e i) g)
 (last:∀(e:Nat)(M:List Obj)(g:List AV->List Obj->Prop),id<Z M->km [.q id e 0 (Z (a.foldl f d)),I (Z a)] (a1 M id k j e (a.foldl f d)) g):jB km bF fq:=by
 refine bG (λb=>[.q id b.2.1 0 (Z ((a.take b.1).foldl f d)),I b.1]) (λb=>a1 b.2.2 id k j b.2.1 ((a.take b.1).foldl f d)) (λb=>Z a -b.1) (λb=>b.1<=Z a/\id<Z b.2.2) (0,n,M) ⟨by simp,r⟩ ?_ (by grind) (by grind);rintro⟨c,e,M⟩ ⟨v,o⟩ g s;by_cases h:c<Z a;refine step c h _ e M g o rfl λm l p=>?_;have:=s (c+1,m,l) ⟨h,p⟩ (by simp;omega);grind[mV];grind
def nL(a:List aG)(b:aG):List aG:=if b∈a then a else a++[b]
def wS(a:List aG)(b:S):List aG:=b.af.foldl nL a
def DV(a:List S):List aG:=a.foldl wS []
def p3(a:List aG)(b:aK):List aG:=if b.aF=[]then nL a b.const else a
def jR(r:aD):List aK:=r.af++(r.ai.map Lit.af).flatten
def yt(a:List aG)(r:aD):List aG:=(jR r).foldl p3 a
def fU(b:D)(a:List S):List aG:=b.ak.foldl yt (DV a)
theorem aix(a:List aG)(b:aG):Z (nL a b)<=Z a+1:=by grind[nL]
theorem aiy(b:S)(a:List aG):Z (wS a b)<=Z a+Z b.af:=by
 unfold wS;generalize b.af=c;induction c generalizing a with
 |nil=>simp
 |cons e c d=>grind[nL]
theorem aiz(a:List aG)(b:aK):Z (p3 a b)<=Z a+1:=by
 grind[p3,aix]
theorem UK(a:List aK)(b:List aG):Z (a.foldl p3 b)<=Z b+Z a:=by
 induction a generalizing b with
 |nil=>simp
 |cons d a c=>grind[aiz]
theorem aiA(r:aD)(a:List aG):Z (yt a r)<=Z a+Z (jR r):=UK _ _
theorem aiB(a:List aG)(b:List aG):Z (a.foldl nL b)<=Z b+Z a:=by
 induction a generalizing b with
 |nil=>simp
 |cons d a c=>grind[nL]
theorem La(c:List aG->K->List aG)(d:Nat):∀(b:List K)(_:∀x∈b,∀a,Z (c a x)<=Z a+d)(a:List aG),Z (b.foldl c a)<=Z a+Z b*d
 |[],_,a=>by simp
 |x::b,h,a=>by
  have e:=h x (by simp) a;have f:=La c d b (by grind) (c a x);grind[Nat.succ_mul]
theorem DW(g:K->List b0)(b:Nat):∀(a:List K)(_:∀x∈a,Z (g x)<=b),Z ((a.map g).flatten)<=Z a*b
 |[],_=>by simp
 |x::a,h=>by
  have c:=h x (by simp);have d:=DW g b a (by grind);grind[Nat.succ_mul]
structure qU(p:D)(fs:List S):Prop where
 ak:Z p.ak<=10
 facts:Z fs<=60
 ai:∀r∈p.ak,Z r.ai<=5
 GZ:∀r∈p.ak,Z r.af<=10
 vn:∀r∈p.ak,∀l∈r.ai,Z l.af<=10
 UL:∀f∈fs,Z f.af<=6
variable{V:D}{X:List S}
theorem UM(h:ml V X=ad):qU V X:=by
 simp only[ml,DU,ba,eQ,hv,decide_eq_false_iff_not,GY,decide_eq_true_eq]at h;let⟨⟨⟨⟨⟨a,b⟩,c⟩,d⟩,e⟩,f⟩:=h;exact⟨by omega,by omega,by grind,by grind,by grind,by grind⟩
theorem qU.UN(h:qU V X){r:aD}(a:r∈V.ak):Z (jR r)<=60:=by
 have b:=h.GZ r a;have c:=DW Lit.af 10 r.ai (h.vn r a);have d:=h.ai r a;grind[jR]
theorem qU.UO(h:qU V X)(a:Nat):Z ((X.take a).foldl wS [])<=360:=by
 have:=La wS 6 (X.take a) (λb e c=>by have:=aiy b c;have:=h.UL b (by grind);omega) [];have d:Z (X.take a)<=60:=by have:=h.facts;simp;omega
 grind
theorem qU.UP(h:qU V X)(a:Nat):Z ((V.ak.take a).foldl yt (DV X))<=960:=by
 have:=La yt 60 (V.ak.take a) (λr c b=>by have:=aiA r b;have:=h.UN (sL c);omega) (DV X);have d:Z (V.ak.take a)<=10:=by have:=h.ak;simp;omega
 have e:=h.UO (Z X);grind[DV]
theorem UQ(c:D)(p:List S)(o:qU c p):PR C 62 [.agg (cP T F c),eS c8 (cF bC) p] (eS ab cV (fU c p)):=by
 refine aet.pr ?_;simp only[eE,O,e4,fh,bh,aJ,pb,e,aX,dR,e2,OQ,kI];refine wP p wS [] 1 3 cV (M:=[.arr 0 3 [],.arr 0 3 []]) 0 rfl (by simp[a1]) (λb s k r B I K=>?_) (λr B=>?_);have aF:=o.UL _ (bn s);have ah:Z k<=360:=I▸o.UO b;simp only[O,i,G,A,a,s,decide_true,aE s (fB _ _),bh,aJ,s7,e,aX];refine a8 ?_
 refine wP p[b].af nL k 1 3 cV (M:=[.arr 0 3 [],.arr 0 3 []]) r rfl rfl (λf l j q E w n=>?_) (λq E=>?_);have P:Z j<=366:=by
  have:=aiB (p[b].af.take f) k;rw[<-w]at this;have:Z (p[b].af.take f)<=6:=by simp;omega
  omega
 simp only[O,i,G,A,a,l,decide_true,bz,aE l (s4 _),u9];refine a8 (eV _ (UH j _ (by unfold Sm;omega)) (.ck (om (oj (by simp)) (by simp)) (.ck eu (.nil _))) (.bool _) ?_);simp only[bI,O];refine dw (λh=>?_) (λh=>?_);rw[GW,O];refine K6 (by simp) (by omega) ?_;rw[aZ,O];grind[nL];rw[aZ,O];grind[nL];simp only[O,i,G,A,a,cn,decide_false];refine bw ?_;rw[aZ (by have:=o.facts;omega),O];exact K _
 simp only[O,i,G,A,a,cn,decide_false];refine bw ?_;refine aiw c.ak yt (DV p) 1 3 cV (M:=[.arr 0 3 [],.arr 0 3 []]) r (by simp) rfl rfl (λb s k r g B J I K=>?_) (λr g B J=>?_);have z:=bn s;have ah:Z k<=960:=I▸o.UP b;have a2:=o.GZ _ z;have a3:=o.ai _ z;have R:=o.vn _ z;simp only[O,i,G,A,a,s,decide_true,aE s (mP _ _),bh,aJ,wy,qN,e,aX]
 refine a8 (aY (pe (a7:=cT) (x:=c.ak[b].af) rfl (uk kt _ _ _) (by omega)) ?_);rw[K7 _ _ _ _ (.arr 0 4 []),zP J,pd];have Y:1<Z (g++[Obj.arr 0 4 []]):=by simp;omega
 have Q:1≠Z g:=by omega
 refine wP c.ak[b].ai (λk d=>k++d.af) c.ak[b].af (Z g) 4 cT (M:=a1 (g++[.arr 0 4 []]) 1 3 cV r k) 0 rfl rfl (λf l j q E w n=>?_) (λq E=>?_);have P:Z j<=60:=by
  have W:∀(d:List Lit)(m:List aK),(∀t∈d,Z t.af<=10)->Z (d.foldl (λk d=>k++d.af) m)<=Z m+Z d*10:=by
   intro d;induction d with
   |nil=>intro m _;simp
   |cons t d L=>
    intro m U;have:=L (m++t.af) λaz ax=>U az (by simp[ax]);have:=U t (by simp);simp only[np,kI,gC]at*;omega
  have:=W (c.ak[b].ai.take f) c.ak[b].af λt au=>R t (sL au);rw[<-w]at this;have:Z (c.ak[b].ai.take f)<=5:=by simp;omega
  omega
 have aR:=R _ (bn l);simp only[O,i,G,A,a,l,decide_true,aE l (jC _ _),bh,aJ,s6,e];refine a8 (air (by simp[pd]) kt (by omega) ?_);rw[aZ,O];exact n _;simp only[O,i,G,A,a,cn,decide_false];refine bw ?_;have ac:∀(d:List Lit)(m:List aK),d.foldl (λk d=>k++d.af) m=m++(d.map Lit.af).flatten:=by
  intro d;induction d with
  |nil=>intro m;simp
  |cons t d L=>intro m;simp[L]
 rw[ac];have am:c.ak[b].af++(c.ak[b].ai.map Lit.af).flatten=jR c.ak[b]:=rfl;rw[am,wR Q];have a0:=o.UN z;generalize N:a1 (g++[.arr 0 4 []]) (Z g) 4 cT q (jR c.ak[b])=u;have X:u[Z g]?=aa (.arr q 4 ((jR c.ak[b]).map cT)):=by rw[<-N];exact oj (by simp)
 have H:1<Z u:=by rw[<-N,pd];exact Y
 refine wP (jR c.ak[b]) p3 k 1 3 cV (M:=u) r rfl rfl (λf l j x V w n=>?_) (λx V=>?_);have P:Z j<=1020:=by
  have:=UK ((jR c.ak[b]).take f) k;rw[<-w]at this;have:Z ((jR c.ak[b]).take f)<=60:=by simp;omega
  omega
 have y:(a1 u 1 3 cV x j)[Z g]?=aa (.arr q 4 ((jR c.ak[b]).map cT)):=by
  simp only[a1];rw[uS Q];exact X
 have M:((jR c.ak[b]).map cT)[f]?=aa (cT (jR c.ak[b])[f]):=by simp[l]
 simp only[O,i,G,oa,A,a,l,decide_true,fw y l,pg y,c0 y M,rV,gW,bz,e,fY];have aj:aQ 3 ad (.ptr (Z g) q f 1) (a1 u 1 3 cV x j)=aa (.agg (cV (jR c.ak[b])[f].const)):=by
  simp only[aQ,wo,y,if_true,M,kf];rfl
 refine a8 (aV (λh=>?_) (λh=>bw ?_));rw[aj,O];refine eV _ (UH j _ (by unfold Sm;omega)) (.ck (om (oj H) (by simp)) (.ck eu (.nil _))) (.bool _) ?_;simp only[bI,O];refine dw (λv=>?_) (λv=>?_);rw[GW,O];refine K6 H (by omega) ?_;rw[aZ,O];have:p3 j (jR c.ak[b])[f]=j++[(jR c.ak[b])[f].const]:=by simp at h v;simp[p3,nL,h,v]
 rw[this]at n;exact n _;rw[aZ,O];have:p3 j (jR c.ak[b])[f]=j:=by simp at h v;simp[p3,nL,h,v]
 rw[this]at n;exact n _;rw[aZ,O];have:p3 j (jR c.ak[b])[f]=j:=by simp at h;simp[p3,h]
 rw[this]at n;exact n _;simp only[O,i,G,oa,A,a,cn,decide_false];refine bw ?_;rw[aZ (by have:=o.ak;omega),O];exact K x u H;simp only[O,i,G,A,a,cn,decide_false];exact bw (DR J (by simp))
def lR(b c:Int):Nat->Int->Int
 |0,a=>a
 |k+1,a=>if a<=c then lR b c k (a*b)else a
def kz(a:D)(b:List S)(c:Int):Bool:=ml a b&&a.ak.all λr=> !y (c<lR (Z (fU a b)) c (Z (fF r)) 1)
theorem qU.flat(h:qU V X){r:aD}(a:r∈V.ak):Z (r.ai.map Lit.af++[r.af]).flatten<=60:=by
 have b:=h.GZ r a;have c:=DW Lit.af 10 r.ai (h.vn r a);have d:=h.ai r a;grind
theorem UR(r:aD):Z (fF r)<=Z (r.ai.map Lit.af++[r.af]).flatten:=by
 have:=UG (r.ai.map Lit.af++[r.af]) [];simpa[fF]using this
theorem aiC(d:D)(n:List S)(g:Int)(aj:0<=g/\g<=1000000)(t:eA d)(N:Sm n):PR C 22 [.agg (cP T F d),eS c8 (cF bC) n,I g] (.bool (kz d n g)):=by
 refine aem.pr ?_;simp only[eE,O,bh,aJ,gy,pb,e,aX];refine c (aiv d n t N) ?_;simp only[bI,O];refine dw (by simp_all[kz]) (λh=>?_);have u:=UM h;refine c (UQ d n u) ?_;simp only[aX,O];have M:(Z (fU d n):Int)<=960:=by
  have:=u.UP (Z d.ak);rw[dY]at this;unfold fU;omega
 rw[kz,h,c3];generalize Y:(Z (fU d n):Int)=k at*;have x:0<=k:=by omega
 refine eB (U:=Z d.ak) (c:=λf=>[ff,I f]) (λf=>(d.ak.take f).all (λr=> !y (g<lR k g (Z (fF r)) 1))=ad) (by simp) rfl (λf o q v ah=>?_) (λq v=>?_);have z:=bn o;have ac:=u.flat z;have au:=UR d.ak[f];simp only[O,i,G,A,a,o,decide_true,aE o (mP _ _),nF];refine a8 ?_
 refine bG (K:=Nat×Int) (λj=>[I j.2,I j.1]) (λ_=>[]) (λj=>Z (fF d.ak[f]) -j.1) (λj=>j.1<=Z (fF d.ak[f])/\0<=j.2/\j.2<=960000000/\lR k g (Z (fF d.ak[f])) 1=lR k g (Z (fF d.ak[f]) -j.1) j.2) (0,1) (by grind) ?_;rintro⟨l,m⟩ ⟨H,w,J,p⟩ X B;simp only at H w J p B⊢
 have out:lR k g (Z (fF d.ak[f])) 1=m->bd (aT .s .gtr (I m) (I g)) λU=>ez U (aM [] .res (AV.pl ff) (.bool (d.ak.all λr=> !y (g<lR k g (Z (fF r)) 1)))) (bd (aT .s .add (I f) (I 1)) λV=>v [ff,V] []):=by
  intro E;simp only[eU,O];refine b (λh=>bK ?_) (λh=>?_);grind;rw[t.ak.inc o,O];grind[oi]
 refine dA (M:=[]) (y (l<Z (fF d.ak[f]))&&y (m<=g)) (λax ai=>?_) ?_;refine c (UI _ (t.iU _ z) (by grind[Sm])) ?_;simp only[i,G,aX,O,A,kL,a];exact aV (by grind) (by grind);simp only[G,i];refine b (λh=>?_) (λh=>?_);simp only[ba,decide_eq_true_eq]at h;obtain⟨K,L⟩:=h;have am:m*k<=1000000*960:=Int.mul_le_mul (by omega) M x (by omega);have R:0<=m*k:=Int.mul_nonneg w x
 rw[QW (by omega) (by omega),O,aZ,O];refine B (l+1,m*k) ⟨K,R,by omega,?_⟩ (by simp;omega);rw[p,show Z (fF d.ak[f]) -l=(Z (fF d.ak[f]) -(l+1))+1 by omega,lR,if_pos L];refine out ?_;rw[p];rcases aaQ l (Z (fF d.ak[f]))with Q|af;have:¬m<=g:=by
  intro P;simp[Q,P]at h
 rw[show Z (fF d.ak[f]) -l=(Z (fF d.ak[f]) -(l+1))+1 by omega,lR,if_neg this];rw[show Z (fF d.ak[f]) -l=0 by omega,lR];rw[dY]at q;simp only[O,i,G,A,a,cn,decide_false];exact bw (jk q)
theorem Lb(c:D)(j:d)(o:eA c):PR C 195 [.agg (cP T F c),.str j] (I (b2 (λl=>l.au==j) c.aw)):=by
 apply aey.pr;simp only[eE,O,bh,aJ,rW,e,aX];refine eB (U:=Z c.aw) (c:=λg=>[I 0,I g]) (λg=>∀k(q:k<Z c.aw),k<g->(c.aw[k].au==j)=ab) (by simp) rfl (λg f m n r=>?_) (λm n=>?_);simp only[O,i,G,A,a,f,decide_true,aE f (kK _ _),bh,aJ];refine a8 (b (λh=>?_) (λh=>?_));simp[ue (ee:=λl:bQ=>l.au==j) f m h];rw[o.aw.inc f,O];grind;simp only[O,i,G,A,a,cn,decide_false];exact bw (by simp_all[wC])
theorem US(c:D)(j:d)(o:eA c):PR C 197 [.agg (cP T F c),.str j] (I (b2 (λl=>l.au==j) c.aO)):=by
 apply ae8.pr;simp only[eE,O,bh,aJ,wz,e,aX];refine eB (U:=Z c.aO) (c:=λg=>[I 0,I g]) (λg=>∀k(q:k<Z c.aO),k<g->(c.aO[k].au==j)=ab) (by simp) rfl (λg f m n r=>?_) (λm n=>?_);simp only[O,i,G,A,a,f,decide_true,aE f (s5 _ _),bh,aJ];refine a8 (b (λh=>?_) (λh=>?_));simp[ue (ee:=λl:Fn=>l.au==j) f m h];rw[o.aO.inc f,O];grind;simp only[O,i,G,A,a,cn,decide_false];exact bw (by simp_all[wC])
theorem Ld(c:D)(j:d)(o:eA c):PR C 198 [.agg (cP T F c),.str j] (I (b2 (λl=>l.au==j) c.Q)):=by
 apply agp.pr;simp only[eE,O,bh,aJ,kv,e,aX];refine eB (U:=Z c.Q) (c:=λg=>[I 0,I g]) (λg=>∀k(q:k<Z c.Q),k<g->(c.Q[k].au==j)=ab) (by simp) rfl (λg f m n r=>?_) (λm n=>?_);simp only[O,i,G,A,a,f,decide_true,aE f (ji _ _),bh,aJ];refine a8 (b (λh=>?_) (λh=>?_));simp[ue (ee:=λl:cO=>l.au==j) f m h];rw[o.Q.inc f,O];grind;simp only[O,i,G,A,a,cn,decide_false];exact bw (by simp_all[wC])
theorem G1(b:bQ)(a:Int):PR C 205 [.agg (bp T b),I a] (.bool (y (0<=a)&&y (a<Z b.az))):=by
 apply af2.pr;simp only[mQ,O,bh,aJ,pa,e,aX,hz,A,bz,G];exact aV (by simp_all) (by grind[bK])
def known(bound:List d)(a:aK):Bool:=a.aF==[]||y (a.aF∈bound)
def j4(bound:List d)(a:Lit):Bool:=
 if(a.ax==1||a.ax==3)=ad then ad else
 if(a.ax==5&&a.op==1&&(Z a.af:Int)==2)=ad then a.af.any (known bound)else a.af.all (known bound)
theorem G2(bound:List d)(a:aK)(b:Sm bound):PR C 176 [eS T cS bound,.agg (cT a)] (.bool (known bound a)):=by
 apply afY.pr;simp only[zC,O,bh,aJ,rV,e,gW,bz,G];exact dH (λh=>c (GX _ _ b) (by simp_all[known])) (by simp_all[known])
theorem UT:∀{a:List K}(_:Z a=2)(b:0<Z a)(c:1<Z a),a.any ee=(ee a[0]||ee a[1])
 |[d,e],_,_,_=>by simp
theorem aiD(bound:List d)(f:Lit)(l:Sm bound)(p:vc f):PR C 229 [eS T cS bound,.agg (bg F f)] (.bool (j4 bound f)):=by
 apply ags.pr;simp only[rU,O,bh,aJ,ud,s6,Dw,e,c6,aX];refine dA (M:=[]) (f.ax==1||f.ax==3) (λy g=>dH (λh=>kB g (by rw[h]<;>rfl)) (λh=>kB g (by rw[h]<;>rfl))) ?_;simp only[G];refine b (λh=>jk (by rw[j4,if_pos h])) (λh=>?_);rw[j4,if_neg (by grind)]
 refine dA (M:=[]) (f.ax==5&&f.op==1&&(Z f.af:Int)==2) (λy g=>aV (λh=>aV (λk=>kB g (by rw[h,k]<;>rfl)) (λk=>kB g (by rw[h,k]<;>rfl))) (λh=>kB g (by rw[h]<;>rfl))) ?_;simp only[G];refine b (λh=>?_) (λh=>?_);rw[if_pos h];have u:Z f.af=2:=by
  simp only[ba,beq_iff_eq]at h;omega
 have n:0<Z f.af:=by omega
 have o:1<Z f.af:=by omega
 have t:f.af.any (known bound)=(known bound f.af[0]||known bound f.af[1]):=UT u n o;rw[t];have e0:=aE (T:=F) (a7:=cT) (x:=f.af) (U:=0) (M:=[]) n (kt _);have m:=aE (T:=F) (a7:=cT) (x:=f.af) (U:=1) (M:=[]) o (kt _);simp only[arR]at e0 m;simp only[e0,m,O,lM,bz,G];refine c (G2 _ _ l) (dH (λh=>?_) (λh=>jk (by rw[h]<;>rfl)));exact c (G2 _ _ l) (iW (by rw[h]<;>rfl));rw[if_neg (by grind)]
 refine BF (ee:=known bound) (Q:=λB q=>aM q .res B (.bool (f.af.all (known bound)))) p (λE D=>⟨λh x v=>?_,λh w=>?_⟩) (λh=>jk h) (λh=>bK h);simp only[O,i,G,A,a,h,decide_true,aE h (kt _),lM];refine a8 (c (G2 _ _ l) ?_);simp only[bI,O];refine dw v (λs=>?_);rw[Sm.inc p h,O];exact x s;simp only[O,i,G,A,a];exact bw w (by simp;omega)
def HR(C:fu)(c:Nat)(args:List AV)(b:List Obj)(Q:AV->List Obj->Prop):Prop:=∃r a,C c args b r a/\Q r a
theorem c4{args:List AV}{Q:AV->List Obj->Prop}(h:HR C U args M Q)(d:args.map AV.pl=args)(e:∀r a,Q r a->iC r a):ch C U args M iC:=by
 let⟨r,a,b,c⟩:=h;exact⟨r,a,d.symm▸b,e _ _ c⟩
def UU(e:List Obj)(id:Nat)(b:List d)(r:AV)(c:List Obj):Prop:=∃a f,r=.q id a 0 (Z b)/\c=a1 (e++f) id 1 cS a b
theorem UW{id:Nat}(a:List d)(c:d)(h:id<Z M)(i:Z a<1099511627776):
 HR C 231 [.q id U 0 (Z a),.str c] (a1 M id 1 cS U a) (UU M id (eo a c)):=by
 apply agu.hq;simp only[fh,e4,zP h];have f:id<Z (M++[Obj.arr 0 1 []]):=by simp;omega
 apply eV _ (GX a c i) (.ck (om (oj f) (by simp)) (.ck (.str _ _) (.nil _))) (.bool _);refine dA (M:=a1 (M++[Obj.arr 0 1 []]) id 1 cS U a) (c==[]||y (c∈a)) (λk g=>?_) ?_;simp only[gW,O];exact dH (λh=>kB g (by rw[h]<;>rfl)) (λh=>kB g (by rw[h]<;>rfl));simp only[G];refine b (λe=>?_) (λe=>?_);refine⟨U,[.arr 0 1 []],?_,?_⟩<;>rw[show eo a c=a by simp at e;simp[eo,e]]
 rfl;rw[DS,O];refine UC f i ⟨U+1,[.arr 0 1 []],?_,?_⟩<;>rw[show eo a c=a++[c]by simp at e;simp[eo,e]]
 rfl
theorem aiE(J:List Obj->Prop)(a:List b0)(f:List K->b0->List K)(d:List K)(id k:Nat)(j:K->List AV)(n:Nat)
 (r:J M)(v:[.q id n 0 (Z d),I ((0:Nat):Int)]=bF)(u:a1 M id k j n d=fq)
 (step:∀c(h:c<Z a)(i:List K)(e:Nat)(M:List Obj)(g:List AV->List Obj->Prop),J M->i=(a.take c).foldl f d->(∀m l,J l->g [.q id m 0 (Z (f i a[c])),I ((c+1:Nat):Int)] (a1 l id k j m (f i a[c])))->km [.q id e 0 (Z i),I c] (a1 M id k j e i) g)
 (last:∀(e:Nat)(M:List Obj)(g:List AV->List Obj->Prop),J M->km [.q id e 0 (Z (a.foldl f d)),I (Z a)] (a1 M id k j e (a.foldl f d)) g):jB km bF fq:=by
 refine bG (K:=Nat×Nat×List Obj) (λb=>[.q id b.2.1 0 (Z ((a.take b.1).foldl f d)),I b.1]) (λb=>a1 b.2.2 id k j b.2.1 ((a.take b.1).foldl f d)) (λb=>Z a -b.1) (λb=>b.1<=Z a/\J b.2.2) (0,n,M) ⟨by simp,r⟩ ?_ (by grind) (by grind);rintro⟨c,e,M⟩ ⟨t,o⟩ g p;simp only at t o p⊢;by_cases h:c<Z a;refine step c h _ e M g o rfl λm l s=>?_;have:=p (c+1,m,l) ⟨h,s⟩ (by simp;omega);grind[mV];grind
theorem UX{id:Nat}(b:List d)(c:Lit)(h:id<Z M)(z:Z b+Z c.af<1099511627776):
 HR C 230 [.q id U 0 (Z b),.agg (bg T c)] (a1 M id 1 cS U b) (UU M id (c9 b c.af)):=by
 apply agt.hq;simp only[rU,O,fh,e4,zP h,bh,aJ,s6,e,aX];refine aiE (λg=>∃f,g=M++f) c.af (λj u=>eo j u.aF) b id 1 cS (M:=M++[.arr 0 1 []]) U ⟨_,rfl⟩ rfl rfl (λt n j l g o k p y=>?_) (λl g o k=>?_);obtain⟨f,rfl⟩:=k;have m:=zN (c.af.take t) b;simp only[c9]at m;rw[<-p,h0]at m;simp only[O,i,G,A,a,n,decide_true,aE n (kt _),bh,aJ];refine a8 (c4 (UW j _ (by simp;omega) (by omega)) rfl λr v s=>?_)
 obtain⟨x,w,rfl,rfl⟩:=s;rw[aZ,O];grind;obtain⟨f,rfl⟩:=k;simp only[O,i,G,A,a,cn,decide_false];exact bw ⟨l,f,rfl,rfl⟩
theorem aiF(a b c d i j g e f k:Bool)(h:(a&&f&&e&&d&&b&&c)=ab):(a&&b&&c&&d&&i&&j&&g&&e&&(f&&k))=false:=by
 grind
theorem aiG(a b c d e f g i j k:Bool)(h:(a&&j&&i&&d&&b&&c)=ad):(a&&b&&c&&d&&e&&f&&g&&i&&(j&&k))=(e&&(f&&g)&&k):=by
 grind
theorem K9(r:aD)(d:pZ r):PR C 193 [.agg (aS T r)] (.bool (nK r)):=by
 apply af1.pr;have j:nK r=(!y (r.bb<0)&& !y (r.aj.ax<0)&& !y (3<r.aj.ax)&&(r.au==[]||bY r.au)&&(!(r.au==[])|| !(y (0<(Z r.af:Int))|| !(r.aj.ax==0)))&&
  (if(r.aj.ax==1||r.aj.ax==3)=ad then bY r.aj.au else r.aj.au==[])&&(if(r.aj.ax==2||r.aj.ax==3)=ad then isVar r.aj.aF else r.aj.aF==[])&&
  eX 4 iN r.af&&(!y (8<(Z r.ai:Int))&&r.ai.all oh)):=by
  rw[<-lQ,<-lQ,<-lQ,<-lQ]<;>rfl
 generalize nK r=v at*;simp only[o9,O,bh,aJ,Kn,wy,Gi,QV,Gj,qN,Bp,e,fY,Nat.reduceAdd,aX,A,eU,c6,cv,gW,jE];refine dA (M:=[]) (!(!y (r.bb<0)&& !y (8<(Z r.ai:Int))&&eX 4 iN r.af&&(r.au==[]||bY r.au)&& !y (r.aj.ax<0)&& !y (3<r.aj.ax))) (λm k=>?_) ?_;refine ea (by grind) (λw=>ea (by grind) (λg=>c (Us _ d.1) ?_));simp only[bI,O];refine ib (λx=>c (Ut _ _) ?_) (by grind);simp only[bI,O,c3]
 refine ib (λz=>?_) (by grind);exact ea (by grind) (λB=>kB k (by grind));simp only[G];refine dw (by grind[bK,aiF]) (λh=>?_);rw[aiG _ _ _ _ _ _ _ _ _ _ h]at j;clear h;apply dA (M:=[]) (r.aj.ax==1||r.aj.ax==3) (by grind[dH]);apply dA (M:=[]) (r.aj.ax==2||r.aj.ax==3) (by grind[dH]);generalize(r.aj.ax==1||r.aj.ax==3)=l at*;generalize(r.aj.ax==2||r.aj.ax==3)=f at*;simp only[G,bI,O]
 refine dA (M:=[]) (!((if l=ad then bY r.aj.au else r.aj.au==[])&&(if f=ad then isVar r.aj.aF else r.aj.aF==[]))) (λm k=>?_) ?_;cases l<;>cases f
 refine aV (by grind) (λ_=>aV (λ_=>ib (by grind[aV]) (by grind)) (by grind));refine aV (by grind) (λ_=>aV (λ_=>ib (λh=>aV (λ_=>c (GJ _) ?_) (by grind)) (by grind)) (by grind));simp only[bI,O];exact ib (by grind[aV]) (by grind);refine aV (λ_=>c (s9 _) ?_) (by grind);simp only[bI,O];exact ib (by grind[aV]) (by grind);refine aV (λ_=>c (s9 _) ?_) (by grind);simp only[bI,O]
 refine ib (λh=>aV (by grind) (λ_=>aV (λ_=>c (GJ _) ?_) (by grind))) (by grind);simp only[bI,O];exact ib (by grind[aV]) (by grind);generalize((if l=ad then bY r.aj.au else r.aj.au==[])&&(if f=ad then isVar r.aj.aF else r.aj.aF==[]))=W at*;simp only[G];refine dw (by simp_all) (λh=>?_);refine dA (M:=[]) (!(!(r.au==[])|| !(y (0<(Z r.af:Int))|| !(r.aj.ax==0)))) (λm k=>?_) ?_
 refine aV (λh=>ea (by grind) (λg=>by simp_all[bne])) (by grind);simp only[G];refine dw (by simp_all) (λg=>?_);rw[h,g,c3,c3]at j;rw[j];refine BF (Q:=λt n=>aM n .res t (.bool (r.ai.all oh))) d.2.1 (λD u=>⟨λh s p=>?_,λh q=>?_⟩) (λh=>jk h) (λh=>bK h);simp only[O,i,G,A,a,h,decide_true,aE h (jC _ _),o8];refine a8 (c (ah3 _ (d.2.2 _ (bn h))) ?_);simp only[bI,O];refine dw p (λo=>?_);rw[d.2.1.inc h,O]
 exact s o;simp only[O,i,G,A,a];exact bw q (by simp;omega)
theorem ic{id:Nat}(h:M[id]?=aa (.arr N U (x.map a7)))(b:∀a∈x,bT (a7 a)):aM M .res (.q id N 0 (Z x)) (eS ab a7 x):=by
 refine .pK id N 0 (Z x) U (x.map a7) _ h (by simp) ?_;rw[lq,gT (by simp)];have:pW (x.map a7):=by
  clear h;induction x with
  |nil=>exact .nil
  |cons a x c=>exact .cons _ _ (b a (by simp)) (by grind)
 exact this.snap
theorem BI{id:Nat}(h:M[id]?=aa (.arr U N b1))(b:b1[z]?=aa [E])(c:dG.pl.cells=[dG])(a:dG.bU=ad):du 1 (.ptr id U z 0) dG M=aa (M.set id (.arr U N (b1.set z [dG]))):=by
 grind[du,e3]
theorem se{bytes:Nat}(h:N*bytes<=2^47)(a:N<2^47):u4 U bF bytes (I N) (I N) M=aa (.q (Z M) 0 0 N,M++[.arr 0 U (dh N bF)]):=by
 grind[u4]
theorem aiH(a:List d)(b:List Obj)(c:Z a<1099511627776):C 228 [eS T cS a] b (.q (Z b+1) 0 0 (Z a)) (b++[.arr 0 1 [],.arr 0 1 (a.map cS)]):=by
 apply ad9.hr;simp only[fh,e4];apply aY (pe rfl (uk iS _ _ _) (by omega));simp
def gz(r:aD):List d:=r.ai.foldl (λa b=>c9 a b.af) []
def oo(a:List d)(b:Lit):List d:=if(b.ax==1)=ad then eo a b.bind else a
def jm(r:aD):List d:=r.ai.foldl oo []
theorem G3:∀(b:List Lit)(a:List d),Z (b.foldl (λa b=>c9 a b.af) a)<=Z a+Z (b.map Lit.af).flatten
 |[],a=>by simp
 |x::b,a=>by
  have c:=zN x.af a;have e:=G3 b (c9 a x.af);grind
theorem aiI(a:List d)(b:Lit):Z (oo a b)<=Z a+1:=by
 grind[oo,UF]
theorem G4:∀(b:List Lit)(a:List d),Z (b.foldl oo a)<=Z a+Z b
 |[],a=>by simp
 |x::b,a=>by
  have c:=aiI a x;have e:=G4 b (oo a x);grind
def lS(r:aD):Prop:=Z r.ai<=100/\Z (r.ai.map Lit.af).flatten<=1000/\Z r.af<=100/\∀a∈r.ai,Z a.af<=1000
theorem lS.take{r:aD}(h:lS r)(a:Nat):Z ((r.ai.take a).map Lit.af).flatten<=1000:=by
 have b:Z (r.ai.map Lit.af).flatten=Z ((r.ai.take a).map Lit.af).flatten+Z ((r.ai.drop a).map Lit.af).flatten:=by
  rw[<-gC,<-xC,<-hJ,vV]
 have:=h.2.1;omega
theorem Lf(r:aD)(m:lS r):PR C 175 [.agg (aS T r)] (.aB [eS ab cS (gz r),eS ab cS (jm r)]):=by
 apply afv.pr;simp only[o9,O,e4,fh,bh,aJ,qN,e,aX,dR,e2,hG,kI]
 apply bG (λc=>[.q 2 c.2.1 0 (Z ((r.ai.take c.1).foldl (λf g=>c9 f g.af) [])),.q 3 c.2.2.1 0 (Z ((r.ai.take c.1).foldl oo [])),I c.1]) (λc=>a1 (a1 c.2.2.2 3 1 cS c.2.2.1 ((r.ai.take c.1).foldl oo [])) 2 1 cS c.2.1 ((r.ai.take c.1).foldl (λf g=>c9 f g.af) [])) (λc=>Z r.ai -c.1) (λc=>c.1<=Z r.ai/\3<Z c.2.2.2) (0,0,0,[.arr 0 1 [],.arr 0 1 [],.arr 0 1 [],.arr 0 1 []]) ⟨by simp,by simp⟩
 rintro⟨d,n,o,k⟩ ⟨x,j⟩ E p;simp only at x j p⊢;by_cases h:d<Z r.ai;have y:=G3 (r.ai.take d) [];have z:=G4 (r.ai.take d) [];have N:=m.take d;have M:=m.2.2.2 _ (bn h);have K:=m.1;simp only[e2,e,h0]at y z;have B:=λn o k j=>p (d+1,n,o,k) ⟨h,j⟩ (by simp;omega);simp only[mV h]at B;generalize(r.ai.take d).foldl (λf g=>c9 f g.af) []=s at*;generalize(r.ai.take d).foldl oo []=t at*
 simp only[O,i,G,A,a,h,decide_true,aE h (jC _ _),o8,bh,aJ,ud,Gg,c6,bz,e];refine a8 (c4 (UX s r.ai[d] (by rw[pd];omega) (by omega)) rfl λD u l=>?_);obtain⟨H,v,rfl,rfl⟩:=l;rw[zP j];have L:3<Z (k++v):=by simp;omega
 refine b (λw=>?_) (λw=>?_);rw[wR (by decide)];refine c4 (UW t _ (by rw[pd];omega) (by omega)) rfl λD u l=>?_;obtain⟨J,F,rfl,rfl⟩:=l;rw[zP (by omega),wR (by decide),aZ,O];grind[oo];rw[aZ,O];grind[oo];have:d=Z r.ai:=by omega
 subst this;simp only[O,i,G,A,a,cn,decide_false,dY];refine bw (.aB _ _ _ (.ck (ic (oj (by rw[pd];omega)) (by simp)) (.ck (ic (U:=1) ?_ (by simp)) (.nil _))));grind[wR,oj,pd]
def nM(b:List Lit)(out:List Nat)(bound:List d)(a:Nat):Bool:= !y (a∈out)&&(match b[a]? with|aa c=>j4 bound c|ae=>ab)
def yu(a:List Lit)(out:List Nat)(bound:List d):Option Nat:=(ay (Z a)).find? (nM a out bound)
def zQ(a:List Lit)(b:Nat):List aK:=(a[b]?.map Lit.af).getD []
def oq(a:List Lit):Nat->List Nat->List d->Option (List Nat)
 |0,out,_=>aa out
 |n+1,out,bound=>match yu a out bound with|ae=>ae|aa b=>oq a n (out++[b]) (c9 bound (zQ a b))
def ord(a:List Lit)(bound:List d):Option (List Nat):=oq a (Z a) [] bound
def cN(a:Nat):List AV:=[I (a:Int)]
@[simp] theorem UY(a:Nat):bT (cN a):=by simp[cN]
@[simp] theorem auv(a:Bool)(b:List Nat):Im (eS a cN b):=nE UY a b
@[simp] theorem G5(a:Nat):Z (cN a)=1:=rfl
@[simp] theorem wT(a:Nat):(cN a)[0]?=aa (I (a:Int)):=rfl
def p4(a:Option (List Nat)):AV:=match a with|aa a=>.aB [eS ab cN a,I 0]|ae=>.aB [eS ab cN [],I 80]
theorem BJ(a:Nat):fS 1 [(I 0)] 1 [(0,I (a:Int))]=aa (.sl ab [cN a]):=rfl
theorem UZ(f:Nat)(e:Nat->Bool)(m:[I (-1),I ((0:Nat):Int)]=bF)
 (step:∀a(d:List AV->List Obj->Prop),a<f->(e a=ad->d [I (a:Int),I ((a+1:Nat):Int)] M)->(e a=ab->d [I (-1),I ((a+1:Nat):Int)] M)->km [I (-1),I a] M d)
 (done:∀a(d:List AV->List Obj->Prop),a<f->e a=ad->(∀c,c<a->e c=ab)->km [I (a:Int),I ((a+1:Nat):Int)] M d)
 (ae:(∀c,c<f->e c=ab)->∀d:List AV->List Obj->Prop,km [I (-1),I f] M d):jB km bF M:=by
 refine bG (K:=Nat×Bool) (λb=>if b.2=ad then[I ((b.1 -1:Nat):Int),I b.1]else[I (-1),I b.1]) (λ_=>M) (λb=>if b.2=ad then 0 else f+1 -b.1) (λb=>b.1<=f/\(b.2=ad->0<b.1/\e (b.1 -1)=ad/\∀c,c<b.1 -1->e c=ab)/\(b.2=ab->∀c,c<b.1->e c=ab)) (0,ab) ⟨by omega,by simp,by simp⟩ ?_ (by simpa using m) rfl;rintro⟨a,l⟩ ⟨n,j,g⟩ d i;simp only at n j g i⊢;rcases l with _|_;have g:=g rfl;by_cases h:a<f
 refine step a d h (λo=>?_) (λo=>?_);have:=i (a+1,ad) (by grind) (by simp;omega);grind;have:=i (a+1,ab) (by grind) (by simp;omega);grind;grind;let⟨p,q,r⟩:=j rfl;obtain⟨k,rfl⟩:∃k,a=k+1:=⟨a -1,by omega⟩;grind
variable{lr:List Lit}
theorem U0{out:List Nat}{bound:List d}(h:U<Z lr)(c:nM lr out bound U=ad)(b:∀a,a<U->nM lr out bound a=ab):yu lr out bound=aa U:=by
 simp_all[yu]
theorem U1{out:List Nat}{bound:List d}(b:∀a,a<Z lr->nM lr out bound a=ab):yu lr out bound=none:=by
 grind[yu]
def fV(b:Nat)(out:List Nat):List Bool:=(ay b).map λa=>y (a∈out)
theorem U2(a:Nat):fV a []=dh a false:=by
 apply qs<;>simp[fV]
theorem G6{out:List Nat}(h:N<U):((fV U out).map cB)[N]?=aa [.bool (y (N∈out))]:=by
 simp[fV,h,cB]
theorem U3{out:List Nat}:((fV U out).map cB).set N [tt]=(fV U (out++[N])).map cB:=by
 apply qs;simp[fV];grind[fV,cB,absurd]
theorem aiJ(r:aD)(bound:List d)(x:lS r)(V:Z bound<=1000):PR C 174 [.agg (aS T r),eS F cS bound] (p4 (ord r.ai bound)):=by
 apply agm.pr;simp only[o9,O,e4,fh,dR,e2];apply qO _ (aiH bound _ (by omega));have a4:=x.1;simp only[bh,aJ,qN,e,O,aX];apply aY (se (by omega) (by omega));simp only[hG,dR,kI,e2,e,Nat.reduceAdd];have Y:dh (Z r.ai) [ff]=(fV (Z r.ai) []).map cB:=by rw[U2];simp[cB]
 rw[Y]
 apply bG (K:=List Nat×List d×Nat×Nat×List Obj) (λc=>[.q 0 0 0 0,I 0,.q 2 c.2.2.1 0 (Z c.2.1),.q 4 c.2.2.2.1 0 (Z c.1)]) (λc=>a1 (a1 (a1 c.2.2.2.2 2 1 cS c.2.2.1 c.2.1) 3 1 cB 0 (fV (Z r.ai) c.1)) 4 1 cN c.2.2.2.1 c.1) (λc=>Z r.ai -(Z c.1)) (λc=>Z c.1<=Z r.ai/\5<=Z c.2.2.2.2/\Z c.2.1<=1000+Z c.1*1000/\ord r.ai bound=oq r.ai (Z r.ai -(Z c.1)) c.1 c.2.1) ([],bound,0,0,[.arr 0 1 [],.arr 0 1 [],.arr 0 1 [],.arr 0 1 [],.arr 0 1 []]) ⟨by simp,by simp,by simpa using V,by simp[ord]⟩
 rintro⟨out,g,k,m,l⟩ ⟨ac,X,p,n⟩ L K;simp only at ac X p n K⊢;simp only[i,G,oa,O,A,a];refine b (λh=>?_) (λh=>?_);have h:Z out<Z r.ai:=by simpa using h
 rw[show Z r.ai -(Z out)=(Z r.ai -(Z out+1))+1 by omega,oq]at n;have o:(a1 (a1 (a1 l 2 1 cS k g) 3 1 cB 0 (fV (Z r.ai) out)) 4 1 cN m out)[3]?=aa (.arr 0 1 ((fV (Z r.ai) out).map cB)):=by grind[UJ,pd]
 have B:(a1 (a1 (a1 l 2 1 cS k g) 3 1 cB 0 (fV (Z r.ai) out)) 4 1 cN m out)[2]?=aa (.arr k 1 (g.map cS)):=by
  have:(a1 (a1 (a1 l 2 1 cS k g) 3 1 cB 0 (fV (Z r.ai) out)) 4 1 cN m out)[2]?=(a1 (a1 l 2 1 cS k g) 3 1 cB 0 (fV (Z r.ai) out))[2]?:=by simp[a1]
  rw[this];exact UJ (by decide) (by omega)
 generalize U:a1 (a1 (a1 l 2 1 cS k g) 3 1 cB 0 (fV (Z r.ai) out)) 4 1 cN m out=s at B o⊢;refine UZ (Z r.ai) (nM r.ai out g) rfl (λf z j J p=>?_) (λf z j ah w=>?_) (λw z=>?_);simp only[bz,O,i,G,A,a,j,decide_true];refine aV (λ_=>a8 ?_) (λh=>by cases h);simp only[fw o j,O,c0 o (G6 j),dj,bI,aE j (jC _ _),o8];have W:nM r.ai out g f=(!y (f∈out)&&j4 g r.ai[f]):=by
  rw[nM,bq j]
 rw[W]at J p;refine aV (λt=>eV _ (aiD g r.ai[f] (by unfold Sm;omega) (by have:=x.2.2.2 _ (bn j);unfold vc Sm;omega)) (.ck (om B (by simp)) (.ck eu (.nil _))) (.bool _) ?_) (λt=>bw ?_);refine b (λu=>?_) (λu=>?_);rw[aZ,O];exact J (by rw[t,u]<;>rfl);rw[aZ,O];exact p (by rw[t,u]<;>rfl);rw[aZ,O];exact p (by rw[t]<;>rfl);have D:y ((f:Int)<0)=false:=by simp
 have H:ez (.bool (y ((f:Int)<0))) (cq (aa (AV.q (Z s) 0 0 0,s++[.arr 0 1 []])) λau Q=>aM Q .res (.aB [au.pl,(I 80).pl]) (p4 (ord r.ai bound)))
  (bd (bP 1 (.q 3 0 0 (Z r.ai)) (I f) s) λax=>bd (du 1 ax tt s) λv=>bd (bP 9 (eS T (bg T) r.ai) (I f) v) λaz=>bd (aQ 9 ad az v) λaA=>ch C 230 [.q 2 k 0 (Z g),aA] v λaF R=>bd (fS 1 [I 0] 1 [(0,I f)]) λaR=>cq (cJ 1 8 (.q 4 m 0 (Z out)) aR R) λa0 S=>L [.q 0 0 0 0,I 0,aF,a0] S):=by
  refine bw ?_ D;rw[fw o j,O,BI o (G6 j) rfl rfl,O,U3,<-U];have ak:(a1 (a1 (a1 l 2 1 cS k g) 3 1 cB 0 (fV (Z r.ai) out)) 4 1 cN m out).set 3 (.arr 0 1 ((fV (Z r.ai) (out++[f])).map cB))=a1 (a1 (a1 l 3 1 cB 0 (fV (Z r.ai) (out++[f]))) 4 1 cN m out) 2 1 cS k g:=by
   rw[show(a1 (a1 (a1 l 2 1 cS k g) 3 1 cB 0 (fV (Z r.ai) out)) 4 1 cN m out).set 3 (.arr 0 1 ((fV (Z r.ai) (out++[f])).map cB))=a1 (a1 (a1 (a1 l 2 1 cS k g) 3 1 cB 0 (fV (Z r.ai) out)) 4 1 cN m out) 3 1 cB 0 (fV (Z r.ai) (out++[f]))from rfl];grind[wR,id,UE]
  rw[ak];simp only[aE j (jC _ _),O,o8];have a6:=x.2.2.2 _ (bn j);have a5:Z out*1000<=100*1000:=by omega
  refine c4 (UX g r.ai[f] (by grind[pd]) (by omega)) rfl λbe a2 aj=>?_;obtain⟨P,M,rfl,rfl⟩:=aj;rw[BJ,O,zP (by rw[pd];omega),zP (by omega),wR (id:=4) (N:=2) (by decide)];apply ys (a7:=cN) (by grind[pd,List.length_append]) rfl (by omega);rw[wR (id:=3) (N:=2) (by decide)];have E:Z (out++[f])=Z out+1:=by simp
  have a9:=zN r.ai[f].af g;refine K (out++[f],c9 g r.ai[f].af,P,m+1,l++M) ⟨by simp;omega,by simp;omega,by simp only[E];omega,?_⟩ (by simp;omega);rw[U0 j ah w]at n;rw[n,E];simp[zQ,j]
 simp only[bz,O,i,G,A];refine aV (λ_=>bw H D) (λ_=>bw H);simp only[bz,O,i,G,A,a,cn,decide_false];refine aV (λh=>by cases h) (λ_=>bw (a8 ?_));rw[n,U1 w];refine .aB _ _ _ (.ck ?_ (.ck (.int _ _ _) (.nil _)));exact ic (x:=([]:List Nat)) (a7:=cN) (U:=1) (N:=0) (by simp) (by simp);have h:Z r.ai -(Z out)=0:=by simp at h;omega
 rw[n,h,oq];refine .aB _ _ _ (.ck ?_ (.ck (.int _ _ _) (.nil _)));exact ic (oj (by simp only[pd];omega)) (by simp)
def uo(r:aD):Bool:=(ord r.ai []).isSome&&r.af.all (known (gz r))&&((r.aj.ax !=2)&&(r.aj.ax !=3)||y (r.aj.aF∈jm r))
def tf(a:List (Int×Int))(r:aD):List (Int×Int):=if uo r=ad then a else a++[(80,r.bb)]
def qV(a:D):List (Int×Int):=a.ak.foldl tf []
theorem lS.U4{r:aD}(h:lS r):Z (gz r)<=1000:=by
 have:=G3 r.ai [];have:=h.2.1;grind[gz]
theorem lS.lvl{r:aD}(h:lS r):Z (jm r)<=100:=by
 have:=G4 r.ai [];have:=h.1;grind[jm]
theorem yv(a b:Int):fS 2 [(I 0),(I 0)] 1 [(0,.agg [I a,I b])]=aa (.sl ab [b3 (a,b)]):=rfl
theorem wU(a b:Int):mb [(I 0),(I 0)] [(0,1,I a),(1,1,I b)]=aa [I a,I b]:=rfl
theorem aiK(r:aD)(b:lS r):PR C 114 [.agg (aS T r)] (.bool (uo r)):=by
 apply agj.pr;simp only[o9,O,bh,aJ,nF,wy,Gi,Gj,e,fY,Nat.reduceAdd,aX,cv];refine⟨.dm,[.agg (aS T r),eS ab cS []],p4 (ord r.ai []),by decide,?_,aiJ r [] b (by simp),by simp,?_⟩;exact .ck eu (.ck (.aq _ _) (.nil _));rw[uo];rcases p:ord r.ai []with _|o;simp only[p4,fK,dj,eH,O,cv];exact a8 (bK rfl);simp only[p4,fK,dj,eH,O,cv,oJ,c3];refine bw (c (Lf r b) ?_);simp only[dj,eH,O];have q:=b.U4
 have n:=b.lvl;refine eB (U:=Z r.af) (c:=λd=>[ff,I d]) (λd=>(r.af.take d).all (known (gz r))=ad) (by simp) rfl (λd j g k m=>?_) (λg k=>?_);simp only[O,i,G,A,a,j,decide_true,aE j (kt _),lM];refine a8 (c (G2 _ _ (by unfold Sm;omega)) ?_);simp only[bI,O];refine dw (by grind[bK,yr]) (λh=>?_);rw[aZ (by have:=b.2.2.1;omega),O];grind[oi];rw[dY]at g;simp only[O,i,G,A,a,cn,decide_false,bz];rw[g,c3]
 refine bw (aV (λh=>dH (λf=>?_) (λf=>jk (by rw[h,f]<;>rfl))) (λh=>?_));exact c (GX _ _ (by unfold Sm;omega)) (iW (by rw[h,f]<;>rfl));exact c (GX _ _ (by unfold Sm;omega)) (iW (by rw[h]<;>rfl))
theorem Lg:∀(b:List aD)(a:List (Int×Int)),Z (b.foldl tf a)<=Z a+Z b
 |[],a=>by simp
 |r::b,a=>by
  have:=Lg b (tf a r);grind[tf]
theorem aiL(b:D)(u:Z b.ak<=20)(o:∀r∈b.ak,lS r):PR C 64 [.agg (cP T F b)] (eS ab b3 (qV b)):=by
 apply ad3.pr;simp only[eE,O,e4,fh,bh,aJ,pb,e,aX,dR,e2,hG,kI];refine wP b.ak tf [] 1 2 b3 (M:=[.arr 0 2 [],.arr 0 2 []]) 0 rfl (by simp[a1]) (λp d g j f l t=>?_) (λj f=>?_);have m:=Lg (b.ak.take p) [];rw[<-l,h0,e2]at m;have n:=bn d;simp only[O,i,G,A,a,d,decide_true,oa,bz,aE d (mP _ _),nF,bh,aJ,Bp,e];have k:y ((Z g:Int)<20)=true:=by simp;omega
 refine aV (λ_=>a8 (c (aiK _ (o _ n)) ?_) k) (λh=>by cases h);simp only[bI,O];refine dw (λh=>?_) (λh=>?_);rw[wU,O,yv,O];refine ys (a7:=b3) (by simp) rfl (by omega) ?_;rw[aZ,O];grind[tf];rw[aZ,O];grind[tf];simp only[O,i,G,A,a,cn,decide_false,bz];exact aV (λh=>by cases h) (λ_=>bw (DR (by simp) (by simp)))
abbrev sf:KD:=⟨ab,1,[1]⟩
def iX(a:List d):List AV:=a.map AV.str
def tg(a:List d):List AV:=dh (Z a) (.agg [])
def ph(a:List d):AV:=.il (iX a) (tg a)
def pj(a:List d):Obj:=.mp ad (iX a) (tg a)
theorem th(a b:d):sf.eq (.str a) (.str b)=aa (a==b):=rfl
theorem ti(c:d):∀(b:List d)(a:Nat),sf.find (.str c) (iX b) a=aa ((b.findIdx? (c==·)).map (· +a))
 |[],a=>rfl
 |x::b,a=>by
  rw[iX,ej,KD.find,th,Fe];rcases h:c==x with _|_;simp only[e6,if_false];have:=ti c b (a+1);rw[iX]at this;rw[this]
  congr 1
  cases b.findIdx? (c==·)<;>simp;omega
  simp
theorem U5(b:d)(a:List d):(a.findIdx? (b==·)).isSome=y (b∈a):=by
 grind
theorem aiM(h:U<Z p):(tg p)[U]?=aa (.agg []):=by simp[tg,h]
theorem aiN(a:d)(h:mf M E=aa (iX p,tg p)):iM sf (.agg []) ad E (.str a) M=aa (.aB [.agg [],.bool (y (a∈p))]):=by
 have c:=U5 a p;simp only[iM,h,th,oJ,if_true,ti];rcases b:p.findIdx? (a==·)with _|i;grind;rw[b]at c;have e:i<Z p:=by
  have:=qt.1 b;exact this.1
 simp_all[kf,fY,aiM,decide]
theorem aiO(a:List d)(b:Nat):(tg a).set b (.agg [])=tg a:=by
 simp_all[tg]
def sg(a:List d)(b:d):List d:=if b∈a then a else a++[b]
theorem G7{id:Nat}(a:d)(h:M[id]?=aa (pj p)):jP sf (.b8 id) (.str a) (.agg []) M=aa (M.set id (pj (sg p a))):=by
 have b:=U5 a p;simp only[jP,h,pj,zy,th,oJ,if_true,ti,Bm];rcases c:p.findIdx? (a==·)with _|i;simp_all[sg,iX,tg,arD];simp_all[kf,fY,aiO,sg]
theorem vo(a:List d):bT (iX a):=by
 unfold iX;induction a with
 |nil=>exact .nil
 |cons c a b=>simp_all
theorem Lh(a:List d):bT (tg a):=by
 unfold tg;induction a with
 |nil=>exact .nil
 |cons c a b=>exact .cons _ _ (.agg _ .nil) b
theorem Li(a:List d)(b:List Obj):aM b .dm (ph a) (ph a):=.zk _ _ _ _ (vo a).snap (Lh a).snap
theorem G8{id:Nat}(h:M[id]?=aa (pj p)):aM M .cd (.b8 id) (ph p):=.xP id ad _ _ _ _ h (vo p).snap (Lh p).snap
def uq(b c:List d):Prop:=∀a,a∈b<->a∈c
variable{gD:List d}
theorem uq.known(h:uq p gD)(a:aK):known p a=known gD a:=by
 simp only[Go.AM.known,h a.aF]
theorem aiP(a:List d):(ph a).pl=ph a:=rfl
theorem Lj(a:List d)(b:aK):PR C 161 [ph a,.agg (cT b)] (.bool (!known a b)):=by
 apply R2.pr;have c:=aiN (E:=ph a) (M:=[]) b.aF rfl;simp only[zC,O,bh,aJ,rV,e,c,fK,dj,eH,jE,bI,bz,G];apply aI rfl;refine BE (λh=>iW ?_) (λh=>bK ?_);rw[known,h]<;>rfl
 grind[known]
theorem G9(a:List d)(b:aK):fL C (.fn 161 [ph a] []) (.agg (cT b)) (.bool (!known a b)):=by
 refine⟨161,[ph a,.agg (cT b)],rfl,Lj a b,λc=>?_⟩;exact .ck (Li a c) (.ck eu (.nil _))
theorem Lk(a:List d):h9 (.fn 161 [ph a] []):=
 ⟨rfl,λb=>.fn _ _ _ _ _ _ (.ck (Li a b) (.nil _)) (.nil _)⟩
theorem Ll(a:List K)(b:K->Bool):(!a.any λc=> !b c)=a.all b:=by
 grind
theorem aiQ(c:List d)(a:Lit)(m:vc a):PR C 212 [ph c,.agg (bg T a)] (.bool (j4 c a)):=by
 apply RJ.pr;simp only[rU,O,bh,aJ,ud,s6,Dw,e,c6,aX,aiP];apply dA (M:=[]) (a.ax==1||a.ax==3) (λn k=>dH (by grind) (by grind));simp only[G];refine b (by simp_all[j4]) (λh=>?_);rw[j4,if_neg (by grind)];apply dA (M:=[]) (a.ax==5&&a.op==1&&(Z a.af:Int)==2) (λn k=>aV (λh=>aV (by grind) (by grind)) (by grind));simp only[G];refine b (λh=>?_) (λh=>?_);rw[if_pos h];have l:Z a.af=2:=by
  simp only[ba,beq_iff_eq]at h;omega
 have i:0<Z a.af:=by omega
 have j:1<Z a.af:=by omega
 rw[UT l i j];have e0:=aE (T:=T) (M:=[]) i (kt _);have g:=aE (T:=T) (M:=[]) j (kt _);simp only[arR]at e0 g;simp only[e0,g,O,lM,bz,G,Bm];apply(G9 c a.af[0]).cp;simp only[bI,O,Ff];refine dH (λh=>?_) (by simp_all);apply(G9 c a.af[1]).cp;simp only[bI,O,Ff];simp_all;rw[if_neg (by grind)];refine⟨.dm,[eS T cT a.af,.fn 161 [ph c] []],_,by decide,?_,KY (Lk c) a.af m (λo _=>G9 c o),by simp,?_⟩
 exact .ck eu (.ck ((Lk c).2 _) (.nil _));simp only[bI,O,Ll];exact iW rfl
def iO(a:List Obj)(id:Nat)(b:List d):List Obj:=a.set id (pj b)
theorem U6{id:Nat}(h:id<Z M):(iO M id p)[id]?=aa (pj p):=by simp[iO,h]
theorem Lm{id:Nat}:Z (iO M id p)=Z M:=by simp[iO]
theorem U7{id:Nat}:(iO M id p).set id (pj gD)=iO M id gD:=by simp[iO]
theorem Ha{id:Nat}(h:id≠U):a1 (iO M id p) U N a7 z x=iO (a1 M U N a7 z x) id p:=by
 grind[a1,iO,List.set_comm]
theorem aiR(a:List d)(h:bL≠[]):eo a bL=sg a bL:=by
 grind[eo,sg]
theorem aiS{id:Nat}(g:List d)(c:Lit)(h:id<Z M)(p:Z c.af<=1000):C 213 [.b8 id,.agg (bg T c)] (iO M id g) (.aB []) (iO M id (c9 g c.af)):=by
 apply R6.hr;simp only[rU,O,bh,aJ,s6,e,aX];apply bG (K:=Nat) (λb=>[I b]) (λb=>iO M id (c9 g (c.af.take b))) (λb=>Z c.af -b) (λb=>b<=Z c.af) 0 (by simp);intro b o n m;simp only[G,A,O,a];by_cases k:b<Z c.af;have j:=m (b+1) k (by omega);rw[c9,mV k]at j;simp only[k,decide_true,aE k (kt _),O,lM,ya,UA,jE,bz];refine a8 (dw (λl=>?_) (λl=>?_));refine aI rfl ?_;rw[G7 _ (U6 h),O,U7,aZ,O]
 have:eo ((c.af.take b).foldl (λf i=>eo f i.aF) g) c.af[b].aF=sg ((c.af.take b).foldl (λf i=>eo f i.aF) g) c.af[b].aF:=by
  exact aiR _ (by simpa using l)
 rw[this]at j;exact j;rw[aZ,O];have:eo ((c.af.take b).foldl (λf i=>eo f i.aF) g) c.af[b].aF=(c.af.take b).foldl (λf i=>eo f i.aF) g:=by
  simp only[beq_iff_eq]at l;simp[eo,l]
 rw[this]at j;exact j;have:b=Z c.af:=by omega
 simp_all
def wV(a:List d):List d:=a.foldl sg []
theorem aiT(b:List d)(c a:d):a∈sg b c<->a∈b\/a=c:=by
 grind[sg]
theorem U8(c:d):∀(b a:List d),c∈b.foldl sg a<->c∈a\/c∈b
 |[],a=>by simp
 |y::b,a=>by rw[np,U8 c b,aiT,b6,or_assoc]
theorem U9(a:List d):uq (wV a) a:=λb=>by rw[wV,U8];simp
theorem Va(c:List d)(e:List Obj)(l:Z c<=1000000):C 160 [eS T cS c] e (.b8 (Z e)) (e++[pj (wV c)]):=by
 apply SG.hr;simp only[e4,aX,O];have h:Z e<Z (e++[Obj.mp ad [] []]):=by simp
 refine bG (K:=Nat) (λb=>[I b]) (λb=>iO (e++[.mp ad [] []]) (Z e) ((c.take b).foldl sg [])) (λb=>Z c -b) (λb=>b<=Z c) 0 (by simp) ?_ rfl (by simp[iO,pj,iX,tg]);intro b k j i;simp only[G,A,O,a];by_cases f:b<Z c;have g:=i (b+1) f (by omega);rw[mV f]at g;simp only[f,decide_true,aE f (iS _),O,aJ,lO];refine a8 (aI rfl ?_);rw[G7 _ (U6 h),O,U7,aZ,O];exact g;have:b=Z c:=by omega
 subst this;simp only[cn,decide_false,dY];exact bw ⟨rfl,by simp[iO,wV]⟩
theorem aiU(h:uq p gD)(a:List aK):uq (c9 p a) (c9 gD a):=by
 unfold c9;induction a generalizing p gD with
 |nil=>exact h
 |cons f a b=>
  refine b λc=>?_;unfold eo;have e:=h c;grind
theorem uq.j4(h:uq p gD)(a:Lit):j4 p a=j4 gD a:=by
 have:=funext h.known;grind[Go.AM.j4]
theorem uq.nM(h:uq p gD)(a:List Lit)(out:List Nat):nM a out p=nM a out gD:=by
 funext b
 simp only[Go.AM.nM];cases a[b]?<;>simp[h.j4]
theorem uq.oq(h:uq p gD)(b:List Lit):∀(a:Nat)(out:List Nat),oq b a out p=oq b a out gD:=by
 intro a;induction a generalizing p gD with
 |zero=>intro _;rfl
 |succ a c=>
  intro out;simp only[Go.AM.oq,yu,h.nM];grind[aiU]
theorem Vb(r:aD)(bound:List d)(B:lS r)(Y:Z bound<=1000):PR C 158 [.agg (aS T r),eS F cS bound] (p4 (ord r.ai bound)):=by
 refine S8.pr ?_;simp only[o9,O,e4,fh,dR,e2];refine qO _ (Va bound _ (by omega)) ?_;have ac:=B.1;simp only[bh,aJ,qN,e,O,aX];refine aY (se (by omega) (by omega)) ?_;simp only[hG,dR,kI,e2,e,Nat.reduceAdd];have N:dh (Z r.ai) [ff]=(fV (Z r.ai) []).map cB:=by rw[U2];simp[cB]
 rw[N];have ah:ord r.ai bound=oq r.ai (Z r.ai) [] (wV bound):=(U9 bound).oq _ _ _▸rfl;refine bG (λj=>[.q 0 0 0 0,I 0,.q 3 j.2.2 0 (Z j.1)]) (λj=>a1 (a1 (iO [.arr 0 1 [],.arr 0 1 [],.arr 0 1 [],.arr 0 1 []] 1 j.2.1) 2 1 cB 0 (fV (Z r.ai) j.1)) 3 1 cN j.2.2 j.1) (λj=>Z r.ai -(Z j.1)) (λj=>Z j.1<=Z r.ai/\ord r.ai bound=oq r.ai (Z r.ai -(Z j.1)) j.1 j.2.1) ([],wV bound,0) (by grind) ?_
 rintro⟨out,f,k⟩ ⟨am,n⟩ X V;simp only[i,G,oa,O,A,a];refine b (λh=>?_) (λh=>?_);have h:Z out<Z r.ai:=by simpa using h
 rw[show Z r.ai -(Z out)=(Z r.ai -(Z out+1))+1 by omega,oq]at n;have p:(a1 (a1 (iO [.arr 0 1 [],.arr 0 1 [],.arr 0 1 [],.arr 0 1 []] 1 f) 2 1 cB 0 (fV (Z r.ai) out)) 3 1 cN k out)[2]?=aa (.arr 0 1 ((fV (Z r.ai) out).map cB)):=rfl;have x:(a1 (a1 (iO [.arr 0 1 [],.arr 0 1 [],.arr 0 1 [],.arr 0 1 []] 1 f) 2 1 cB 0 (fV (Z r.ai) out)) 3 1 cN k out)[1]?=aa (pj f):=rfl
 generalize H:a1 (a1 (iO [.arr 0 1 [],.arr 0 1 [],.arr 0 1 [],.arr 0 1 []] 1 f) 2 1 cB 0 (fV (Z r.ai) out)) 3 1 cN k out=t at x p⊢;refine eB (U:=Z r.ai) (c:=λc=>[.q 3 k 0 (Z out),I c]) (λc=>∀m,m<c->nM r.ai out f m=ab) (by simp) rfl (λc l o u Q=>?_) (λo u=>?_);simp only[bz,O,i,G,A,a,l,decide_true,aE l (jC _ _),o8,yc,fw p l,c0 p (G6 l),dj,bI];have L:nM r.ai out f c=(!y (c∈out)&&j4 f r.ai[c]):=by
  rw[nM,bq l]
 have M:(AV.agg [g (bg T r.ai[c]) 0,g (bg T r.ai[c]) 1,g (bg T r.ai[c]) 2,g (bg T r.ai[c]) 3,g (bg T r.ai[c]) 4,g (bg T r.ai[c]) 5,g (bg T r.ai[c]) 6,g (bg T r.ai[c]) 7,g (bg T r.ai[c]) 8])=.agg (bg T r.ai[c]):=rfl;rw[M];have U:=B.2.2.2 _ (bn l);have no:nM r.ai out f c=ab->bd (aT .s .add (I c) (I 1)) λW=>u [.q 3 k 0 (Z out),W] t:=by
  intro P;rw[aZ,O];refine Q λm aj=>?_;by_cases w:m=c;subst w;exact P;exact o m (by omega)
 refine a8 (aV (λD=>eV _ (aiQ f r.ai[c] (by unfold vc Sm;omega)) (.ck (G8 x) (.ck eu (.nil _))) (.bool _) ?_) (by simp_all));refine b (λE=>?_) (by grind);have R:nM r.ai out f c=true:=by rw[L,D,E]<;>rfl
 rw[U0 l R o]at n;have J:t=iO (a1 (a1 [.arr 0 1 [],.arr 0 1 [],.arr 0 1 [],.arr 0 1 []] 2 1 cB 0 (fV (Z r.ai) out)) 3 1 cN k out) 1 f:=by
  rw[<-H,Ha (by decide),Ha (by decide)]
 rw[J];refine qO (.aB []) (aiS f r.ai[c] (by simp[pd]) U) ?_;have K:iO (a1 (a1 [.arr 0 1 [],.arr 0 1 [],.arr 0 1 [],.arr 0 1 []] 2 1 cB 0 (fV (Z r.ai) out)) 3 1 cN k out) 1 (c9 f r.ai[c].af)=a1 (a1 (iO [.arr 0 1 [],.arr 0 1 [],.arr 0 1 [],.arr 0 1 []] 1 (c9 f r.ai[c].af)) 3 1 cN k out) 2 1 cB 0 (fV (Z r.ai) out):=by
  rw[Ha (by decide),Ha (by decide),wR (by decide)]
 rw[K];have z:(a1 (a1 (iO [.arr 0 1 [],.arr 0 1 [],.arr 0 1 [],.arr 0 1 []] 1 (c9 f r.ai[c].af)) 3 1 cN k out) 2 1 cB 0 (fV (Z r.ai) out))[2]?=aa (.arr 0 1 ((fV (Z r.ai) out).map cB)):=oj (by simp[pd,Lm]);rw[fw z l,O,BI z (G6 l) rfl rfl,O,U3,BJ,O]
 have S:(a1 (a1 (iO [.arr 0 1 [],.arr 0 1 [],.arr 0 1 [],.arr 0 1 []] 1 (c9 f r.ai[c].af)) 3 1 cN k out) 2 1 cB 0 (fV (Z r.ai) out)).set 2 (.arr 0 1 ((fV (Z r.ai) (out++[c])).map cB))=a1 (a1 (iO [.arr 0 1 [],.arr 0 1 [],.arr 0 1 [],.arr 0 1 []] 1 (c9 f r.ai[c].af)) 2 1 cB 0 (fV (Z r.ai) (out++[c]))) 3 1 cN k out:=by
  rw[show∀v:List Obj,v.set 2 (.arr 0 1 ((fV (Z r.ai) (out++[c])).map cB))=a1 v 2 1 cB 0 (fV (Z r.ai) (out++[c]))fromλ_=>rfl,UE,wR (by decide)]
 rw[S];refine ys (by simp[pd,Lm]) rfl (by omega) ?_;have ak:Z (out++[c])=Z out+1:=by simp
 refine V (out++[c],c9 f r.ai[c].af,k+1) ⟨by simp;omega,?_⟩ (by simp;omega);grind[zQ];simp only[O,i,G,A,a,cn,decide_false];refine bw ?_;rw[n,U1 o];refine .aB _ _ _ (.ck ?_ (.ck (.int _ _ _) (.nil _)));exact ic (x:=([]:List Nat)) (U:=1) (by simp) (by simp);have h:Z r.ai -(Z out)=0:=by simp at h;omega
 rw[n,h,oq];refine .aB _ _ _ (.ck ?_ (.ck (.int _ _ _) (.nil _)));exact ic (oj (by simp[pd,Lm])) (by simp)
theorem Vc(h:(!known p ⟨bL,⟨0,0,[]⟩⟩)=ad):eo p bL=p++[bL]/\sg p bL=p++[bL]:=by
 grind[known,eo,sg]
theorem Vd(h:(!known p ⟨bL,⟨0,0,[]⟩⟩)=ab):eo p bL=p:=by
 grind[known,eo]
theorem aiV(a:List d)(b:aK):known a b=known a ⟨b.aF,⟨0,0,[]⟩⟩:=rfl
def yw(a b:List d)(c e:Nat):List Obj:=[.arr c 1 (a.map cS),.arr e 1 (b.map cS),pj a,pj b]
theorem aiW(a:d)(c:Z p<1099511627776):cJ 1 16 (.q 0 U 0 (Z p)) (.sl ab [cS a]) (yw p gD U N)=aa (.q 0 (U+1) 0 (Z (p++[a])),[.arr (U+1) 1 ((p++[a]).map cS),.arr N 1 (gD.map cS),pj p,pj gD]):=
 p2 (M:=yw p gD U N) a (by simp[yw]) rfl (by omega)
theorem aiX(a:d)(c:Z gD<1099511627776):cJ 1 16 (.q 1 N 0 (Z gD)) (.sl ab [cS a]) (yw p gD U N)=aa (.q 1 (N+1) 0 (Z (gD++[a])),[.arr U 1 (p.map cS),.arr (N+1) 1 ((gD++[a]).map cS),pj p,pj gD]):=
 p2 (M:=yw p gD U N) a (by simp[yw]) rfl (by omega)
theorem Ve(r:aD)(x:lS r):PR C 106 [.agg (aS T r)] (.aB [eS ab cS (gz r),eS ab cS (jm r)]):=by
 refine Ty.pr ?_;simp only[o9,O,e4,fh,bh,aJ,qN,e,aX,dR,e2,hG,kI];refine bG (λc=>[.q 0 c.2.1 0 (Z ((r.ai.take c.1).foldl (λf m=>c9 f m.af) [])),.q 1 c.2.2 0 (Z ((r.ai.take c.1).foldl oo [])),I c.1]) (λc=>yw ((r.ai.take c.1).foldl (λf m=>c9 f m.af) []) ((r.ai.take c.1).foldl oo []) c.2.1 c.2.2) (λc=>Z r.ai -c.1) (λc=>c.1<=Z r.ai) (0,0,0) (by simp) ?_;rintro⟨d,w,p⟩ Q M J;by_cases h:d<Z r.ai
 ·have F:=G3 (r.ai.take d) []
  have H:=G4 (r.ai.take d) [];have U:=x.take d;have S:=x.2.2.2 _ (bn h);have P:=x.1;simp only[e2,e,h0]at F H;have t:=λw p=>J (d+1,w,p) h (by simp;omega);simp only[mV h]at t;generalize(r.ai.take d).foldl (λf m=>c9 f m.af) []=o at*;generalize(r.ai.take d).foldl oo []=j at*;simp only[O,i,G,A,a,h,decide_true,aE h (jC _ _),o8,yc,wG,wH,yp,wI,wJ,wK,yq,wL,wM,aX];refine a8 ?_;rw[bz]
  refine bG (λc=>.q 0 c.2 0 (Z (c9 o (r.ai[d].af.take c.1)))::I c.1::bg T r.ai[d]) (λc=>yw (c9 o (r.ai[d].af.take c.1)) j c.2 p) (λc=>Z r.ai[d].af -c.1) (λc=>c.1<=Z r.ai[d].af) (0,w) (by simp) ?_;rintro⟨k,l⟩ R N K;simp only[O,i,G,A,a];by_cases s:k<Z r.ai[d].af;have n:=λl=>K (k+1,l) s (by simp;omega);simp only[c9,mV s]at n;have z:=zN (r.ai[d].af.take k) o;rw[h0]at z;simp only[c9]at z⊢
  generalize(r.ai[d].af.take k).foldl (λf L=>eo f L.aF) o=D at*;simp only[s,decide_true,aE s (kt _),O,lM,ya,UA,aii,aij,aik,bz,wG,wH,yp,wI,wJ,wK,yq,wL,wM];refine a8 (eV _ (Lj D r.ai[d].af[k]) (.ck (G8 rfl) (.ck (by simp[Im.snap,cT]) (.nil _))) (.bool _) ?_);rw[aiV];refine b (λg=>?_) (λg=>?_);rw[DS,O];refine aY (aiW _ (by omega)) ?_;refine aI rfl ?_;refine aI (G7 _ rfl) ?_;rw[aZ,O]
  obtain⟨u,v⟩:=Vc g;rw[u]at n;rw[v];exact n (l+1);rw[aZ,O];rw[Vd g]at n;exact n l
  ·have:k=Z r.ai[d].af:=by omega
   subst this;simp only[cn,decide_false,dY,wG,wH,yp,wI,wJ,wK,yq,wL,wM,c6,O,bz];have E:mb [(.str []),(I 0),(I 0),(.str [])] [(0,1,.str r.ai[d].bind)]=aa (cT ⟨r.ai[d].bind,⟨0,0,[]⟩⟩):=rfl;refine bw (aV (λg=>?_) (λg=>bw ?_))
   ·rw[E,O]
    refine eV _ (Lj j _) (.ck (G8 rfl) (.ck eu (.nil _))) (.bool _) ?_
    try simp only[G,i]
    have B:oo j r.ai[d]=eo j r.ai[d].bind:=by rw[oo,if_pos g]
    rw[B]at t;refine b (λy=>?_) (λy=>?_);rw[DS,O];refine aY (aiX _ (by omega)) ?_;refine aI rfl ?_;refine aI (G7 _ rfl) ?_;rw[aZ,O];obtain⟨u,v⟩:=Vc y;rw[u]at t;rw[v];exact t l (p+1);rw[aZ,O];grind[Vd]
   have B:oo j r.ai[d]=j:=by rw[oo,if_neg (by rw[g];decide)]
   grind[G,i,aZ,O]
 have:d=Z r.ai:=by omega
 subst this;simp only[O,i,G,A,a,cn,decide_false,dY];exact bw (.aB _ _ _ (.ck (ic rfl (by simp)) (.ck (ic rfl (by simp)) (.nil _))))
theorem aiY(r:aD)(a:lS r):PR C 92 [.agg (aS T r)] (.bool (uo r)):=by
 apply Tx.pr;simp only[o9,O,bh,aJ,nF,wy,Gi,Gj,e,fY,Nat.reduceAdd,cv,mg,true_and];refine⟨.dm,[.agg (aS T r),eS ab cS []],p4 (ord r.ai []),by decide,?_,Vb r [] a (by simp),by simp,?_⟩;exact .ck eu (.ck (.aq _ _) (.nil _));rw[uo];rcases l:ord r.ai []with _|o;simp only[p4,fK,dj,eH,O,cv];exact a8 (bK rfl);simp only[p4,fK,dj,eH,O,cv,oJ,c3];refine bw (c (Ve r a) ?_);simp only[dj,eH,O];have m:=a.U4
 have k:=a.lvl;apply qO _ (Va (gz r) [] (by omega));have f:r.af.any (λb=> !known (wV (gz r)) b)= !r.af.all (known (gz r)):=by
  rw[<-Ll,Ff]
  congr 1
  funext b
  rw[(U9 (gz r)).known]
 refine⟨.cd,[eS T cT r.af,.fn 161 [ph (wV (gz r))] []],.bool (r.af.any λb=> !known (wV (gz r)) b),by decide,?_,KY (Lk _) r.af (by have:=a.2.2.1;grind[Sm]) (λg _=>G9 _ g),λ_=>.bool _,?_⟩;exact .ck eu (.ck (.fn _ _ _ _ _ _ (.ck (G8 rfl) (.nil _)) (.nil _)) (.nil _));rw[f];simp only[bz,G];have j:∀d,(jm r).contains d=y (d∈jm r):=by grind
 refine dw (by grind[bK]) (λh=>?_);rw[h,c3];refine aV (λh=>dH (λi=>?_) (by simp_all)) (λh=>?_);exact c (yj _ _ (by grind[Sm])) (by simp_all);exact c (yj _ _ (by grind[Sm])) (by simp_all)
theorem Ln(b:D)(v:Z b.ak<=20)(q:∀r∈b.ak,lS r):PR C 44 [.agg (cP T F b)] (eS ab b3 (qV b)):=by
 apply Tt.pr;simp only[eE,O,e4,fh,bh,aJ,pb,e,aX,dR,e2,hG,kI];refine wP b.ak tf [] 1 2 b3 (M:=[.arr 0 2 [],.arr 0 2 []]) 0 rfl (by simp[a1]) (λd f k l j m u=>?_) (λl j=>?_);have n:=Lg (b.ak.take d) [];rw[<-m,h0,e2]at n;have p:=bn f;simp only[O,i,G,A,a,f,decide_true,oa,bz,aE f (mP _ _),nF,yd];have t:y ((Z k:Int)<20)=true:=by simp;omega
 have o:(AV.agg [g (aS T b.ak[d]) 0,g (aS T b.ak[d]) 1,g (aS T b.ak[d]) 2,g (aS T b.ak[d]) 3,g (aS T b.ak[d]) 4,g (aS T b.ak[d]) 5,g (aS T b.ak[d]) 6,g (aS T b.ak[d]) 7,g (aS T b.ak[d]) 8])=.agg (aS T b.ak[d]):=rfl;rw[o];refine a8 (aV (λ_=>c (aiY _ (q _ p)) ?_) (by grind));simp only[bI,O,uj];refine dw (λh=>?_) (λh=>?_);rw[wU,O,yv,O];refine ys (by simp) rfl (by omega) ?_;rw[aZ,O];grind[tf]
 rw[aZ,O];grind[tf];simp only[O,i,G,A,a,cn,decide_false,bz];exact bw (DR (by simp) (by simp))
end AM
namespace Law
abbrev cA:=Nat->Nat->Bool
def tj(a:cA)(d:Nat):cA:=λb c=>a b c||(a b d&&a d c)
def kN(a:cA)(b:Nat):cA:=(ay b).foldl tj a
theorem Lo(b:cA)(a:Nat):kN b (a+1)=tj (kN b a) a:=by
 simp[kN,uR]
inductive Way(d:cA)(K:Nat):Nat->Nat->Prop
 |hy (a b:Nat) (h:d a b=ad):Way d K a b
 |via (a c b:Nat) (h:Way d K a c) (hc:c<K) (t:Way d K c b):Way d K a b
variable{cZ:cA}{U N z dp:Nat}
theorem Way.mono(h:U<=N)(w:Way cZ U z dp):Way cZ N z dp:=by
 induction w with
 |hy z dp h=>exact .hy z dp h
 |via z a dp _ d _ b c=>exact .via z a dp b (by omega) c
theorem Way.succ(w:Way cZ (U+1) N z):Way cZ U N z\/(Way cZ U N U/\Way cZ U U z):=by
 induction w with
 |hy N z h=>exact .inl (.hy N z h)
 |via N a z _ k _ g i=>
  by_cases j:a=U;grind;have d:a<U:=by omega
  rcases g with b|⟨b,e⟩<;>rcases i with c|⟨c,f⟩
  exact .inl (.via N a z b d c);exact .inr ⟨.via N a U b d c,f⟩;exact .inr ⟨b,.via U a z e d c⟩;grind
theorem DX(c:cA):∀(n a b:Nat),kN c n a b=ad<->Way c n a b
 |0,a,b=>by
  constructor;exactλh=>.hy a b h;intro h;cases h with
  |hy _ _ h=>exact h
  |via _ f _ _ g _=>omega
 |n+1,a,b=>by
  rw[Lo];simp only[tj,h5,ba,DX c n];constructor;rintro(h|⟨d,e⟩);exact h.mono (AP n);exact .via a n b (d.mono (AP n)) (aaV n) (e.mono (AP n));exact Way.succ
inductive pk(d:cA):Nat->Nat->Prop
 |hy (a b:Nat) (h:d a b=ad):pk d a b
 |step (a c b:Nat) (h:d a c=ad) (t:pk d c b):pk d a b
theorem pk.trans(h:pk cZ U N)(a:pk cZ N z):pk cZ U z:=by
 induction h with
 |hy U N h=>exact .step U N z h a
 |step U b N h _ c=>exact .step U b z h (c a)
theorem aiZ(b:∀N z,cZ N z=ad->N<U/\z<U):Way cZ U N z<->pk cZ N z:=by
 constructor;intro h;induction h with
 |hy N z h=>exact .hy N z h
 |via N a z _ _ _ c d=>exact c.trans d
 intro h;induction h with
 |hy N z h=>exact .hy N z h
 |step N a z h _ e=>exact .via N a z (.hy N a h) (b N a h).2 e
theorem Hb(c:∀a b,cZ a b=ad->a<U/\b<U)(a b:Nat):kN cZ U a b=ad<->pk cZ a b:=
 (DX cZ U a b).trans (aiZ c)
end Law
namespace AM
variable{T:Bool}{U:Nat}{cj:Nat -> Bool}{N:Nat}{M:List Obj}{K:Type}{dd:Md}{a7:K -> List AV}{iD:List Obj -> Prop}
section
open Go.Law
def eW(a:Bool)(d:Nat)(b:Nat->Bool):AV:=eS a (λc=>cB (b c)) (ay d)
def BL(c:Nat)(b:cA)(a:Nat):List AV:=[eW ab c (b a)]
def eM(a:Nat)(b:cA):AV:=eS ab (BL a b) (ay a)
@[simp] theorem auE(a:Bool)(c:Nat)(b:Nat->Bool):Im (eW a c b):=nE (λ_=>acR _) a _
@[simp] theorem ai0(c:Nat)(b:cA)(a:Nat):bT (BL c b a):=by simp[BL]
@[simp] theorem auF(b:Nat)(a:cA):Im (eM b a):=nE (λ_=>ai0 _ _ _) _ _
@[simp] theorem auG(a:Bool)(c:Nat)(b:Nat->Bool):(eW a c b).pl=eW a c b:=rfl
@[simp] theorem auH(b:Nat)(a:cA):(eM b a).pl=eM b a:=rfl
@[simp] theorem BM(a:Nat)(c:cA)(b:List Obj):gu .sl (eM a c) b=aa (I a):=by simp[eM]
theorem ur(h:N<U):bP 1 (eW T U cj) (I N) M=aa (.aH T (cB (cj N)) 0):=by
 have:=aE (T:=T) (a7:=λN=>cB (cj N)) (x:=ay U) (U:=N) (M:=M) (by grind) rfl;rw[CD]at this;exact this
variable{cZ:cA}
theorem wW(h:N<U):bP 1 (eM U cZ) (I N) M=aa (.aH ab (BL U cZ N) 0):=by
 have:=aE (T:=false) (a7:=BL U cZ) (x:=ay U) (U:=N) (M:=M) (by grind) rfl;rw[CD]at this;exact this
@[simp] theorem BN(c:Nat)(b:cA)(a:Nat):(BL c b a)[0]?=aa (eW ab c (b a)):=rfl
structure j5(H:List Obj)(id gg:Nat)(hQ:Nat->Nat)(n:Nat)(m:cA):Prop where
 outer:H[id]?=aa (.arr gg 1 ((ay n).map λa=>[.q (hQ a) 0 0 n]))
 rows:∀a,a<n->H[hQ a]?=aa (.arr 0 1 ((ay n).map λb=>[.bool (m a b)]))
 ne:∀a,a<n->hQ a≠id
 inj:∀a b,a<n->b<n->hQ a=hQ b->a=b
variable{H:List Obj}{id gg n:Nat}{hQ:Nat->Nat}{m:cA}
theorem j5.ia(h:j5 H id gg hQ n m)(a:U<n):bP 1 (.q id gg 0 n) (I U) H=aa (.ptr id gg U 0):=fw h.outer a
theorem j5.ld(h:j5 H id gg hQ n m)(a:U<n):aQ 1 ab (.ptr id gg U 0) H=aa (.q (hQ U) 0 0 n):=by
 rw[c0 h.outer (bF:=[.q (hQ U) 0 0 n]) (by simp[a])]<;>rfl
theorem j5.Hc(h:j5 H id gg hQ n m)(a:U<n)(b:N<n):bP 1 (.q (hQ U) 0 0 n) (I N) H=aa (.ptr (hQ U) 0 N 0):=fw (h.rows U a) b
theorem j5.Lp(h:j5 H id gg hQ n m)(a:U<n)(b:N<n):aQ 1 ab (.ptr (hQ U) 0 N 0) H=aa (.bool (m U N)):=by
 rw[c0 (h.rows U a) (bF:=[.bool (m U N)]) (by simp[b])]<;>rfl
def bW(m:cA)(c d:Nat)(e:Bool):cA:=λa b=>if a=c/\b=d then e else m a b
theorem j5.st(h:j5 H id gg hQ n m)(b:U<n)(j:N<n)(g:Bool):∃c,du 1 (.ptr (hQ U) 0 N 0) (.bool g) H=aa c/\j5 c id gg hQ n (bW m U N g)/\(∀d,d≠hQ U->c[d]?=H[d]?):=by
 refine⟨_,BI (h.rows U b) (E:=.bool (m U N)) (by simp[j]) rfl rfl,⟨?_,?_,h.ne,h.inj⟩,?_⟩;rw[uS (h.ne U b)];exact h.outer;intro a f;by_cases e:a=U;subst e;have k:hQ a<Z H:=by
  have:=h.rows a b;exact(fH.1 this).1
 rw[I9 k]
 congr 2
 apply qs;simp;grind[bW];rw[uS (λi=>e (h.inj U a b f i).symm),h.rows a f];grind[bW];grind
theorem j5.congr(h:j5 H id gg hQ n m){c:cA}(e:∀a b,a<n->b<n->m a b=c a b):j5 H id gg hQ n c:=by
 refine⟨h.outer,λa d=>?_,h.ne,h.inj⟩;rw[h.rows a d];simp_all
theorem DY{H:List Obj}{g:K->List AV}:∀(a:List K)(_:∀x∈a,b7 H dd (a7 x) (g x)),fJ H dd (a.map a7) (a.map g)
 |[],_=>.nil _
 |x::a,h=>.ck (h x (by simp)) (DY a (by grind))
theorem j5.snap(h:j5 H id gg hQ n m):aM H .res (.q id gg 0 n) (eM n m):=by
 refine .pK id gg 0 n 1 _ _ h.outer (by simp) ?_;rw[lq,gT (by simp)];refine DY _ λa b=>.ck ?_ (.nil _);have b:a<n:=by simpa using b
 refine .pK (hQ a) 0 0 n 1 _ _ (h.rows a b) (by simp) ?_;rw[lq,gT (by simp)];exact DY _ λc _=>.ck (.bool _ _) (.nil _)
def Hd(d f:AV)(k:List Obj)(j:List Obj->Prop):Prop:=
 jB (λc h BO=>
 bd (aT .s .lss (g c 0) f) λq=>
 ez q (
 jB (λpn i p=>
 bd (aT .s .lss (g pn 0) f) λr=>
 ez r (
 jB (λb a He=>
 bd (aT .s .lss (g b 0) f) λt=>
 ez t (
 jn (λwB=>
 bd (bP 1 d (g pn 0) a) λu=>
 bd (aQ 1 ab u a) λe=>
 bd (bP 1 d (g pn 0) a) λv=>
 bd (aQ 1 ab v a) λw=>
 bd (bP 1 w (g b 0) a) λx=>
 bd (aQ 1 ab x a) λy=>
 gd y ab (
 bd (bP 1 d (g pn 0) a) λz=>
 bd (aQ 1 ab z a) λA=>
 bd (bP 1 A (g c 0) a) λB=>
 bd (aQ 1 ab B a) λC=>
 gd C ad (
 bd (bP 1 d (g c 0) a) λD=>
 bd (aQ 1 ab D a) λE=>
 bd (bP 1 E (g b 0) a) λF=>
 bd (aQ 1 ab F a) λG=>
 bd (bP 1 e (g b 0) a) λH=>
 bd (du 1 H G a) λm=>
 wB [] m) (
 bd (bP 1 e (g b 0) a) λJ=>
 bd (du 1 J ff a) λn=>
 wB [] n)) (
 bd (bP 1 e (g b 0) a) λK=>
 bd (du 1 K tt a) λo=>
 wB [] o)) λO l=>
 bd (aT .s .add (g b 0) (I 1)) λL=>
 He [L] l) (
 bd (aT .s .add (g pn 0) (I 1)) λM=>
 p [M] a)) [(I 0)] i) (
 bd (aT .s .add (g c 0) (I 1)) λN=>
 BO [N] i)) [(I 0)] h) (
 j h)) [(I 0)] k
def lC(d:cA)(f c e:Nat):cA:=λa b=>if a<c\/(a=c/\b<e)then tj d f a b else d a b
theorem Vf(b:cA)(a d e c:Nat):lC b a d e c a=b c a:=by
 grind[lC,tj]
theorem Vg(b:cA)(a d e c:Nat):lC b a d e a c=b a c:=by
 grind[lC,tj]
theorem ai1(c:cA)(d a b:Nat):bW (lC c d a b) a b (tj c d a b)=lC c d a (b+1):=by
 funext e f
 simp only[bW,lC];grind
theorem Vh(Y:n<1099511627776)(h:j5 H id gg hQ n m)(Z:∀l,j5 l id gg hQ n (kN m n)->iD l):Hd (.q id gg 0 n) (I n) H iD:=by
 unfold Hd;apply bG (K:=Nat×List Obj) (λc=>[I c.1]) (λc=>c.2) (λc=>n -c.1) (λc=>c.1<=n/\j5 c.2 id gg hQ n (kN m c.1)) (0,H) ⟨by simp,h⟩;rintro⟨e,w⟩ ⟨W,B⟩ S L;simp only[G,A,O,a];refine b (λi=>?_) (λX=>?_);have i:e<n:=by simpa using i
 refine bG (K:=Nat×List Obj) (λc=>[I c.1]) (λc=>c.2) (λc=>n -c.1) (λc=>c.1<=n/\j5 c.2 id gg hQ n (lC (kN m e) e c.1 0)) (0,w) ⟨by simp,?_⟩ ?_;refine B.congr λf g _ _=>?_;simp[lC];rintro⟨f,o⟩ ⟨U,r⟩ T M;simp only[G,A,O,a];refine b (λhalt=>?_) (λE=>?_);have halt:f<n:=by simpa using halt
 apply bG (K:=Nat×List Obj) (λc=>[I c.1]) (λc=>c.2) (λc=>n -c.1) (λc=>c.1<=n/\j5 c.2 id gg hQ n (lC (kN m e) e f c.1)) (0,o) ⟨by simp,r⟩;rintro⟨g,p⟩ ⟨V,d⟩ y N;simp only[G,A,O,a];refine b (λj=>?_) (λF=>?_);have j:g<n:=by simpa using j
 simp only[bz,d.ia halt,d.ld halt,d.Hc halt j,d.Lp halt j,d.Hc halt i,d.Lp halt i,d.ia i,d.ld i,d.Hc i j,d.Lp i j,O,Vf,Vg];have D:lC (kN m e) e f g f g=kN m e f g:=by simp[lC]
 rw[D];have go:∀k,k=tj (kN m e) e f g->bd (du 1 (.ptr (hQ f) 0 g 0) (.bool k) p) λC=>bd (aT .s .add (I g) (I 1)) λQ=>y [Q] C:=by
  intro k J;let⟨x,z,t,_⟩:=d.st halt j k;rw[z,O,aZ,O];refine N (g+1,x) ⟨j,?_⟩ (by simp;omega);rw[J,ai1]at t;exact t
 grind[dH,aV,tj];have:g=n:=by simp at F;omega
 subst this;rw[aZ,O];refine M (f+1,p) ⟨halt,d.congr λP R u K=>?_⟩ (by simp;omega);grind[lC];have:f=n:=by simp at E;omega
 subst this;rw[aZ,O];refine L (e+1,o) ⟨i,r.congr λP R u K=>?_⟩ (by simp;omega);rw[Lo];simp[lC,u];grind
end
variable{E:AV}{bF:List AV}{rB:Nat -> Bool}
section
open Go.Law
variable{H:List Obj}{id gg n:Nat}{hQ:Nat->Nat}{m:cA}
theorem Vi{len:Nat}(h:N<len):pT len U E (I N) H=dK (N*U) E H:=by
 simp[pT,h]
theorem iaaO_0{off:Nat}:pT 2 1 (.aH T bF off) (I 0) H=aa (.aH T bF (off+0)):=rfl
theorem iaaO_1{off:Nat}:pT 2 1 (.aH T bF off) (I 1) H=aa (.aH T bF (off+1)):=rfl
def lT(n:Nat)(m:cA)(c:Nat->Bool)(a:Nat):Bool:=c a&&(ay n).all λb=> !c b||m a b
def po(n:Nat)(m:cA)(b:Nat->Bool):Int:=match(ay n).find? (lT n m b)with|aa a=>a|ae=> -1
def lU(n:Nat)(m:cA)(c:Nat->Bool)(b:Nat):Bool:=(ay n).all λa=> !c a||m a b
def qW(n:Nat)(m:cA)(a:Nat->Bool):Int:=po n m (lU n m a)
theorem Hf(h:U<n)(c:lT n m cj U=ad)(b:∀a,a<U->lT n m cj a=ab):po n m cj=U:=by
 grind[ay,lT,List.find?_range_eq_some,po]
theorem Lq(b:∀a,a<n->lT n m cj a=ab):po n m cj= -1:=by
 grind[ay,lT,po]
theorem DZ(a:Nat):(ay (a+1)).all cj=((ay a).all cj&&cj a):=by
 grind
theorem ai2(v:n<1099511627776)(d:Nat->Bool):PR C 255 [eM n m,eW T n d] (I (po n m d)):=by
 refine aeD.pr ?_;simp only[BM,O];refine eB (U:=n) (c:=λc=>[I 0,I c]) (λc=>∀k,k<c->lT n m d k=ab) (by simp) rfl (λc g l p s=>?_) (λl p=>?_);simp only[i,G,A,O,a,g,decide_true,ur g,aJ,zD];refine a8 ?_;refine eB (U:=n) (c:=λe=>[.bool (d c&&(ay e).all λT=> !d T||m c T),I e]) (λ_=>True) trivial (by simp) (λe o _ q j=>?_) (λ_ q=>?_);have j:=j trivial;rw[DZ,<-aaU]at j
 generalize(d c&&(ay e).all λT=> !d T||m c T)=r at*;simp only[i,G,A,O,a,o,decide_true,ur o,wW g,aJ,zD,BN,bI];refine a8 (dA (M:=[]) (r&&(!d e||m c e)) (λw u=>?_) ?_);exact aV (λf=>ib (by grind) (by grind)) (by grind);rw[aZ,O,G];exact j;simp only[i,G,A,O,a,cn,decide_false];refine bw (b (λh=>?_) (λh=>?_));rw[Hf g h l];simp;rw[aZ,O];refine s λk t=>?_;by_cases f:k=c;subst f;exact h;grind
 simp only[i,G,A,O,a,cn,decide_false];refine bw ?_;rw[Lq l];simp
def fC(n:Nat)(a:Nat->Bool):Obj:=.arr 0 1 ((ay n).map λb=>[.bool (a b)])
theorem ai3:((ay n).map λa=>[AV.bool (cj a)]).set U [.bool T]=(ay n).map λa=>[.bool (if a=U then T else cj a)]:=by
 apply qs;simp;grind
theorem Hg(h:U<n):((ay n).map λa=>[AV.bool (cj a)])[U]?=aa [.bool (cj U)]:=by simp[h]
theorem D0{H:List Obj}{id:Nat}(h:H[id]?=aa (fC n cj))(b:U<n):du 1 (.ptr id 0 U 0) (.bool T) H=aa (H.set id (fC n λa=>if a=U then T else cj a)):=by
 rw[BI h (Hg b) rfl rfl,ai3]<;>rfl
theorem zR(h:∀a,a<n->cj a=rB a):fC n cj=fC n rB:=by
 simp_all[fC]
theorem BP(n:Nat):dh n [ff]=(ay n).map λ_=>[AV.bool ab]:=by
 apply qs<;>simp
theorem Vj{H:List Obj}{id:Nat}(h:H[id]?=aa (fC n cj)):aM H .cd (.q id 0 0 n) (eW ad n cj):=by
 refine .wc id 0 0 n 1 _ _ h (by simp) ?_;rw[lq,gT (by simp)];exact DY _ λa _=>.ck (.bool _ _) (.nil _)
theorem ai4{H:List Obj}{id:Nat}(h:H[id]?=aa (fC n cj)):aM H .res (.q id 0 0 n) (eW ab n cj):=by
 refine .pK id 0 0 n 1 _ _ h (by simp) ?_;rw[lq,gT (by simp)];exact DY _ λa _=>.ck (.bool _ _) (.nil _)
theorem Vk(c:List Int)(s:n<1099511627776)(j:Sm c)(k:∀e∈c,0<=e/\e<n):PR C 208 [I n,eS T cI c] (eW ab n λd=>y ((d:Int)∈c)):=by
 apply af3.pr;apply aY (se (by omega) (by omega));rw[BP];simp only[dR,e2,aX,O];refine bG (K:=Nat) (λb=>[I b]) (λb=>[fC n λd=>y ((d:Int)∈c.take b)]) (λb=>Z c -b) (λb=>b<=Z c) 0 (by simp) ?_ rfl (by simp[fC]);intro b r m l;simp only[G,A,O,a];by_cases h:b<Z c;let⟨p,q⟩:=k _ (bn h);let⟨e,f⟩:∃e:Nat,c[b]=e:=⟨c[b].toNat,by omega⟩;have g:e<n:=by omega
 have t:=l (b+1) h (by omega);simp only[h,decide_true,aE h (jh _),O,aJ,lN];rw[f];refine a8 (aI (fw (b1:=(ay n).map λd:Nat=>[AV.bool (y ((d:Int)∈c.take b))]) (U:=0) rfl g) ?_);apply aI (D0 rfl g);rw[aZ (j.lt h),O];have:fC n (λd=>if d=e then ad else y ((d:Int)∈c.take b))=fC n (λd=>y ((d:Int)∈c.take (b+1))):=by
  refine zR λd _=>?_;rw[iy h,f];by_cases i:d=e;grind;simp[i];omega
 grind;have:b=Z c:=by omega
 subst this;simp only[cn,decide_false,dY];exact bw (ai4 rfl)
theorem Lr(t:n<1099511627776)(d:Nat->Bool):PR C 206 [eM n m,eW T n d] (I (qW n m d)):=by
 refine afz.pr ?_;simp only[BM,O];refine aY (se (by omega) (by omega)) ?_;rw[BP];simp only[dR,e2];refine bG (K:=Nat) (λf=>[I f]) (λf=>[fC n λb=>y (b<f)&&lU n m d b]) (λf=>n -f) (λf=>f<=n) 0 (by simp) ?_ rfl (by simp[fC]);intro b H D u;simp only[G,A,O,a];by_cases h:b<n;have K:=u (b+1) h (by omega);simp only[h,decide_true]
 refine a8 (aI (fw (U:=0) (b1:=(ay n).map λc=>[AV.bool (y (c<b)&&lU n m d c)]) rfl h) (aI (D0 rfl h) ?_));refine bG (K:=Nat) (λe=>[I e]) (λe=>[fC n λc=>if c=b then(ay e).all λT=> !d T||m T b else(y (c<b)&&lU n m d c)]) (λe=>n -e) (λe=>e<=n) 0 (by simp) ?_ rfl (by simp);intro e J o v;simp only[G,A,O,a];by_cases i:e<n;have w:=v (e+1) i (by omega);simp only[i,decide_true,bz]
 have k:[fC n λc=>if c=b then(ay e).all λT=> !d T||m T b else(y (c<b)&&lU n m d c)][0]?=aa (fC n λc=>if c=b then(ay e).all λT=> !d T||m T b else(y (c<b)&&lU n m d c)):=rfl
 have go:∀j,j=((ay (e+1)).all λT=> !d T||m T b)->bd (bP 1 (.q 0 0 0 n) (I b) [fC n λc=>if c=b then(ay e).all λT=> !d T||m T b else(y (c<b)&&lU n m d c)]) λx=>bd (du 1 x (.bool j) [fC n λc=>if c=b then(ay e).all λT=> !d T||m T b else(y (c<b)&&lU n m d c)]) λr=>bd (aT .s .add (I e) (I 1)) λz=>o [z] r:=by
  intro j l;refine aI (fw k h) (aI (D0 rfl h) ?_);rw[aZ,O];have:(λf=>if f=b then j else if f=b then(ay e).all λT=> !d T||m T b else(y (f<b)&&lU n m d f))=(λc=>if c=b then(ay (e+1)).all λT=> !d T||m T b else(y (c<b)&&lU n m d c)):=by
   funext f
   by_cases g:f=b;rw[if_pos g,if_pos g,l];rw[if_neg g,if_neg g,if_neg g]
  show o _ [fC n _];rw[this];exact w
 refine a8 (aI (fw k h) (aI (c0 k (Hg h)) ?_));simp only[if_true,O,ur i,aJ,zD,bI,wW i,BN,ur h];rw[DZ]at go;generalize((ay e).all λT=> !d T||m T b)=E at*;exact aV (λg=>ib (λp=>go _ (by grind)) (λp=>go _ (by grind))) (λg=>go _ (by rw[g]<;>rfl));have:e=n:=by omega
 subst this;simp only[cn,decide_false];refine bw ?_;rw[aZ,O];have:fC e (λc=>if c=b then(ay e).all λT=> !d T||m T b else(y (c<b)&&lU e m d c))=fC e (λc=>y (c<b+1)&&lU e m d c):=by
  refine zR λc _=>?_;by_cases g:c=b;subst g;simp[lU];rw[if_neg g]
  congr 1
  simp;omega
 grind;have:b=n:=by omega
 subst this;simp only[cn,decide_false];refine bw ?_;have l:fC b (λc=>y (c<b)&&lU b m d c)=fC b (lU b m d):=by grind[zR]
 rw[l];refine eV _ (ai2 t (lU b m d)) (.ck eu (.ck (Vj rfl) (.nil _))) (.int _ _) ?_;simp[qW]
end
variable{f ca:Int}{ee:K -> Bool}{x:List K}{ey:List (Int × Int)}{z:Nat}
section
open Go.Law
variable{H:List Obj}{id gg n:Nat}{hQ:Nat->Nat}{m:cA}
def eC(b:bQ)(a:Int):Bool:=y (0<=a)&&y (a<Z b.az)
def p5(b:bQ)(a:Int×Int):Bool:=eC b a.1&&eC b a.2
def wX(b:List d)(a:Nat):Bool:=match b[a]? with|aa c=>(b.take a).contains c|ae=>ab
def p6(a:bQ):Int:=
 if(bY a.au&& !y ((Z a.az:Int)<1)&& !y (8<(Z a.az:Int))&& !y (64<(Z a.eK:Int)))=ab then 1 else
 if a.az.all bY=ab then 1 else if a.eK.all (p5 a)=ab then 1 else
 if((ay (Z a.az)).any (wX a.az))=ad then 5 else 0
theorem jS(h:ca=f):aM M .res (AV.pl (I f)) (I ca):=by simp[h]
theorem ai5(h:∀a∈x,ee a=ab):x.any ee=false:=by
 grind
theorem ai6(d:bQ)(t:lP d):PR C 251 [.agg (bp T d)] (I (p6 d)):=by
 refine aec.pr ?_;simp only[mQ,O,bh,aJ,jj,QK,pa,Gd,e,aX,A,eU];refine dA (M:=[]) (!(bY d.au&& !y ((Z d.az:Int)<1)&& !y (8<(Z d.az:Int))&& !y (64<(Z d.eK:Int)))) (λm o=>?_) ?_;refine c (s9 _) ?_;simp only[bI,O];exact ib (λv=>ea (by grind) (λw=>ea (by grind) (λx=>by simp_all))) (by grind);simp only[G];refine dw (by simp_all[p6]) (λh=>?_);rw[p6,if_neg (by grind)];have E:Z d.az<=8:=by
  simp only[ba,hv,decide_eq_false_iff_not]at h;omega
 refine eB (U:=Z d.az) (c:=λf=>[I 0,I f]) (λf=>(d.az.take f).all bY=ad) (by simp) rfl (λf g k n o=>?_) (λk n=>?_);simp only[O,i,G,A,a,g,decide_true,aE g (iS _),aJ,lO];refine a8 (c (s9 _) ?_);simp only[bI,O];refine dw (by grind[jS]) (λj=>?_);rw[aZ,O];grind[oi];rw[dY]at k;simp only[O,i,G,A,a,cn,decide_false];refine bw ?_;rw[if_neg (by grind)]
 refine eB (U:=Z d.eK) (c:=λf=>[I 0,I f]) (λf=>(d.eK.take f).all (p5 d)=ad) (by simp) rfl (λf g k n o=>?_) (λk n=>?_);simp only[O,i,G,A,a,g,decide_true,aE g (ub _),iaaO_0,iaaO_1,aJ,F9,Ga,fY,e,bz];refine a8 (c (G1 _ _) ?_);simp only[bI,O];have bad:p5 d d.eK[f]=ab->aM [] .res (AV.pl (I 1)) (I (if d.eK.all (p5 d)=ab then 1 else if((ay (Z d.az)).any (wX d.az))=ad then 5 else 0)):=by grind[jS]
 refine ib (λu=>c (G1 _ _) ?_) (λj=>a8 (bad (by rw[p5,eC,j]<;>rfl)));simp only[bI,O];refine dw (by grind[p5,eC]) (λj=>?_);rw[t.2.inc g,O];grind[oi,p5,eC];rw[dY]at k;simp only[O,i,G,A,a,cn,decide_false];refine bw ?_;rw[if_neg (by grind)];refine eB (U:=Z d.az) (c:=λf=>[I 0,I f]) (λf=>∀l,l<f->wX d.az l=ab) (by simp) rfl (λf g k n o=>?_) (λk n=>?_);simp only[O,i,G,A,a,g,decide_true];refine a8 ?_
 have z:wX d.az f=(d.az.take f).contains d.az[f]:=by rw[wX,bq g]
 refine eB (U:=f) (c:=λm=>[I 0,I m]) (λm=>∀l(B:l<Z d.az),l<m->(d.az[f]==d.az[l])=ab) (by simp) rfl (λm q s p D=>?_) (λs p=>?_);have r:m<Z d.az:=by omega
 simp only[O,i,G,A,a,q,decide_true,aE g (iS _),aE r (iS _),aJ,lO,gW];refine a8 (b (λj=>jS ?_) (λj=>?_));grind[List.mem_take_iff_getElem];rw[aZ,O];grind;simp only[O,i,G,A,a,cn,decide_false];refine bw ?_;rw[aZ,O];grind[List.mem_take_iff_getElem];simp only[O,i,G,A,a,cn,decide_false];refine bw (jS ?_);grind
def qX(d:cA)(e:List (Int×Int)):cA:=λa b=>d a b||e.any λc=>c.1==(a:Int)&&c.2==(b:Int)
theorem Ls(a:cA)(b:U<Z ey)(c:ey[U].1=N)(d:ey[U].2=z):bW (qX a (ey.take U)) N z ad=qX a (ey.take (U+1)):=by
 funext e f
 simp only[bW,qX,iy b,List.any_append,aaW,aaX,OT,c,d];grind
theorem Vl(h:j5 H id gg hQ n m)(p:0<=f/\f<n)(r:0<=ca/\ca<n)(s:∀c,j5 c id gg hQ n (bW m f.toNat ca.toNat ad)->iD c):
 bd (bP 1 (.q id gg 0 n) (I f) H) λi=>bd (aQ 1 ab i H) λj=>bd (bP 1 j (I ca) H) λk=>bd (du 1 k tt H) iD:=by
 obtain⟨a,rfl⟩:∃a:Nat,f=a:=⟨f.toNat,by omega⟩;obtain⟨e,rfl⟩:∃a:Nat,ca=a:=⟨ca.toNat,by omega⟩;have b:a<n:=by omega
 have d:e<n:=by omega
 let⟨l,g,o,_⟩:=h.st b d ad;rw[h.ia b,O,h.ld b,O,h.Hc b d,O,g,O];grind
def mm(a:Nat):Nat:=if a=0 then 1 else a+2
def uu(a:Nat):AV:=if a=0 then .dL else .q 2 (a -1) 0 a
structure zS(n:Nat)(d:cA)(i:Nat)(H:List Obj):Prop where
 len:Z H=if i=0 then 1 else i+2
 outer:0<i->H[2]?=aa (.arr (i -1) 1 ((ay i).map λa=>[.q (mm a) 0 0 n]))
 rows:∀a,a<i->H[mm a]?=aa (.arr 0 1 ((ay n).map λb=>[.bool (d a b)]))
theorem zS.grow{c:cA}(h:zS n c U H)(p:U<1099511627776):∃g,cJ 1 24 (uu U) (.sl ab [[.q (Z H) 0 0 n]]) (H++[.arr 0 1 ((ay n).map λb=>[.bool (c U b)])])=aa (uu (U+1),g)/\zS n c (U+1) g:=by
 by_cases f:U=0;subst f;have d:=h.len;rw[if_pos rfl]at d;obtain⟨e,rfl⟩:∃e,H=[e]:=by
  match H,d with
  |[e],_=>grind
 refine⟨[e,.arr 0 1 ((ay n).map λb=>[.bool (c 0 b)]),.arr 0 1 [[.q 1 0 0 n]]],?_,⟨by simp,λ_=>by simp[mm],λa i=>?_⟩⟩;simp[cJ,h6,uu,AV.isNil];grind[mm];have d:=h.len;rw[if_neg f]at d;have l:=h.outer (by omega);have r:(H++[Obj.arr 0 1 ((ay n).map λb=>[.bool (c U b)])])[2]?=aa (.arr (U -1) 1 ((ay U).map λa=>[.q (mm a) 0 0 n])):=by
  rw[oG (by omega)];exact l
 refine⟨(H++[Obj.arr 0 1 ((ay n).map λb=>[AV.bool (c U b)])]).set 2 (.arr U 1 ((ay (U+1)).map λa=>[.q (mm a) 0 0 n])),?_,⟨?_,λ_=>?_,λa i=>?_⟩⟩;have m:mm U=Z H:=by rw[mm,if_neg f,d]
 have s:(ay (U+1)).map (λa=>[AV.q (mm a) 0 0 n])=((ay U).map λa=>[AV.q (mm a) 0 0 n])++[[.q (Z H) 0 0 n]]:=by
  rw[uR,hJ,<-m]<;>rfl
 grind[uu,cJ,h6,AV.isNil];simp[d];grind;have k:2≠mm a:=by unfold mm;split<;>omega
 rw[uS k];by_cases o:a=U;grind[mm];have j:mm a<Z H:=by unfold mm;split<;>omega
 rw[oG j];exact h.rows a (by omega)
theorem zS.Vm{a:cA}(h:zS n a n H)(b:0<n):j5 H 2 (n -1) mm n a:=
 ⟨h.outer b,h.rows,by grind[mm],by grind[mm]⟩
def vq:cA:=λa b=>y (a=b)
def dB(a:bQ):cA:=kN (qX vq a.eK) (Z a.az)
theorem Lt(d:bQ)(F:0<Z d.az/\Z d.az<=8)(z:d.eK.all (p5 d)=ad)(K:lP d):PR C 207 [.agg (bp T d)] (eM (Z d.az) (dB d)):=by
 apply aez.pr;simp only[mQ,O,e4,fh,bh,aJ,pa,Gd,e,aX,dR];generalize x:Z d.az=n at*;apply bG (K:=Nat×List Obj) (λc=>[uu c.1,I c.1]) (λc=>c.2) (λc=>n -c.1) (λc=>c.1<=n/\zS n vq c.1 c.2) (0,[.arr 0 1 []]) ⟨by simp,⟨by simp,λh=>absurd h (by simp),λp y=>absurd y (by simp)⟩⟩;rintro⟨f,H⟩ ⟨B,m⟩ P o;simp only at B m o⊢;simp only[O,i,G,A,a];refine b (λh=>?_) (λh=>?_);have h:f<n:=by simpa using h
 apply aY (se (by omega) (by omega));rw[BP];have t:(H++[Obj.arr 0 1 ((ay n).map λ_=>[AV.bool ab])])[Z H]?=aa (fC n λ_=>ab):=by simp[fC]
 refine aI (fw (b1:=(ay n).map λ_=>[AV.bool ab]) t h) (aI (D0 t h) ?_);have L:(H++[Obj.arr 0 1 ((ay n).map λ_=>[AV.bool ab])]).set (Z H) (fC n λg=>if g=f then ad else ab)=H++[.arr 0 1 ((ay n).map λT=>[.bool (vq f T)])]:=by
  rw[OI _ _ (c7 _)];simp only[OK,y9,fC]
  congr 4
  funext g
  simp only[vq];by_cases r:g=f;subst r;simp;rw[if_neg r];simp;omega
 rw[L];let⟨j,v,w⟩:=m.grow (by omega);refine aI (dW:=.sl ab [[.q (Z H) 0 0 n]]) rfl (aY v ?_);rw[aZ,O];exact o (f+1,j) ⟨h,w⟩ (by simp;omega);have:f=n:=by simp at h;omega
 subst this;have E:=m.Vm F.1;have J:uu f=.q 2 (f -1) 0 f:=by rw[uu,if_neg (by omega)]
 rw[J];clear o;apply bG (K:=Nat×List Obj) (λc=>[I c.1]) (λc=>c.2) (λc=>Z d.eK -c.1) (λc=>c.1<=Z d.eK/\j5 c.2 2 (f -1) mm f (qX vq (d.eK.take c.1))) (0,H) ⟨by simp,E.congr λp T _ _=>by simp[qX]⟩;rintro⟨g,N⟩ ⟨D,k⟩ Q u;simp only at D k u⊢;simp only[O,G,A,a];refine b (λh=>?_) (λh=>?_);have h:g<Z d.eK:=by simpa using h
 have l:=eQ.1 z _ (bn h);simp only[p5,eC,ba,decide_eq_true_eq,x]at l;simp only[aE h (ub _),O,iaaO_0,iaaO_1,aJ,F9,Ga,fY,e];refine Vl k l.1 l.2 λj s=>?_;rw[K.2.inc h,O];refine u (g+1,j) ⟨h,?_⟩ (by simp;omega);grind[Ls,vq];have:g=Z d.eK:=by simp at h;omega
 subst this;rw[dY]at k;refine Vh (by omega) k λj s=>?_;have:=s.snap;simp_all[dB]
end
end AM
end Go
