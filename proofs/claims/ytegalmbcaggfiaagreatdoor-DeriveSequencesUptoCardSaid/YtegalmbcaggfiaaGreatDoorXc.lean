/- The law DeriveSequencesUptoCardSaid: part 3 of 14 of the proof. No condition. -/
import Derived.Test.YtegalmbcaggfiaaGreatDoorXb
set_option maxRecDepth 100000
open List renaming length->Z,range->ay,replicate->db
open Option renaming some->aa,none->ae
open Bool renaming true->ad,false->ab
open Decidable renaming decide->y
open Int renaming cast_ofNat_Int->arD
namespace Go
namespace AM
variable{T:Bool}{fo ix:Prop}
theorem Bq(a:T=ab->fo)(b:T=ad->ix):gd (.bool (!T)) ad fo ix:=by
 cases T<;>simp_all[jC]
theorem h7(a:T=ad->fo)(b:T=ab->ix):gd (.bool (!T)) ab fo ix:=by
 cases T<;>simp_all[jC]
theorem dw(a:T=ab->fo)(b:T=ad->ix):ez (.bool (!T)) fo ix:=by
 cases T<;>simp_all
theorem lP(a b:Int):y (a<=b)= !y (b<a):=by grind
theorem ahS(a:aJ):PR C 293 [.agg (cT a)] (.bool (iJ a)):=by
 apply aex.pr;have d:ma [I 0,I 0,.str []] []=aa (cV ⟨0,0,[]⟩):=rfl;simp only[bw,zp,O,bj,aK,rO,jD,e,J8,d,iJ,G];refine b (λh=>?_) (λh=>?_);have:¬a.aE=[]:=by simpa using h
 rw[if_neg this];exact c (Gy _) (aW (λh=>by simp[h]) (λh=>by simp[h]));have:a.aE=[]:=by simpa using h
 rw[if_pos this];exact c (wo _) (by simp)
variable{K:Type}{x:List K}{ea:K -> Bool}{kk:List AV -> List Obj -> (List AV -> List Obj -> Prop) -> Prop}{M:List Obj}
theorem Br{Q:AV->List Obj->Prop}(j:Sm x)
 (step:∀(a:Nat)(b:List AV->List Obj->Prop),(∀h:a<Z x,(ea x[a]=ad->b [ff,I ((a+1:Nat):Int)] M)->(ea x[a]=ab->Q (AV.pl ff) M)->kk [ff,I a] M b)/\(Z x<=a->Q (AV.pl tt) M->kk [ff,I a] M b))
 (f:x.all ea=ad->Q (AV.pl tt) M)(g:x.all ea=ab->Q (AV.pl ff) M):jA kk [ff,I 0] M:=by
 apply bG (λa:Nat=>[ff,I a]) (λ_=>M) (λa=>Z x -a) (λa=>a<=Z x/\x.all ea=(x.drop a).all ea) 0 (by simp);rintro a ⟨i,d⟩ b e;by_cases h:a<Z x;refine(step a b).1 h (λc=>?_) (λc=>?_);exact e (a+1) ⟨h,by rw[d,Dw h,c,cZ]⟩ (by omega);grind;grind
variable{U:Nat}
theorem Sm.inc(a:Sm x)(h:U<Z x)(bk:BK):aT bk .add (I (U:Int)) (I 1)=aa (I ((U+1:Nat):Int)):=by grind[a6,Sm]
theorem Ud(d:List aJ)(e:Sm d):PR C 248 [eS T cT d] (.bool (eQ 4 iJ d)):=by
 apply afV.pr;simp only[a1,O,eX];have g:eQ 4 iJ d=(!y ((4:Int)<Z d)&&d.all iJ):=by
  unfold eQ;rw[<-decide_not];congr 2;simp
 rw[g];refine b (by simp_all) (λh=>?_);rw[h];refine Br (ea:=iJ) (Q:=λk f=>aM f .res k (.bool (!ab&&d.all iJ))) e (λp l=>⟨λh o n=>?_,λh j=>?_⟩) (by simp) (by simp);simp only[O,i,G,A,c3,decide_eq_true_eq,a,h,if_true,aF h (kq _),lL];apply c (ahS _);simp only[bK,O];refine b (by grind) (λm=>?_);rw[e.inc h,O];grind;simp only[O,i,G,A,c3,decide_eq_true_eq,a,if_neg (Nat.not_lt.2 h)];exact j
theorem Ue(a:d)(b:Bool):PR C 247 [.str a,.bool b] (.bool (b&&a==[]||bY a)):=by
 apply agm.pr;simp only[bw,gT,O,G];refine aW (λh=>?_) (λh=>?_);refine ei (λe=>?_) (by simp_all);exact c (s5 _) (iT (by rw[h,e]<;>rfl));exact c (s5 _) (iT (by rw[h]<;>rfl))
theorem ahT(a:Lit)(d:u5 a):PR C 250 [.agg (bg T a)] (.bool (n4 a)):=by
 apply ad1.pr;have g:n4 a=(!y (a.ba<0)&& !y (a.ax<1)&& !y (5<a.ax)&&eQ 4 iJ a.af&&
  (if(a.ax==5)=ad then a.au==[]else bY a.au)&&(if(a.ax==3||a.ax==4)=ad then bY a.aj else a.aj==[])&&(a.bind==[]||a.ax==1&&isVar a.bind)&&
  (if(a.ax==5)=ad then((Z a.af:Int)==2)&&y (1<=a.op)&&y (a.op<=4)else a.op==0)):=by
  rw[<-lP,<-lP,<-lP]<;>rfl
 generalize n4 a=f at*;simp only[bw,rN,O,bj,aK,tW,J9,s4,F5,Ka,Di,F6,a1,A,eX,h0,la,di,cx,gT,jD,e,G,bK]
 repeat' first
  |refine Bq (λ_=>?_) (λ_=>?_)
  |refine aW (λ_=>?_) (λ_=>?_)
  |refine h7 (λ_=>?_) (λ_=>?_)
  |refine ei (λ_=>?_) (λ_=>?_)
  |refine a8 ?_
  |refine bz ?_
  |refine dw (λ_=>?_) (λ_=>?_)
  |refine b (λ_=>?_) (λ_=>?_)
  |(refine c (Ud _ d) ?_;simp only[bK,O])
  |(refine c (s5 _) ?_;try simp only[bK,O])
  |(refine c (Gy _) ?_;try simp only[bK,O])
 all_goals(first|refine bJ ?_|refine jj ?_|refine iT ?_)
 all_goals grind
variable{bE:List AV}
theorem eC{c:Nat->List AV}(b:Nat->Prop)(e:b 0)(f:c 0=bE)
 (step:∀a,a<U->b a->∀d:List AV->List Obj->Prop,(b (a+1)->d (c (a+1)) M)->kk (c a) M d)
 (last:b U->∀d:List AV->List Obj->Prop,kk (c U) M d):jA kk bE M:=by
 refine bG c (λ_=>M) (λa=>U -a) (λa=>a<=U/\b a) 0 ⟨by omega,e⟩ ?_ f rfl;grind
variable{lu:List K}
theorem Uf(h:U<Z x)(a:U<Z lu)(c:x.take U=lu.take U)(b:x[U]=lu[U]):x.take (U+1)=lu.take (U+1):=by
 grind[List.take_succ_eq_append_getElem]
theorem uc(g:Z x=Z lu){c:Nat->List AV}(e:c 0=bE)
 (step:∀a(h:a<Z x)(j:a<Z lu),∀b:List AV->List Obj->Prop,(x[a]=lu[a]->b (c (a+1)) M)->(x[a]≠lu[a]->x≠lu)->kk (c a) M b)
 (last:x=lu->∀b:List AV->List Obj->Prop,kk (c (Z x)) M b):jA kk bE M:=by
 refine eC (U:=Z x) (c:=c) (λa=>x.take a=lu.take a) (by simp) e (λa d i b k=>?_) (λi b=>?_);refine step a d (g▸d) b (by grind[Uf]) (λf l=>f ?_);grind;grind
theorem Sm.lt(a:Sm x)(h:U<Z x):U<4611686018427387904:=by grind[Sm]
theorem s8(h:((Z x:Int) !=Z lu)=ab):Z x=Z lu:=by
 grind
theorem ahU(a w:Int×Int):fZ [0,0] (b2 a) (b2 w)=aa (y (a=w)):=by
 let⟨b,c⟩:=a;let⟨d,e⟩:=w;have:y (((b,c):Int×Int)=(d,e))=((b==d)&&((c==e)&&ad)):=by
  rw[iQ];simp
 rw[this];rfl
theorem ahV(a w:aJ):fZ [1,0,0,1] (cT a) (cT w)=aa (y (a=w)):=by
 let⟨h,b,c,d⟩:=a;let⟨i,e,f,g⟩:=w;have:y ((⟨h,b,c,d⟩:aJ)=⟨i,e,f,g⟩)=((h==i)&&((b==e)&&((c==f)&&((d==g)&&ad)))):=by
  rw[iQ];simp
 rw[this];rfl
theorem Ug(a w:pP):fZ [0,1,1,0] (nX a) (nX w)=aa (y (a=w)):=by
 let⟨h,b,c,d⟩:=a;let⟨i,e,f,g⟩:=w;have:y ((⟨h,b,c,d⟩:pP)=⟨i,e,f,g⟩)=((h==i)&&((b==e)&&((c==f)&&((d==g)&&ad)))):=by
  rw[iQ];simp
 rw[this];rfl
@[simp] theorem ahW(b w:Int×Int):aT (.a 2 [0,0]) .neq (.agg (b2 b)) (.agg (b2 w))=aa (.bool (!y (b=w))):=by
 simp[aT,ahU]
@[simp] theorem ahX(b w:aJ):aT (.a 4 [1,0,0,1]) .neq (.agg (cT b)) (.agg (cT w))=aa (.bool (!y (b=w))):=by
 simp[aT,ahV]
@[simp] theorem ahY(b w:pP):aT (.a 4 [0,1,1,0]) .neq (.agg (nX b)) (.agg (nX w))=aa (.bool (!y (b=w))):=by
 simp[aT,Ug]
@[simp] theorem at0(b w:pP):aT (.a 4 [0,1,1,0]) .eql (.agg (nX b)) (.agg (nX w))=aa (.bool (y (b=w))):=by
 simp[aT,Ug]
variable{dR oG:K}
theorem GB[DecidableEq K](h:dR≠oG):y (dR=oG)=false:=by simp[h]
variable{F:Bool}
theorem KT(e g:List d)(l:Sm e):PR C 145 [eS T cS e,eS F cS g] (.bool (y (e=g))):=by
 apply afH.pr;simp only[a1,O,cx];refine b (by grind[bJ]) (λh=>?_);refine uc (s8 h) (c:=λf=>[ff,I f]) rfl (λf c k j o m=>?_) (λh j=>?_);simp only[O,i,G,A,a,c,decide_true,aF c (iR _),aF k (iR _),aK,lN,jD];refine a8 (b (λh=>bJ (GB (m (by simpa using h)))) (λh=>?_));rw[l.inc c,O];grind;simp only[O,i,G,A,a,cn,decide_false];exact bz (jj (by simp[h]))
theorem u3(d f:List Int)(k:Sm d):PR C 21 [eS T cI d,eS F cI f] (.bool (y (d=f))):=by
 apply S7.pr;simp only[a1,O,cx];refine b (by grind[bJ]) (λh=>?_);refine uc (s8 h) (c:=λe=>[ff,I e]) rfl (λe c j g n l=>?_) (λh g=>?_);simp only[O,i,G,A,a,c,decide_true,aF c (jf _),aF j (jf _),aK,lM,cx];refine a8 (b (λh=>bJ (GB (l (by simpa using h)))) (λh=>?_));rw[k.inc c,O];grind;simp only[O,i,G,A,a,cn,decide_false];exact bz (jj (by simp[h]))
theorem Uh(d f:List aJ)(k:Sm d):PR C 202 [eS T cT d,eS F cT f] (.bool (y (d=f))):=by
 apply agf.pr;simp only[a1,O,cx];refine b (by grind[bJ]) (λh=>?_);refine uc (s8 h) (c:=λe=>[ff,I e]) rfl (λe c j g n l=>?_) (λh g=>?_);simp only[O,i,G,A,a,c,decide_true,aF c (kq _),aF j (kq _),lL,ahX];refine a8 (b (λh=>bJ (GB (l (by simpa using h)))) (λh=>?_));rw[k.inc c,O];grind;simp only[O,i,G,A,a,cn,decide_false];exact bz (jj (by simp[h]))
theorem ah0(b d:Lit)(i:Sm b.af):PR C 203 [.agg (bg T b),.agg (bg F d)] (.bool (y (b=d))):=by
 apply adY.pr;have f:y (b=d)=((b.ax==d.ax)&&((b.au==d.au)&&((b.ai==d.ai)&&(y (b.af=d.af)&&((b.bind==d.bind)&&((b.aj==d.aj)&&((b.iC==d.iC)&&((b.op==d.op)&&(b.ba==d.ba))))))))):=by
  let⟨j,T,l,n,p,r,g,h,v⟩:=b;let⟨k,F,m,o,q,s,t,u,w⟩:=d;rw[iQ];simp
 rw[f];clear f;simp only[rN,O,bw,bj,aK,tW,J9,zr,s4,F5,Ka,QD,Di,F6,e,di,gT,G];refine aW (λa=>?_) (by simp_all);rw[a,cZ];refine aW (λa=>?_) (by simp_all);rw[a,cZ];refine aW (λa=>?_) (by simp_all);rw[a,cZ];apply c (Uh _ _ i);refine aW (λa=>?_) (by simp_all);rw[a,cZ];refine aW (λa=>?_) (by simp_all);rw[a,cZ];refine aW (λa=>?_) (by simp_all);rw[a,cZ];refine aW (λa=>?_) (by simp_all);rw[a,cZ]
 refine aW (λa=>?_) (by simp_all);simp_all
variable{f b9:Int}
theorem Bs(h:(f !=b9)=ab):f=b9:=by grind
variable{bL mD:d}
theorem Dz(h:(!(bL==mD))=ab):bL=mD:=by grind
theorem DA[DecidableEq K](h:(!y (dR=oG))=ab):dR=oG:=by grind
theorem ah1(h:(!(T==F))=ab):T=F:=by grind
theorem dV(b:T=ad->ix)(a:T=ab->fo):gd (.bool T) ab fo ix:=ei a b
theorem ah2(f k:aD)(g:pT f):PR C 146 [.agg (aS T f),.agg (aS F k)] (.bool (y (f=k))):=by
 apply afI.pr;simp only[o2,O,bw,bj,aK,Kb,Bc,wj,qH,Bd,e,Qs,a1,cx,jD,ahY,G];refine dV (by grind[a8,bJ]) (λv=>?_);refine dV (by grind[a8,bJ]) (λw=>?_);apply c (Uh _ _ g.1);simp only[bK,O];refine dV (by grind[a8,bJ]) (λx=>?_);refine dV (by grind[a8,bJ]) (λz=>?_);refine dV (by grind[a8,bJ]) (λB=>?_);refine b (by grind[bJ]) (λm=>?_);refine uc (s8 m) (c:=λj=>[ff,I j]) rfl (λj d n l D E=>?_) (λh l=>?_)
 simp only[O,i,G,A,a,d,decide_true,aF d (jB _ _),aF n (jB _ _),o1];refine a8 (c (ah0 _ _ (g.2.2 _ (bp d))) ?_);simp only[bK,O];refine b (by grind[bJ]) (λh=>?_);rw[g.2.1.inc d,O];grind;simp only[O,i,G,A,a,cn,decide_false];refine bz (jj ?_);let⟨o,t,p,q,r,s⟩:=f;simp_all
@[simp] theorem DB(b:Bool)(a:bP):g (bo b a) 0=.str a.au:=rfl
@[simp] theorem DC(a:Bool)(b:bP):g (bo a b) 1=eS a cS b.az:=rfl
@[simp] theorem DD(a:Bool)(b:bP):g (bo a b) 2=eS a b2 b.eH:=rfl
@[simp] theorem DE(b:Bool)(a:bP):g (bo b a) 3=I a.ba:=rfl
@[simp] theorem GC(b:Bool)(a:Fn):g (cg b a) 0=.str a.au:=rfl
@[simp] theorem GD(b:Bool)(a:Fn):g (cg b a) 1=.str a.aN:=rfl
@[simp] theorem Uj(b:Bool)(a:Fn):g (cg b a) 2=I a.of:=rfl
@[simp] theorem GF(a:Bool)(b:Fn):g (cg a b) 3=eS a cS b.src:=rfl
@[simp] theorem GG(a:Bool)(b:Fn):g (cg a b) 4=eS a cS b.dst:=rfl
@[simp] theorem Uk(a:Bool)(b:Fn):g (cg a b) 5=eS a cI b.gQ:=rfl
@[simp] theorem GH(b:Bool)(a:Fn):g (cg b a) 6=I a.ba:=rfl
@[simp] theorem rS(b:Bool)(a:cO):g (bO b a) 0=.str a.au:=rfl
@[simp] theorem rT(a:Bool)(b:cO):g (bO a b) 1=eS a cI b.aZ:=rfl
@[simp] theorem rU(b:Bool)(a:cO):g (bO b a) 2=.str a.aN:=rfl
@[simp] theorem s9(b:Bool)(a:cO):g (bO b a) 3=I a.of:=rfl
@[simp] theorem rV(b:Bool)(a:cO):g (bO b a) 4=.bool a.eo:=rfl
@[simp] theorem rW(b:Bool)(a:cO):g (bO b a) 5=I a.fx:=rfl
@[simp] theorem rX(b:Bool)(a:cO):g (bO b a) 6=I a.ba:=rfl
@[simp] theorem wz(b:Bool)(a:Lit):g (bg b a) 0=I a.ax:=rfl
@[simp] theorem wA(b:Bool)(a:Lit):g (bg b a) 1=.str a.au:=rfl
@[simp] theorem yd(b:Bool)(a:Lit):g (bg b a) 2=I a.ai:=rfl
@[simp] theorem wB(a:Bool)(b:Lit):g (bg a b) 3=eS a cT b.af:=rfl
@[simp] theorem wC(b:Bool)(a:Lit):g (bg b a) 4=.str a.bind:=rfl
@[simp] theorem wD(b:Bool)(a:Lit):g (bg b a) 5=.str a.aj:=rfl
@[simp] theorem ye(b:Bool)(a:Lit):g (bg b a) 6=I a.iC:=rfl
@[simp] theorem wE(b:Bool)(a:Lit):g (bg b a) 7=I a.op:=rfl
@[simp] theorem wF(b:Bool)(a:Lit):g (bg b a) 8=I a.ba:=rfl
@[simp] theorem vb(b:Bool)(a:aD):g (aS b a) 0=.str a.au:=rfl
@[simp] theorem wG(b:Bool)(a:aD):g (aS b a) 1=I a.ai:=rfl
@[simp] theorem vc(a:Bool)(b:aD):g (aS a b) 2=eS a cT b.af:=rfl
@[simp] theorem vd(b:Bool)(a:aD):g (aS b a) 3=I a.aj.ax:=rfl
@[simp] theorem ve(b:Bool)(a:aD):g (aS b a) 4=.str a.aj.au:=rfl
@[simp] theorem vf(b:Bool)(a:aD):g (aS b a) 5=.str a.aj.aE:=rfl
@[simp] theorem wH(b:Bool)(a:aD):g (aS b a) 6=I a.aj.aR:=rfl
@[simp] theorem vg(a:Bool)(b:aD):g (aS a b) 7=eS a (bg a) b.ah:=rfl
@[simp] theorem ud(b:Bool)(a:aD):g (aS b a) 8=I a.ba:=rfl
@[simp] theorem at6(a c:Bool)(b:D):g (cP a c b) 0=eS a (bo a) b.aw:=rfl
@[simp] theorem at7(a c:Bool)(b:D):g (cP a c b) 1=eS a (cg a) b.aO:=rfl
@[simp] theorem aua(a c:Bool)(b:D):g (cP a c b) 2=eS a (bO a) b.Q:=rfl
@[simp] theorem aub(a b:Bool)(c:D):g (cP a b c) 3=eS b (aS a) c.ak:=rfl
@[simp] theorem ah3(b:Bool)(a:S):g (cF b a) 0=I a.ai:=rfl
@[simp] theorem ah4(a:Bool)(b:S):g (cF a b) 1=eS a cV b.af:=rfl
@[simp] theorem ah5(b:Bool)(a:S):g (cF b a) 2=I a.aj:=rfl
@[simp] theorem auc(a:aG):g (cV a) 0=I a.ty:=rfl
@[simp] theorem aud(a:aG):g (cV a) 1=I a.n:=rfl
@[simp] theorem aue(a:aG):g (cV a) 2=.str a.s:=rfl
@[simp] theorem Ul(a:aJ):g (cT a) 0=.str a.aE:=rfl
@[simp] theorem ah6(a:aJ):g (cT a) 1=I a.const.ty:=rfl
@[simp] theorem ah7(a:aJ):g (cT a) 2=I a.const.n:=rfl
@[simp] theorem ah8(a:aJ):g (cT a) 3=.str a.const.s:=rfl
variable{bC c6:Bool}
theorem ah9(n s:D)(r:eI n):PR C 85 [.agg (cP T F n),.agg (cP bC c6 s)] (.bool (y (n=s))):=by
 refine aeM.pr ?_;simp only[eP,O,bw,bj,aK,rP,wk,kt,o4,e,a1,cx,G];refine dV (λh=>a8 (by grind[bJ])) (λK=>?_);refine dV (λh=>a8 (by grind[bJ])) (λL=>?_);refine dV (λh=>a8 (by grind[bJ])) (λM=>?_);refine b (by grind[bJ]) (λN=>?_);refine uc (s8 K) (c:=λd=>[ff,I d]) rfl (λd f u t v m=>?_) (λK t=>?_);have m:=λh k=>m h (congrArg D.aw k)
 simp only[O,i,G,A,a,f,decide_true,aF f (kH _ _),aF u (kH _ _),jh,zo,DB,DC,DD,DE,jD,a1,cx];refine a8 (dV (λh=>a8 (by grind[bJ])) (λe0=>?_));refine c (KT _ _ (r.aN _ (bp f)).1) ?_;simp only[bK,O];refine dV (λh=>a8 (by grind[bJ])) (λg=>?_);refine dV (λh=>a8 (by grind[bJ])) (λj=>?_);refine b (by grind[bJ]) (λl=>?_)
 refine uc (s8 l) (c:=λP=>[ff,I P,.str n.aw[d].au,eS T cS n.aw[d].az,eS T b2 n.aw[d].eH,I n.aw[d].ba,.str s.aw[d].au,eS bC cS s.aw[d].az,eS bC b2 s.aw[d].eH,I s.aw[d].ba]) rfl (λP z U S Y Z=>?_) (λh S=>?_);simp only[O,i,G,A,a1,a,z,decide_true,aF z (tT _),aF U (tT _),Qr,ahW];refine a8 (b (by grind[bJ]) (λh=>?_));rw[(r.aN _ (bp f)).2.inc z,O];grind;simp only[O,i,G,A,a1,a,cn,decide_false]
 refine bz ?_;rw[r.aw.inc f,O];refine v ?_;have e0:=Dz e0;have g:=DA g;have j:=Bs j;revert h e0 g j;generalize n.aw[d]=x;generalize s.aw[d]=R;intro h e0 g j;obtain⟨B,E,H,J⟩:=x;simp_all;simp only[O,i,G,A,a,cn,decide_false];refine bz ?_;refine uc (s8 L) (c:=λd=>[ff,I d]) rfl (λd f u t v m=>?_) (λL t=>?_);have m:=λh k=>m h (congrArg D.aO k);have w:=r.fn _ (bp f)
 simp only[O,i,G,A,a,f,decide_true,aF f (sZ _ _),aF u (sZ _ _),Dc,FW,GC,GD,Uj,GF,GG,Uk,GH,jD,cx];refine a8 (dV (λh=>a8 (by grind[bJ])) (λe0=>?_));refine dV (λh=>a8 (by grind[bJ])) (λg=>?_);refine dV (λh=>a8 (by grind[bJ])) (λj=>?_);refine c (KT _ _ w.1) ?_;simp only[bK,O];refine dV (λh=>a8 (by grind[bJ])) (λl=>?_);refine c (KT _ _ w.2.1) ?_;simp only[bK,O]
 refine dV (λh=>a8 (by grind[bJ])) (λo=>?_);refine c (u3 _ _ w.2.2) ?_;simp only[bK,O];refine dV (λh=>a8 (by grind[bJ])) (λp=>?_);refine b (by grind[bJ]) (λq=>?_);rw[r.aO.inc f,O];refine v ?_;have e0:=Dz e0;have g:=Dz g;have j:=Bs j;have l:=DA l;have o:=DA o;have p:=DA p;have q:=Bs q;revert e0 g j l o p q;generalize n.aO[d]=x;generalize s.aO[d]=R;intro e0 g j l o p q
 obtain⟨B,E,H,J,V,W,X⟩:=x;simp_all;simp only[O,i,G,A,a,cn,decide_false];refine bz ?_;refine uc (s8 M) (c:=λd=>[ff,I d]) rfl (λd f u t v m=>?_) (λM t=>?_);have m:=λh k=>m h (congrArg D.Q k);have w:=r.s7 _ (bp f);simp only[O,i,G,A,a,f,decide_true,aF f (jg _ _),aF u (jg _ _),wg,xP,rS,rT,rU,s9,rV,rW,rX,jD,cx,Kc];refine a8 (dV (λh=>a8 (by grind[bJ])) (λe0=>?_));refine c (u3 _ _ w) ?_;simp only[bK,O]
 refine dV (λh=>a8 (by grind[bJ])) (λg=>?_);refine dV (λh=>a8 (by grind[bJ])) (λj=>?_);refine dV (λh=>a8 (by grind[bJ])) (λl=>?_);refine dV (λh=>a8 (by grind[bJ])) (λo=>?_);refine dV (λh=>a8 (by grind[bJ])) (λp=>?_);refine b (by grind[bJ]) (λq=>?_);rw[r.Q.inc f,O];refine v ?_;have e0:=Dz e0;have g:=DA g;have j:=Dz j;have l:=Bs l;have o:=ah1 o;have p:=Bs p;have q:=Bs q;revert e0 g j l o p q
 generalize n.Q[d]=x;generalize s.Q[d]=R;intro e0 g j l o p q;obtain⟨B,E,H,J,V,W,X⟩:=x;simp_all;simp only[O,i,G,A,a,cn,decide_false];refine bz ?_;refine uc (s8 N) (c:=λd=>[ff,I d]) rfl (λd f u t v m=>?_) (λN t=>?_);have m:=λh k=>m h (congrArg D.ak k);simp only[O,i,G,A,a,f,decide_true,aF f (mM _ _),aF u (mM _ _),nA];refine a8 (c (ah2 _ _ (r.iS _ (bp f))) ?_);simp only[bK,O]
 refine b (by simp_all) (λh=>?_);rw[r.ak.inc f,O];grind;simp only[O,i,G,A,a,cn,decide_false];refine bz (jj ?_);obtain⟨B,E,H,J⟩:=n;simp_all
variable{rA:List AV -> List Obj -> Prop}
theorem eb{a:(List AV->List Obj->Prop)->Prop}(c:Bool)(d:∀b:List AV->List Obj->Prop,b [.bool c] M->a b)(e:rA [.bool c] M):jn a rA:=d rA e
theorem kB(a:rA [.bool T] M)(h:T=F):rA [.bool F] M:=h▸a
theorem yf(h:U<Z x)(a:ea x[U]=ab):x.all ea=false:=by
 grind
theorem n5(h:U<Z x):(x.take (U+1)).all ea=((x.take U).all ea&&ea x[U]):=by
 grind[List.take_succ_eq_append_getElem]
theorem e8.aia(q:e8 C)(r:aD)(o:pT r):PR C 263 [.agg (aS T r)] (.bool (nF r)):=by
 apply Sw.pr;have w:nF r=(!y (r.ba<0)&& !y (r.aj.ax<0)&& !y (3<r.aj.ax)&&(r.au==[]||bY r.au)&&(!(r.au==[])|| !(y (0<(Z r.af:Int))|| !(r.aj.ax==0)))&&
  (if(r.aj.ax==1||r.aj.ax==3)=ad then bY r.aj.au else r.aj.au==[])&&(if(r.aj.ax==2||r.aj.ax==3)=ad then isVar r.aj.aE else r.aj.aE==[])&&
  eQ 4 iJ r.af&&eQ 8 n4 r.ah):=by
  rw[<-lP,<-lP,<-lP]<;>rfl
 generalize nF r=B at*;have x:PR C 310 [eS T cT r.af,I 4,.fn 311 [] []] (.bool (eQ 4 iJ r.af)):=TV (by simp) rfl _ o.1 (λk _=>u4 (q.TY k) (by simp));have v:PR C 312 [eS T (bg T) r.ah,I 8,.fn 313 [] []] (.bool (eQ 8 n4 r.ah)):=ag5 (by simp) rfl _ o.2.1 (λk z=>u4 (q.ahR k (o.2.2 k z)) (by simp))
 have s:∀(a:d)(f:Bool),PR C 308 [.str a,.bool f,.fn 300 [] []] (.bool (if f=ad then bY a else a==[])):=by grind[GA,xY]
 have i:∀(a:d)(f:Bool),PR C 308 [.str a,.bool f,.fn 309 [] []] (.bool (if f=ad then isVar a else a==[])):=by grind[GA,KN]
 simp only[o2,O,bj,aK,Kb,wj,F7,QE,F8,qH,Bd,e,fW,Nat.reduceAdd,a1,A,eX,di,cx,gT,jD];refine eb (M:=[]) (!(!y (r.ba<0)&& !y (r.aj.ax<0)&& !y (3<r.aj.ax)&&(r.au==[]||bY r.au)&&(!(r.au==[])|| !(y (0<(Z r.af:Int))|| !(r.aj.ax==0))))) (λt j=>?_) ?_;refine dV (by grind) (λl=>?_);refine dV (by grind) (λm=>?_);refine dV (by grind) (λg=>?_);refine Bq (λn=>?_) (λn=>?_);refine c (xY _) ?_;simp only[bK,O]
 refine h7 (λu=>?_) (by grind);refine aW (λh=>?_) (λh=>kB j ?_);rw[h]at n;cases n;grind;refine aW (λ_=>dV (by grind) (λu=>kB j ?_)) (λh=>?_);grind;grind;simp only[G];refine b (λh=>bJ ?_) (λh=>?_);grind;simp only[OD]at h;rw[w,h,cZ];refine eb (M:=[]) ((if(r.aj.ax==1||r.aj.ax==3)=ad then bY r.aj.au else r.aj.au==[])&&(if(r.aj.ax==2||r.aj.ax==3)=ad then isVar r.aj.aE else r.aj.aE==[])) (λt j=>?_) ?_
 refine ei (λl=>?_) (λl=>?_);refine c (s _ _) (aW (λm=>ei (λg=>?_) (λg=>?_)) (by grind));refine c (i _ _) (by grind);refine c (i _ _) (by grind);refine c (s _ _) (aW (λm=>ei (λg=>?_) (λg=>?_)) (by grind));refine c (i _ _) (by grind);refine c (i _ _) (by grind)
 generalize((if(r.aj.ax==1||r.aj.ax==3)=ad then bY r.aj.au else r.aj.au==[])&&(if(r.aj.ax==2||r.aj.ax==3)=ad then isVar r.aj.aE else r.aj.aE==[]))=W;refine eb (M:=[]) (W&&eQ 4 iJ r.af&&eQ 8 n4 r.ah) (λt j=>?_) (iT rfl);refine aW (λl=>c x (aW (λm=>c v (by grind)) (by grind))) (by grind)
theorem e8.aib(g:e8 C)(a:D)(d:eI a):PR C 209 [.agg (cP T F a)] (.bool (rR a)):=by
 apply Rs.pr;have h:PR C 257 [eS T (bo T) a.aw,I 4,.fn 256 [] []] (.bool (eQ 4 zx a.aw)):=ag6 (by simp) rfl _ d.aw (by simp[u4,ahd]);have i:PR C 258 [eS T (cg T) a.aO,I 8,.fn 259 [] []] (.bool (eQ 8 tY a.aO)):=ag7 (by simp) rfl _ d.aO (λb f=>u4 (ahe b (d.fn b f)) (by simp))
 have j:PR C 260 [eS T (bO T) a.Q,I 24,.fn 261 [] []] (.bool (eQ 24 tZ a.Q)):=ag8 (by simp) rfl _ d.Q (λb f=>u4 (ahf b (d.s7 b f)) (by simp));have k:PR C 262 [eS F (aS T) a.ak,I 40,.fn 263 [] []] (.bool (eQ 40 nF a.ak)):=ag9 (by simp) rfl _ d.ak (λb f=>u4 (g.aia b (d.iS b f)) (by simp));simp only[eP,O,bj,aK,rP,wk,kt,o4,e,bw,G];refine c h (aW (λl=>?_) (by simp_all[rR]))
 refine c i (aW (λm=>?_) (by simp_all[rR]));refine c j (aW (λn=>?_) (by simp_all[rR]));exact c k (by simp_all[rR])
theorem aic(d:Fn)(v:zy d):PR C 191 [.agg (cg T d)] (.bool (tY d)):=by
 apply aeX.pr;have t:tY d=(!y (d.ba<0)&&bY d.au&&bY d.aN&&((Z d.src:Int)==Z d.dst)&&(!y (8<(Z d.src:Int))&&d.src.all bY)&&(!y (8<(Z d.dst:Int))&&d.dst.all bY)):=by
  rw[<-lP,<-lP,<-lP]<;>rfl
 generalize tY d=n at*;simp only[FX,O,bw,bj,aK,Qu,Qv,Df,Dg,Qy,e,a1,A,eX,cx,G];refine dV (by simp_all) (λp=>?_);apply c (s5 _);simp only[bK,O];refine h7 (λq=>?_) (by simp_all);apply c (s5 _);simp only[bK,O];refine h7 (λr=>?_) (by simp_all);refine dV (λh=>a8 (bJ ?_)) (λs=>?_);grind;refine b (by simp_all) (λk=>?_);have j:=s8 s;have z:n=(d.src.all bY&&d.dst.all bY):=by
  rw[t,p,q,r,k,<-j,k];simp
 refine eC (U:=Z d.src) (c:=λf=>[ff,I f]) (λf=>(d.src.take f).all bY=ad/\(d.dst.take f).all bY=ad) (by simp) rfl (λf g l m B=>?_) (λl m=>?_);have u:=j▸g;simp only[O,i,G,A,a,g,decide_true,aF g (iR _),aF u (iR _),aK,lN];refine a8 (c (s5 _) ?_);simp only[bK,O];refine h7 (λw=>?_) (λo=>a8 (by grind[bJ,yf]));apply c (s5 _);simp only[bK,O];refine dw (by grind[bJ,yf]) (λx=>?_);rw[v.1.inc g,O];grind[n5]
 simp only[O,i,G,A,a,cn,decide_false];rw[dU,j,dU]at l;exact bz (by simp_all)
theorem aid:∀a b c d e f g h:Bool,(!a&&b&& !c&&d&& !e&& !f&&g)=ad->(!a&&b&&d&&(!c&&h)&& !e&& !f&&g)=h:=by decide
theorem aie(d:cO)(j:Dx d):PR C 192 [.agg (bO T d)] (.bool (tZ d)):=by
 apply agc.pr;have m:tZ d=(!y (d.ba<0)&&bY d.au&&(d.aN==[]||bY d.aN)&&(!y (4<(Z d.aZ:Int))&&d.aZ.all mQ)&& !y (d.fx<0)&& !y ((Z d.aZ:Int)<d.fx)&&(d.fx==(Z d.aZ:Int)||d.eo&&d.aN==[])):=by
  rw[<-lP,<-lP,<-lP,<-lP]<;>rfl
 generalize tZ d=k at*;simp only[FY,O,bj,aK,Qz,wi,QA,F4,QB,QC,e,a1,A,eX,cx,jD,bK];refine eb (M:=[]) (!(!y (d.ba<0)&&bY d.au&& !y (4<(Z d.aZ:Int))&&(d.aN==[]||bY d.aN)&& !y (d.fx<0)&& !y ((Z d.aZ:Int)<d.fx)&&(d.fx==(Z d.aZ:Int)||d.eo&&d.aN==[]))) (λF t=>?_) ?_;refine dV (by grind) (λf=>?_);apply c (s5 _);simp only[bK,O];refine h7 (λg=>?_) (by grind);refine dV (by grind) (λo=>?_);apply c (Ue _ _)
 simp only[bK,O];refine h7 (λl=>?_) (by grind);rw[cZ]at l;refine dV (by grind) (λp=>?_);refine dV (by grind) (λq=>?_);rw[f,g,o,l,p,q]at t;refine aW (λr=>h7 (λs=>?_) (λs=>?_)) (λr=>?_);grind;grind;grind;simp only[G];refine dw (λh=>bJ ?_) (λh=>?_);grind;have B:k=d.aZ.all mQ:=by
  rw[m];exact aid _ _ _ _ _ _ _ _ h
 clear m h;refine Br (ea:=mQ) (Q:=λw n=>aM n .res w (.bool k)) j (λE z=>⟨λh D u=>?_,λh v=>?_⟩) (by simp_all) (by simp_all);simp only[O,i,G,A,a,h,decide_true,aF h (jf _),aK,lM,cx,bw];refine a8 (aW (λf=>b (λg=>u ?_) (λg=>?_)) (λf=>bz ?_));grind[mQ];rw[Sm.inc j h,O];grind[mQ];rw[Sm.inc j h,O];grind[mQ];simp only[O,i,G,A,a];exact bz v (by simp;omega)
def aX(a:List Obj)(id e:Nat)(b:K->List AV)(c:Nat)(d:List K):List Obj:=a.set id (.arr c e (d.map b))
variable{a7:K -> List AV}{N:Nat}
theorem n9{id:Nat}(h:id<Z M):(aX M id U a7 N x)[id]?=aa (.arr N U (x.map a7)):=by
 simp[aX,h]
theorem o6{id:Nat}:Z (aX M id U a7 N x)=Z M:=by simp[aX]
theorem Um(d:∀c,Z (a7 c)=U)(b:List K):(b.map a7).all (λa=>Z a==U)=true:=by
 grind
theorem vh(e:∀d,Z (a7 d)=U)(b:List Obj)(c:Bool)(a:List K):ij b U (eS c a7 a)=aa (a.map a7):=by
 grind[ij,eS]
variable{E:AV}
theorem GI{id bytes:Nat}(h:id<Z M)(b:ij (aX M id U a7 N x) U E=aa (lu.map a7))(a:(Z x+Z lu)*bytes<=2^47):
 cJ U bytes (.q id N 0 (Z x)) E (aX M id U a7 N x)=aa (.q id (N+1) 0 (Z (x++lu)),aX M id U a7 (N+1) (x++lu)):=by
 simp_all[cJ,AV.isNil,eZ,kc,gP,aX,gy,hE]
theorem pW{id bytes:Nat}(a:K)(h:id<Z M)(c:Z (a7 a)=U)(b:(Z x+1)*bytes<=2^47):
 cJ U bytes (.q id N 0 (Z x)) (.sl ab [a7 a]) (aX M id U a7 N x)=aa (.q id (N+1) 0 (Z (x++[a])),aX M id U a7 (N+1) (x++[a])):=by
 grind[GI,ij]
variable{bZ:Type}{oK:bZ}
theorem aY{b:Option (K×bZ)}{a:K->bZ->Prop}(h:b=aa (dR,oK))(c:a dR oK):cj b a:=by subst h;exact c
variable{rC:Option K}
theorem aI{a:K->Prop}(h:rC=aa dR)(b:a dR):bd rC a:=by subst h;exact b
variable{p:List d}{iy:AV -> List Obj -> Prop}
theorem Un{id:Nat}(h:id<Z M)(b:Z p<1099511627776)(a:iy (.q id (U+1) 0 (Z (p++[bL]))) (aX M id 1 cS (U+1) (p++[bL]))):cj (cJ 1 16 (.q id U 0 (Z p)) (.sl ab [cS bL]) (aX M id 1 cS U p)) iy:=
 aY (pW bL h rfl (by omega)) a
variable{aP:List aG}{jt:aG}
theorem KU{id:Nat}(h:id<Z M)(b:Z aP<1099511627776)(a:iy (.q id (U+1) 0 (Z (aP++[jt]))) (aX M id 3 cV (U+1) (aP++[jt]))):cj (cJ 3 32 (.q id U 0 (Z aP)) (.sl ab [cV jt]) (aX M id 3 cV U aP)) iy:=
 aY (pW jt h rfl (by omega)) a
variable{cq:List Int}
theorem Uo{id:Nat}(h:id<Z M)(b:Z cq<1099511627776)(a:iy (.q id (U+1) 0 (Z (cq++[f]))) (aX M id 1 cI (U+1) (cq++[f]))):cj (cJ 1 8 (.q id U 0 (Z cq)) (.sl ab [cI f]) (aX M id 1 cI U cq)) iy:=
 aY (pW f h rfl (by omega)) a
theorem aif{id bytes:Nat}(h:id<Z M)(b:∀d,Z (a7 d)=U)(a:(Z x+Z lu)*bytes<=2^47)(c:iy (.q id (N+1) 0 (Z (x++lu))) (aX M id U a7 (N+1) (x++lu))):cj (cJ U bytes (.q id N 0 (Z x)) (eS T a7 lu) (aX M id U a7 N x)) iy:=
 aY (GI h (vh b _ _ _) a) c
theorem yg{id bytes:Nat}(h:id<Z M)(b:Z (a7 dR)=U)(a:(Z x+1)*bytes<=2^47)(c:iy (.q id (N+1) 0 (Z (x++[dR]))) (aX M id U a7 (N+1) (x++[dR]))):cj (cJ U bytes (.q id N 0 (Z x)) (.sl ab [a7 dR]) (aX M id U a7 N x)) iy:=
 aY (pW dR h b a) c
variable{dQ:AV}
theorem pX{bytes:Nat}(b:E.isNil=ad)(c:ij M U dQ=aa (x.map a7))(a:Z x*bytes<=2^47):
 cJ U bytes E dQ M=aa (.q (Z M) 0 0 (Z x),M++[.arr 0 U (x.map a7)]):=by
 grind[cJ]
theorem KV(a:List Obj)(d:Nat)(b:K->List AV)(c:List K)(e:Obj):a++[.arr 0 d (c.map b)]=aX (a++[e]) (Z a) d b 0 c:=by
 simp[aX]
variable{oH:bZ -> List AV}{z dh:Nat}
theorem Up{id:Nat}{a:List bZ}:aX (aX M id U a7 z x) id N oH dh a=aX M id N oH dh a:=by
 simp[aX]
theorem DF{id:Nat}(h:id<Z M)(b:∀a∈x,bS (a7 a)):aM (aX M id U a7 N x) .res (.q id N 0 (Z x)) (eS ab a7 x):=by
 refine .pE id N 0 (Z x) U (x.map a7) _ (n9 h) (by simp) ?_;rw[ll,gP (by simp)];have:pQ (x.map a7):=by
  clear h;induction x with
  |nil=>exact .nil
  |cons a x c=>exact .cons _ _ (b a (by simp)) (by grind)
 exact this.snap
theorem o7{id:Nat}(h:M[id]?=aa (.arr N U (x.map a7)))(b:∀a∈x,bS (a7 a)):aM M .cb (.q id N 0 (Z x)) (eS ad a7 x):=by
 refine .vX id N 0 (Z x) U (x.map a7) _ h (by simp) ?_;rw[ll,gP (by simp)];have:pQ (x.map a7):=by
  clear h;induction x with
  |nil=>exact .nil
  |cons a x c=>exact .cons _ _ (b a (by simp)) (by grind)
 exact this.snap
variable{b0:List (List AV)}
theorem aih{id off len:Nat}(h:M[id]?=aa (.arr U N b0))(a:z<len):bT N (.q id U off len) (I z) M=aa (.ptr id U (off+z) 0):=by
 simp[bT,a,h]
theorem fu{id len:Nat}(h:M[id]?=aa (.arr U N b0))(a:z<len):bT N (.q id U 0 len) (I z) M=aa (.ptr id U z 0):=by
 grind[aih]
theorem o8{id off:Nat}(h:M[id]?=aa (.arr U dh b0)):dD z (.ptr id U N off) M=aa (.ptr id U N (off+z)):=by
 simp[dD,h]
theorem cY{id off:Nat}(h:M[id]?=aa (.arr U z b0))(a:b0[N]?=aa bE):aQ 1 ab (.ptr id U N off) M=bE[off]?:=by
 simp only[aQ,wc,h,if_true,a,kd];by_cases h:off<Z bE;rw[if_pos (by omega)];simp[qo,bu h,Om];grind
theorem mi{id:Nat}(h:M[id]?=aa (.arr U z b0))(a:b0[N]?=aa bE)(b:Z bE=dh):aQ dh ad (.ptr id U N 0) M=aa (.agg bE):=by
 grind[aQ,wc,qo]
theorem mS{b:K->bZ->K}{a:List bZ}(h:U<Z a):(a.take (U+1)).foldl b dR=b ((a.take U).foldl b dR) a[U]:=by
 grind[List.take_succ_eq_append_getElem]
variable{gC:List Obj}
theorem wI(a:List bZ)(f:List K->bZ->List K)(d:List K)(id k:Nat)(j:K->List AV)(m:Nat)
 (p:[.q id m 0 (Z d),I ((0:Nat):Int)]=bE)(o:aX M id k j m d=gC)
 (step:∀b(h:b<Z a)(i:List K)(e:Nat)(g:List AV->List Obj->Prop),i=(a.take b).foldl f d->(∀l,g [.q id l 0 (Z (f i a[b])),I ((b+1:Nat):Int)] (aX M id k j l (f i a[b])))->kk [.q id e 0 (Z i),I b] (aX M id k j e i) g)
 (last:∀(e:Nat)(g:List AV->List Obj->Prop),kk [.q id e 0 (Z (a.foldl f d)),I (Z a)] (aX M id k j e (a.foldl f d)) g):jA kk bE gC:=by
 refine bG (λc=>[.q id c.2 0 (Z ((a.take c.1).foldl f d)),I c.1]) (λc=>aX M id k j c.2 ((a.take c.1).foldl f d)) (λc=>Z a -c.1) (λc=>c.1<=Z a) (0,m) (by simp) ?_ (by grind) (by grind);rintro⟨b,e⟩ r g n;by_cases h:b<Z a;refine step b h _ e g rfl λl=>?_;have:=n (b+1,l) h (by simp;omega);grind[mS];grind
def ej(a:List d)(b:d):List d:=if b=[]\/b∈a then a else a++[b]
def c8(a:List d)(b:List aJ):List d:=b.foldl (λa c=>ej a c.aE) a
def fB(r:aD):List d:=(r.ah.map Lit.af++[r.af]).foldl c8 []
theorem Uq(a:List d)(b:d):Z (ej a b)<=Z a+1:=by
 grind[ej]
theorem zz(a:List aJ):∀b:List d,Z (c8 b a)<=Z b+Z a:=by
 induction a with
 |nil=>grind[c8]
 |cons e a c=>
  grind[Uq,ej,c8,List.length_cons]
theorem Ur(a:List (List aJ)):∀b:List d,Z (a.foldl c8 b)<=Z b+Z a.flatten:=by
 induction a with
 |nil=>grind
 |cons f e c=>
  grind[zz,c8,List.flatten_cons,List.length_append]
theorem GJ:y (b1 (λa=>a==bL) p<0)= !y (bL∈p):=by
 have h:=TG (λa=>a==bL) p;grind
theorem DG(a:d):fQ 1 [(.str [])] 1 [(0,.str a)]=aa (.sl ab [cS a]):=rfl
theorem GK(a:Int):fQ 1 [(I 0)] 1 [(0,I a)]=aa (.sl ab [cI a]):=rfl
theorem GL(a:aG):fQ 3 [(I 0),(I 0),(.str [])] 1 [(0,.agg (cV a))]=aa (.sl ab [cV a]):=rfl
theorem ue(c:List d)(g:d)(n:Sm c):PR C 113 [eS T cS c,.str g] (I (b1 (λk=>k==g) c)):=by
 refine ael.pr ?_;refine eC (U:=Z c) (c:=λf=>[I 0,I f]) (λf=>∀j(p:j<Z c),j<f->(c[j]==g)=ab) (by simp) rfl (λf e l m q=>?_) (λl m=>?_);simp only[O,i,G,a1,A,a,e,decide_true,aF e (iR _),aK,lN,gT];refine a8 (b (λh=>?_) (λh=>?_));simp[tX (ea:=λk=>k==g) e l h];rw[n.inc e,O];grind;simp only[O,i,G,a1,A,a,cn,decide_false];refine bz ?_;simp_all[wq]
theorem GM(c:List d)(k:d)(n:Sm c):PR C 177 [eS T cS c,.str k] (.bool (y (k∈c))):=by
 apply afP.pr;refine eC (U:=Z c) (c:=λf=>[ff,I f]) (λf=>∀e(j:e<Z c),e<f->(c[e]==k)=ab) (by simp) rfl (λf g l m q=>?_) (λl m=>?_);simp only[O,i,G,a1,A,a,g,decide_true,aF g (iR _),aK,lN,gT];refine a8 (b (λh=>jj ?_) (λh=>?_));grind;rw[n.inc g,O];grind;simp only[O,i,G,a1,A,a,cn,decide_false];refine bz (bJ ?_);simp only[decide_eq_false_iff_not];intro o;obtain⟨e,j,rfl⟩:=kf.1 o;have:=l e j j
 simp at this
theorem Us(c:List aG)(j:aG)(m:Sm c):PR C 112 [eS T cV c,.agg (cV j)] (.bool (y (j∈c))):=by
 apply adW.pr;simp only[Bb,O];refine eC (U:=Z c) (c:=λe=>[ff,I e]) (λe=>∀d(g:d<Z c),d<e->c[d]≠j) (by simp) rfl (λe f k l p=>?_) (λk l=>?_);simp only[O,i,G,a1,A,a,f,decide_true,aF f (sY _),u0,acU];refine a8 (b (λh=>jj ?_) (λh=>?_));grind;rw[m.inc f,O];grind;simp only[O,i,G,a1,A,a,cn,decide_false];refine bz (bJ ?_);simp only[decide_eq_false_iff_not];intro n;obtain⟨d,g,rfl⟩:=kf.1 n;exact k d g g rfl
theorem Ut(r:aD)(V:pT r)(K:Sm (r.ah.map Lit.af++[r.af]).flatten):PR C 63 [.agg (aS T r)] (eS ab cS (fB r)):=by
 refine aeI.pr ?_;simp only[o2,O,e3,ft,bj,aK,wj,qH,e,a1,bw,dK,eU,Oz,kD];have W:Z (r.ah.map Lit.af++[r.af])=Z r.ah+1:=by simp
 refine wI (r.ah.map Lit.af++[r.af]) c8 [] 1 1 cS (M:=[.arr 0 1 [],.arr 0 1 []]) 0 rfl (by simp[aX]) (λf R k n E P S=>?_) (λn E=>?_);have a4:=List.take_sublist f (r.ah.map Lit.af++[r.af]);have a3:Z k+Z (r.ah.map Lit.af++[r.af])[f]<=Z (r.ah.map Lit.af++[r.af]).flatten:=by
  have H:=Ur ((r.ah.map Lit.af++[r.af]).take f) [];rw[<-P]at H;have t:Z (r.ah.map Lit.af++[r.af]).flatten=Z ((r.ah.map Lit.af++[r.af]).take f).flatten+Z ((r.ah.map Lit.af++[r.af]).drop f).flatten:=by
   rw[<-gy,<-xp,vO]
  rw[oC R,xo,gy]at t;simp only[eU,e]at H;omega
 have v:∀o,o<Z (r.ah.map Lit.af++[r.af])[f]->o<4611686018427387904:=by unfold Sm at K;omega
 generalize J:(r.ah.map Lit.af++[r.af])[f]=j at*;have U:y ((f:Int)<=Z r.ah)=true:=by simp;omega
 simp only[i,G];refine a8 ?_ U;have inner:jA (λd c u3=>bd (gk .sl (eS T cT j) c) λY=>bd (aT .s .lss (g d 1) Y) λac=>ez ac
  (bd (bT 4 (eS T cT j) (g d 1) c) λai=>bd (dD 0 ai c) λaj=>bd (aQ 1 ab aj c) λak=>bd (aT .s .neq ak (.str [])) λam=>
   gd am ad (bd (bT 4 (eS T cT j) (g d 1) c) λau=>bd (dD 0 au c) λax=>bd (aQ 1 ab ax c) λaz=>cp C 113 [g d 0,az] c λaA=>bd (aT .s .lss aA (I 0)) λaR=>
    ez (g [aR] 0) (bd (bT 4 (eS T cT j) (g d 1) c) λw=>bd (dD 0 w c) λx=>bd (aQ 1 ab x c) λz=>bd (fQ 1 [.str []] 1 [(0,z)]) λB=>cj (cJ 1 16 (g d 0) B c) λD u=>bd (aT .s .add (g d 1) (I 1)) λl=>u3 [g [D] 0,l] u)
     (bd (aT .s .add (g d 1) (I 1)) λl=>u3 [g [g d 0] 0,l] c))
    (ez (g [ff] 0) (bd (bT 4 (eS T cT j) (g d 1) c) λw=>bd (dD 0 w c) λx=>bd (aQ 1 ab x c) λz=>bd (fQ 1 [.str []] 1 [(0,z)]) λB=>cj (cJ 1 16 (g d 0) B c) λD u=>bd (aT .s .add (g d 1) (I 1)) λl=>u3 [g [D] 0,l] u)
     (bd (aT .s .add (g d 1) (I 1)) λl=>u3 [g [g d 0] 0,l] c)))
  (bd (aT .s .add (I f) (I 1)) λaZ=>E [g d 0,aZ] c)) [.q 1 n 0 (Z k),I 0] (aX [.arr 0 1 [],.arr 0 1 []] 1 1 cS n k):=by
  refine wI j (λk X=>ej k X.aE) k 1 1 cS (M:=[.arr 0 1 [],.arr 0 1 []]) n rfl rfl (λo m F N M Q a2=>?_) (λN M=>?_);have a0:Z F+1<=1099511627776:=by
   have:=zz (j.take o) k;simp only[c8]at this;rw[<-Q]at this;simp at this;unfold Sm at K;omega
  simp only[i,G,O,a1,A,a,m,decide_true,aF m (kq _),bj,aK,rO,jD,e];refine a8 (Bq (λh=>?_) (λh=>bz ?_));refine e4 _ (ue F _ (by grind[Sm])) (.ck (o7 (n9 (by simp)) (by simp)) (.ck (.str _ _) (.nil _))) (.int _ _) ?_;simp only[A,O,GJ];refine dw (λt=>?_) (λt=>?_);rw[DG,O];refine Un (by simp) (by omega) ?_;rw[a6 (v _ m),O];grind[ej];rw[a6 (v _ m),O];grind[ej];rw[a6 (v _ m),O];grind[ej]
  simp only[i,G,O,a1,A,a,cn,decide_false];refine bz ?_;rw[a6 (by have:=V.2.1;grind[Sm]),O];exact S _
 refine b (λh=>?_) (λh=>?_);have p:f<Z r.ah:=by simpa using h
 have:r.ah[f].af=j:=by rw[<-J,aaL (by simpa using p)];simp
 simp only[aF p (jB _ _),O,bj,aK,s4,e,this];exact inner;have p:f=Z r.ah:=by simp at h;omega
 have:r.af=j:=by rw[<-J,List.getElem_append_right (by simp;omega)];simp
 simp only[this];exact inner;have:y ((Z (r.ah.map Lit.af++[r.af]):Int)<=Z r.ah)=false:=by rw[decide_eq_false_iff_not,W];omega
 simp only[i,G];refine bz ?_ this;exact DF (by simp) (by simp)
theorem wJ(c:List K)(d:K->Bool)(ok:Bool)(g:[.bool ok,I ((0:Nat):Int)]=bE)
 (step:∀a(h:a<Z c)(e:Bool)(b:List AV->List Obj->Prop),b [.bool (e&&d c[a]),I ((a+1:Nat):Int)] M->kk [.bool e,I a] M b)
 (last:∀b:List AV->List Obj->Prop,kk [.bool (ok&&c.all d),I (Z c)] M b):jA kk bE M:=by
 refine eC (U:=Z c) (c:=λa=>[.bool (ok&&(c.take a).all d),I a]) (λ_=>True) trivial (by grind) (λa i _ b j=>?_) (λ_ b=>?_);grind[n5];grind
def Bt(a:bP):Bool:=y ((Z a.az:Int)<=10)&&y ((Z a.eH:Int)<=80)
def zA(a:Fn):Bool:=y ((Z a.src:Int)<=10)&&(y ((Z a.dst:Int)<=10)&&y ((Z a.gQ:Int)<=10))
def DH(a:cO):Bool:=y ((Z a.aZ:Int)<=10)
def GN(r:aD):Bool:=y ((Z r.ah:Int)<=10)&&y ((Z r.af:Int)<=10)&&r.ah.all λa=>y ((Z a.af:Int)<=10)
def DI(a:D):Bool:=(!y (6<(Z a.aw:Int))&& !y (10<(Z a.aO:Int))&& !y (26<(Z a.Q:Int))&& !y (14<(Z a.ak:Int)))&&
 (a.aw.all Bt&&a.aO.all zA&&a.Q.all DH&&a.ak.all GN)
def nG(a:D)(b:List S):Bool:=DI a&& !y (10<(Z a.ak:Int))&& !y (60<(Z b:Int))&&a.ak.all (λr=> !y (5<(Z r.ah:Int)))&&b.all λc=> !y (6<(Z c.af:Int))
theorem aii(b:D)(l:eI b)(KX:∀r∈b.ak,PR C 193 [.agg (aS T r)] (.bool (nF r))):PR C 141 [.agg (cP T F b)] (.bool (rR b)):=by
 refine afi.pr ?_;have o:rR b=((!y (4<(Z b.aw:Int))&& !y (8<(Z b.aO:Int))&& !y (24<(Z b.Q:Int))&& !y (40<(Z b.ak:Int)))&&((((ad&&b.aw.all zx)&&b.aO.all tY)&&b.Q.all tZ)&&b.ak.all nF)):=by
  simp only[rR,eQ,<-lP];generalize y ((Z b.aw:Int)<=4)=p;generalize y ((Z b.aO:Int)<=8)=t;generalize y ((Z b.Q:Int)<=24)=q;generalize y ((Z b.ak:Int)<=40)=s;cases p<;>cases t<;>cases q<;>cases s<;>simp
 simp only[eP,O,bj,aK,rP,wk,kt,o4,e,a1,eX];refine eb (M:=[]) (!(!y (4<(Z b.aw:Int))&& !y (8<(Z b.aO:Int))&& !y (24<(Z b.Q:Int))&& !y (40<(Z b.ak:Int)))) (λn d=>?_) ?_;refine dV (by grind) (λu=>dV (by grind) (λv=>dV (by grind) (λw=>by simp_all)));simp only[G];refine dw (by grind[bJ]) (λh=>?_);rw[o,h,cZ];clear o h;refine wJ b.aw zx ad rfl (λk f j g d=>?_) (λg=>?_)
 simp only[O,i,G,A,a,f,decide_true,aF f (kH _ _),bj,aK,acS,h0,e];refine a8 (eb (M:=[]) (j&&zx b.aw[k]) (λn d=>aW (λh=>kB d (by rw[h]<;>rfl)) (λh=>kB d (by rw[h]<;>rfl))) ?_);rw[l.aw.inc f,O,G];exact d;simp only[O,i,G,A,a,cn,decide_false];refine bz ?_;refine wJ b.aO tY _ rfl (λk f j g d=>?_) (λg=>?_);simp only[O,i,G,A,a,f,decide_true,aF f (sZ _ _),Dc]
 refine a8 (eb (M:=[]) (j&&tY b.aO[k]) (λn d=>aW (λh=>c (aic _ (l.fn _ (bp f))) (kB d (by rw[h]<;>rfl))) (λh=>kB d (by rw[h]<;>rfl))) ?_);rw[l.aO.inc f,O,G];exact d;simp only[O,i,G,A,a,cn,decide_false];refine bz ?_;refine wJ b.Q tZ _ rfl (λk f j g d=>?_) (λg=>?_);simp only[O,i,G,A,a,f,decide_true,aF f (jg _ _),wg]
 refine a8 (eb (M:=[]) (j&&tZ b.Q[k]) (λn d=>aW (λh=>c (aie _ (l.s7 _ (bp f))) (kB d (by rw[h]<;>rfl))) (λh=>kB d (by rw[h]<;>rfl))) ?_);rw[l.Q.inc f,O,G];exact d;simp only[O,i,G,A,a,cn,decide_false];refine bz ?_;refine wJ b.ak nF _ rfl (λk f j g d=>?_) (λg=>?_);simp only[O,i,G,A,a,f,decide_true,aF f (mM _ _),nA]
 refine a8 (eb (M:=[]) (j&&nF b.ak[k]) (λn d=>aW (λh=>c (KX _ (bp f)) (kB d (by rw[h]<;>rfl))) (λh=>kB d (by rw[h]<;>rfl))) ?_);rw[l.ak.inc f,O,G];exact d;simp only[O,i,G,A,a,cn,decide_false];exact bz (iT rfl)
theorem aij(c:D)(m:eI c):PR C 111 [.agg (cP T F c)] (.bool (DI c)):=by
 refine af7.pr ?_;have q:DI c=((!y (6<(Z c.aw:Int))&& !y (10<(Z c.aO:Int))&& !y (26<(Z c.Q:Int))&& !y (14<(Z c.ak:Int)))&&((((ad&&c.aw.all Bt)&&c.aO.all zA)&&c.Q.all DH)&&c.ak.all GN)):=by
  simp[DI]
 simp only[eP,O,bj,aK,rP,wk,kt,o4,e,a1,eX];refine eb (M:=[]) (!(!y (6<(Z c.aw:Int))&& !y (10<(Z c.aO:Int))&& !y (26<(Z c.Q:Int))&& !y (14<(Z c.ak:Int)))) (λn b=>?_) ?_;refine dV (by grind) (λx=>dV (by grind) (λf=>dV (by grind) (λo=>by simp_all)));simp only[G];refine dw (by grind[bJ]) (λh=>?_);rw[q,h,cZ];clear q h;refine wJ c.aw Bt ad rfl (λg d k j b=>?_) (λj=>?_)
 simp only[O,i,G,A,a,d,decide_true,aF d (kH _ _),bj,aK,o3,F3,a1,la,e];refine a8 (eb (M:=[]) (k&&Bt c.aw[g]) (λn b=>aW (λh=>aW (λf=>kB b (by rw[h,Bt,f]<;>rfl)) (λf=>kB b (by rw[h,Bt,f]<;>rfl))) (λh=>kB b (by rw[h]<;>rfl))) ?_);rw[m.aw.inc d,O,G];exact b;simp only[O,i,G,A,a,cn,decide_false];refine bz ?_;refine wJ c.aO zA _ rfl (λg d k j b=>?_) (λj=>?_)
 simp only[O,i,G,A,a,d,decide_true,aF d (sZ _ _),bj,aK,Df,Dg,Qx,a1,la,e];refine a8 (eb (M:=[]) (k&&zA c.aO[g]) (λn b=>aW (λh=>aW (λf=>aW (λo=>kB b (by rw[h,zA,f,o]<;>rfl)) (λo=>kB b (by rw[h,zA,f,o]<;>rfl))) (λf=>kB b (by rw[h,zA,f]<;>rfl))) (λh=>kB b (by rw[h]<;>rfl))) ?_);rw[m.aO.inc d,O,G];exact b;simp only[O,i,G,A,a,cn,decide_false];refine bz ?_
 refine wJ c.Q DH _ rfl (λg d k j b=>?_) (λj=>?_);simp only[O,i,G,A,a,d,decide_true,aF d (jg _ _),bj,aK,wi,a1,la,e];refine a8 (eb (M:=[]) (k&&DH c.Q[g]) (λn b=>aW (λh=>kB b (by rw[h,DH]<;>rfl)) (λh=>kB b (by rw[h]<;>rfl))) ?_);rw[m.Q.inc d,O,G];exact b;simp only[O,i,G,A,a,cn,decide_false];refine bz ?_;refine wJ c.ak GN _ rfl (λg d k j b=>?_) (λj=>?_);have u:=m.iS _ (bp d)
 simp only[O,i,G,A,a,d,decide_true,aF d (mM _ _),bj,aK,wj,qH,a1,la,e];refine a8 (eb (M:=[]) (k&&(y ((Z c.ak[g].ah:Int)<=10)&&y ((Z c.ak[g].af:Int)<=10))) (λn b=>aW (λh=>aW (λf=>kB b (by rw[h,f]<;>rfl)) (λf=>kB b (by rw[h,f]<;>rfl))) (λh=>kB b (by rw[h]<;>rfl))) ?_);refine wJ c.ak[g].ah (λw=>y ((Z w.af:Int)<=10)) _ rfl (λv p s r t=>?_) (λr=>?_)
 simp only[O,i,G,A,a,p,decide_true,aF p (jB _ _),bj,aK,s4,a1,la,e];refine a8 (eb (M:=[]) (s&&y ((Z c.ak[g].ah[v].af:Int)<=10)) (λn b=>aW (λh=>kB b (by rw[h]<;>rfl)) (λh=>kB b (by rw[h]<;>rfl))) ?_);rw[u.2.1.inc p,O,G];exact t;simp only[O,i,G,A,a,cn,decide_false];refine bz ?_;rw[m.ak.inc d,O,aaM];exact b;simp only[O,i,G,A,a,cn,decide_false];exact bz (iT rfl)
theorem aik(f:D)(g:List S)(n:eI f)(u:Sm g):PR C 61 [.agg (cP T F f),eS c6 (cF bC) g] (.bool (nG f g)):=by
 refine aei.pr ?_;simp only[eP,O,bj,aK,gS,o4,e,a1,eX,bw,G];refine c (aij f n) ?_;simp only[bK,O];refine h7 (λp=>?_) (λh=>a8 (bJ (by rw[nG,h]<;>rfl)));refine dV (λh=>a8 (bJ (by rw[nG,h];simp))) (λq=>?_);refine b (by simp_all[nG]) (λs=>?_);have t:nG f g=(f.ak.all (λr=> !y (5<(Z r.ah:Int)))&&g.all λm=> !y (6<(Z m.af:Int))):=by
  rw[nG,p,q,s]<;>rfl
 rw[t];refine eC (U:=Z f.ak) (c:=λd=>[ff,I d]) (λd=>(f.ak.take d).all (λr=> !y (5<(Z r.ah:Int)))=ad) (by simp) rfl (λd j k l v=>?_) (λk l=>?_);simp only[O,i,G,A,a,j,decide_true,aF j (mM _ _),bj,aK,qH,a1,eX,e];refine a8 (b (λh=>bJ ?_) (λh=>?_));grind;rw[n.ak.inc j,O];grind[n5];rw[dU]at k;simp only[O,i,G,A,a,cn,decide_false];refine bz ?_;rw[k,cZ]
 refine eC (U:=Z g) (c:=λd=>[ff,I d]) (λd=>(g.take d).all (λm=> !y (6<(Z m.af:Int)))=ad) (by simp) rfl (λd j k l v=>?_) (λk l=>?_);simp only[O,i,G,A,a1,a,j,decide_true,aF j (fR _ _),bj,aK,u1,eX,e];refine a8 (b (λh=>bJ ?_) (λh=>?_));grind;rw[u.inc j,O];grind[n5];rw[dU]at k;simp only[O,i,G,A,a,cn,decide_false];exact bz (jj k)
theorem zB{id:Nat}(h:id<Z M)(a:List Obj):aX M id U a7 N x++a=aX (M++a) id U a7 N x:=by
 grind[aX]
variable{mH:Nat}
theorem wK{id:Nat}{a:List bZ}(h:id≠N):
 aX (aX M id U a7 dh x) N z oH mH a=aX (aX M N z oH mH a) id U a7 dh x:=by
 grind[aX,List.set_comm]
theorem Uu{id:Nat}{a:List bZ}(h:id≠N)(b:id<Z M):
 (aX (aX M id U a7 dh x) N z oH mH a)[id]?=aa (.arr dh U (x.map a7)):=by
 grind[aX]
theorem ail(a:List bZ)(f:List K->bZ->List K)(d:List K)(id k:Nat)(j:K->List AV)(n:Nat)
 (r:id<Z M)(u:[.q id n 0 (Z d),I ((0:Nat):Int)]=bE)(t:aX M id k j n d=gC)
 (step:∀c(h:c<Z a)(i:List K)(e:Nat)(M:List Obj)(g:List AV->List Obj->Prop),id<Z M->i=(a.take c).foldl f d->(∀m l,id<Z l->g [.q id m 0 (Z (f i a[c])),I ((c+1:Nat):Int)] (aX l id k j m (f i a[c])))->kk [.q id e 0 (Z i),I c] (aX M id k j e i) g)
 (last:∀(e:Nat)(M:List Obj)(g:List AV->List Obj->Prop),id<Z M->kk [.q id e 0 (Z (a.foldl f d)),I (Z a)] (aX M id k j e (a.foldl f d)) g):jA kk bE gC:=by
 refine bG (λb=>[.q id b.2.1 0 (Z ((a.take b.1).foldl f d)),I b.1]) (λb=>aX b.2.2 id k j b.2.1 ((a.take b.1).foldl f d)) (λb=>Z a -b.1) (λb=>b.1<=Z a/\id<Z b.2.2) (0,n,M) ⟨by simp,r⟩ ?_ (by grind) (by grind);rintro⟨c,e,M⟩ ⟨v,o⟩ g s;by_cases h:c<Z a;refine step c h _ e M g o rfl λm l p=>?_;have:=s (c+1,m,l) ⟨h,p⟩ (by simp;omega);grind[mS];grind
def nH(a:List aG)(b:aG):List aG:=if b∈a then a else a++[b]
def wL(a:List aG)(b:S):List aG:=b.af.foldl nH a
def DJ(a:List S):List aG:=a.foldl wL []
def pY(a:List aG)(b:aJ):List aG:=if b.aE=[]then nH a b.const else a
def jQ(r:aD):List aJ:=r.af++(r.ah.map Lit.af).flatten
def yh(a:List aG)(r:aD):List aG:=(jQ r).foldl pY a
def gK(b:D)(a:List S):List aG:=b.ak.foldl yh (DJ a)
theorem aim(a:List aG)(b:aG):Z (nH a b)<=Z a+1:=by grind[nH]
theorem ain(b:S)(a:List aG):Z (wL a b)<=Z a+Z b.af:=by
 unfold wL;generalize b.af=c;induction c generalizing a with
 |nil=>simp
 |cons e c d=>grind[nH]
theorem aio(a:List aG)(b:aJ):Z (pY a b)<=Z a+1:=by
 grind[pY,aim]
theorem Uv(a:List aJ)(b:List aG):Z (a.foldl pY b)<=Z b+Z a:=by
 induction a generalizing b with
 |nil=>simp
 |cons d a c=>grind[aio]
theorem aip(r:aD)(a:List aG):Z (yh a r)<=Z a+Z (jQ r):=Uv _ _
theorem aiq(a:List aG)(b:List aG):Z (a.foldl nH b)<=Z b+Z a:=by
 induction a generalizing b with
 |nil=>simp
 |cons d a c=>grind[nH]
theorem KY(c:List aG->K->List aG)(d:Nat):∀(b:List K)(_:∀x∈b,∀a,Z (c a x)<=Z a+d)(a:List aG),Z (b.foldl c a)<=Z a+Z b*d
 |[],_,a=>by simp
 |x::b,h,a=>by
  have e:=h x (by simp) a;have f:=KY c d b (by grind) (c a x);grind[Nat.succ_mul]
theorem DK(g:K->List bZ)(b:Nat):∀(a:List K)(_:∀x∈a,Z (g x)<=b),Z ((a.map g).flatten)<=Z a*b
 |[],_=>by simp
 |x::a,h=>by
  have c:=h x (by simp);have d:=DK g b a (by grind);grind[Nat.succ_mul]
structure qP(p:D)(fs:List S):Prop where
 ak:Z p.ak<=10
 facts:Z fs<=60
 ah:∀r∈p.ak,Z r.ah<=5
 GO:∀r∈p.ak,Z r.af<=10
 vi:∀r∈p.ak,∀l∈r.ah,Z l.af<=10
 Uw:∀f∈fs,Z f.af<=6
variable{V:D}{X:List S}
theorem Ux(h:nG V X=ad):qP V X:=by
 simp only[nG,DI,bc,eL,gZ,decide_eq_false_iff_not,GN,decide_eq_true_eq]at h;let⟨⟨⟨⟨⟨a,b⟩,c⟩,d⟩,e⟩,f⟩:=h;exact⟨by omega,by omega,by grind,by grind,by grind,by grind⟩
theorem qP.Uy(h:qP V X){r:aD}(a:r∈V.ak):Z (jQ r)<=60:=by
 have b:=h.GO r a;have c:=DK Lit.af 10 r.ah (h.vi r a);have d:=h.ah r a;grind[jQ]
theorem qP.Uz(h:qP V X)(a:Nat):Z ((X.take a).foldl wL [])<=360:=by
 have:=KY wL 6 (X.take a) (λb e c=>by have:=ain b c;have:=h.Uw b (by grind);omega) [];have d:Z (X.take a)<=60:=by have:=h.facts;simp;omega
 grind
theorem qP.UA(h:qP V X)(a:Nat):Z ((V.ak.take a).foldl yh (DJ X))<=960:=by
 have:=KY yh 60 (V.ak.take a) (λr c b=>by have:=aip r b;have:=h.Uy (sI c);omega) (DJ X);have d:Z (V.ak.take a)<=10:=by have:=h.ak;simp;omega
 have e:=h.Uz (Z X);grind[DJ]
theorem UB(c:D)(p:List S)(o:qP c p):PR C 62 [.agg (cP T F c),eS c6 (cF bC) p] (eS ab cV (gK c p)):=by
 refine aej.pr ?_;simp only[eP,O,e3,ft,bj,aK,o4,e,a1,dK,eU,Oz,kD];refine wI p wL [] 1 3 cV (M:=[.arr 0 3 [],.arr 0 3 []]) 0 rfl (by simp[aX]) (λb s k r B I K=>?_) (λr B=>?_);have aE:=o.Uw _ (bp s);have ai:Z k<=360:=I▸o.Uz b;simp only[O,i,G,A,a,s,decide_true,aF s (fR _ _),bj,aK,u1,e,a1];refine a8 ?_
 refine wI p[b].af nH k 1 3 cV (M:=[.arr 0 3 [],.arr 0 3 []]) r rfl rfl (λf l j q E w n=>?_) (λq E=>?_);have P:Z j<=366:=by
  have:=aiq (p[b].af.take f) k;rw[<-w]at this;have:Z (p[b].af.take f)<=6:=by simp;omega
  omega
 simp only[O,i,G,A,a,l,decide_true,bw,aF l (sY _),u0];refine a8 (e4 _ (Us j _ (by unfold Sm;omega)) (.ck (o7 (n9 (by simp)) (by simp)) (.ck eu (.nil _))) (.bool _) ?_);simp only[bK,O];refine dw (λh=>?_) (λh=>?_);rw[GL,O];refine KU (by simp) (by omega) ?_;rw[a6,O];grind[nH];rw[a6,O];grind[nH];simp only[O,i,G,A,a,cn,decide_false];refine bz ?_;rw[a6 (by have:=o.facts;omega),O];exact K _
 simp only[O,i,G,A,a,cn,decide_false];refine bz ?_;refine ail c.ak yh (DJ p) 1 3 cV (M:=[.arr 0 3 [],.arr 0 3 []]) r (by simp) rfl rfl (λb s k r g B J I K=>?_) (λr g B J=>?_);have z:=bp s;have ai:Z k<=960:=I▸o.UA b;have a0:=o.GO _ z;have a2:=o.ah _ z;have R:=o.vi _ z;simp only[O,i,G,A,a,s,decide_true,aF s (mM _ _),bj,aK,wj,qH,e,a1]
 refine a8 (aY (pX (a7:=cT) (x:=c.ak[b].af) rfl (vh kq _ _ _) (by omega)) ?_);rw[KV _ _ _ _ (.arr 0 4 []),zB J,o6];have Y:1<Z (g++[Obj.arr 0 4 []]):=by simp;omega
 have Q:1≠Z g:=by omega
 refine wI c.ak[b].ah (λk d=>k++d.af) c.ak[b].af (Z g) 4 cT (M:=aX (g++[.arr 0 4 []]) 1 3 cV r k) 0 rfl rfl (λf l j q E w n=>?_) (λq E=>?_);have P:Z j<=60:=by
  have W:∀(d:List Lit)(m:List aJ),(∀t∈d,Z t.af<=10)->Z (d.foldl (λk d=>k++d.af) m)<=Z m+Z d*10:=by
   intro d;induction d with
   |nil=>intro m _;simp
   |cons t d L=>
    intro m U;have:=L (m++t.af) λaz ax=>U az (by simp[ax]);have:=U t (by simp);simp only[ni,kD,gy]at*;omega
  have:=W (c.ak[b].ah.take f) c.ak[b].af λt au=>R t (sI au);rw[<-w]at this;have:Z (c.ak[b].ah.take f)<=5:=by simp;omega
  omega
 have aR:=R _ (bp l);simp only[O,i,G,A,a,l,decide_true,aF l (jB _ _),bj,aK,s4,e];refine a8 (aif (by simp[o6]) kq (by omega) ?_);rw[a6,O];exact n _;simp only[O,i,G,A,a,cn,decide_false];refine bz ?_;have ac:∀(d:List Lit)(m:List aJ),d.foldl (λk d=>k++d.af) m=m++(d.map Lit.af).flatten:=by
  intro d;induction d with
  |nil=>intro m;simp
  |cons t d L=>intro m;simp[L]
 rw[ac];have am:c.ak[b].af++(c.ak[b].ah.map Lit.af).flatten=jQ c.ak[b]:=rfl;rw[am,wK Q];have aZ:=o.Uy z;generalize N:aX (g++[.arr 0 4 []]) (Z g) 4 cT q (jQ c.ak[b])=u;have X:u[Z g]?=aa (.arr q 4 ((jQ c.ak[b]).map cT)):=by rw[<-N];exact n9 (by simp)
 have H:1<Z u:=by rw[<-N,o6];exact Y
 refine wI (jQ c.ak[b]) pY k 1 3 cV (M:=u) r rfl rfl (λf l j x V w n=>?_) (λx V=>?_);have P:Z j<=1020:=by
  have:=Uv ((jQ c.ak[b]).take f) k;rw[<-w]at this;have:Z ((jQ c.ak[b]).take f)<=60:=by simp;omega
  omega
 have y:(aX u 1 3 cV x j)[Z g]?=aa (.arr q 4 ((jQ c.ak[b]).map cT)):=by
  simp only[aX];rw[vR Q];exact X
 have M:((jQ c.ak[b]).map cT)[f]?=aa (cT (jQ c.ak[b])[f]):=by simp[l]
 simp only[O,i,G,o0,A,a,l,decide_true,fu y l,o8 y,cY y M,rO,gT,bw,e,fW];have aj:aQ 3 ad (.ptr (Z g) q f 1) (aX u 1 3 cV x j)=aa (.agg (cV (jQ c.ak[b])[f].const)):=by
  simp only[aQ,wc,y,if_true,M,kd];rfl
 refine a8 (aW (λh=>?_) (λh=>bz ?_));rw[aj,O];refine e4 _ (Us j _ (by unfold Sm;omega)) (.ck (o7 (n9 H) (by simp)) (.ck eu (.nil _))) (.bool _) ?_;simp only[bK,O];refine dw (λv=>?_) (λv=>?_);rw[GL,O];refine KU H (by omega) ?_;rw[a6,O];have:pY j (jQ c.ak[b])[f]=j++[(jQ c.ak[b])[f].const]:=by simp at h v;simp[pY,nH,h,v]
 rw[this]at n;exact n _;rw[a6,O];have:pY j (jQ c.ak[b])[f]=j:=by simp at h v;simp[pY,nH,h,v]
 rw[this]at n;exact n _;rw[a6,O];have:pY j (jQ c.ak[b])[f]=j:=by simp at h;simp[pY,h]
 rw[this]at n;exact n _;simp only[O,i,G,o0,A,a,cn,decide_false];refine bz ?_;rw[a6 (by have:=o.ak;omega),O];exact K x u H;simp only[O,i,G,A,a,cn,decide_false];exact bz (DF J (by simp))
def lQ(b c:Int):Nat->Int->Int
 |0,a=>a
 |k+1,a=>if a<=c then lQ b c k (a*b)else a
def kK(a:D)(b:List S)(c:Int):Bool:=nG a b&&a.ak.all λr=> !y (c<lQ (Z (gK a b)) c (Z (fB r)) 1)
theorem qP.flat(h:qP V X){r:aD}(a:r∈V.ak):Z (r.ah.map Lit.af++[r.af]).flatten<=60:=by
 have b:=h.GO r a;have c:=DK Lit.af 10 r.ah (h.vi r a);have d:=h.ah r a;grind
theorem UC(r:aD):Z (fB r)<=Z (r.ah.map Lit.af++[r.af]).flatten:=by
 have:=Ur (r.ah.map Lit.af++[r.af]) [];simpa[fB]using this
theorem air(d:D)(n:List S)(g:Int)(aj:0<=g/\g<=1000000)(t:eI d)(N:Sm n):PR C 22 [.agg (cP T F d),eS c6 (cF bC) n,I g] (.bool (kK d n g)):=by
 refine aec.pr ?_;simp only[eP,O,bj,aK,gS,o4,e,a1];refine c (aik d n t N) ?_;simp only[bK,O];refine dw (by simp_all[kK]) (λh=>?_);have u:=Ux h;refine c (UB d n u) ?_;simp only[a1,O];have M:(Z (gK d n):Int)<=960:=by
  have:=u.UA (Z d.ak);rw[dU]at this;unfold gK;omega
 rw[kK,h,cZ];generalize Y:(Z (gK d n):Int)=k at*;have x:0<=k:=by omega
 refine eC (U:=Z d.ak) (c:=λf=>[ff,I f]) (λf=>(d.ak.take f).all (λr=> !y (g<lQ k g (Z (fB r)) 1))=ad) (by simp) rfl (λf o q v ah=>?_) (λq v=>?_);have z:=bp o;have ac:=u.flat z;have au:=UC d.ak[f];simp only[O,i,G,A,a,o,decide_true,aF o (mM _ _),nA];refine a8 ?_
 refine bG (K:=Nat×Int) (λj=>[I j.2,I j.1]) (λ_=>[]) (λj=>Z (fB d.ak[f]) -j.1) (λj=>j.1<=Z (fB d.ak[f])/\0<=j.2/\j.2<=960000000/\lQ k g (Z (fB d.ak[f])) 1=lQ k g (Z (fB d.ak[f]) -j.1) j.2) (0,1) (by grind) ?_;rintro⟨l,m⟩ ⟨H,w,J,p⟩ X B;simp only at H w J p B⊢
 have out:lQ k g (Z (fB d.ak[f])) 1=m->bd (aT .s .gtr (I m) (I g)) λU=>ez U (aM [] .res (AV.pl ff) (.bool (d.ak.all λr=> !y (g<lQ k g (Z (fB r)) 1)))) (bd (aT .s .add (I f) (I 1)) λV=>v [ff,V] []):=by
  intro E;simp only[eX,O];refine b (λh=>bJ ?_) (λh=>?_);grind;rw[t.ak.inc o,O];grind[n5]
 refine eb (M:=[]) (y (l<Z (fB d.ak[f]))&&y (m<=g)) (λax ai=>?_) ?_;refine c (Ut _ (t.iS _ z) (by grind[Sm])) ?_;simp only[i,G,a1,O,A,la,a];exact aW (by grind) (by grind);simp only[G,i];refine b (λh=>?_) (λh=>?_);simp only[bc,decide_eq_true_eq]at h;obtain⟨K,L⟩:=h;have am:m*k<=1000000*960:=Int.mul_le_mul (by omega) M x (by omega);have R:0<=m*k:=Int.mul_nonneg w x
 rw[QF (by omega) (by omega),O,a6,O];refine B (l+1,m*k) ⟨K,R,by omega,?_⟩ (by simp;omega);rw[p,show Z (fB d.ak[f]) -l=(Z (fB d.ak[f]) -(l+1))+1 by omega,lQ,if_pos L];refine out ?_;rw[p];rcases aaI l (Z (fB d.ak[f]))with Q|af;have:¬m<=g:=by
  intro P;simp[Q,P]at h
 rw[show Z (fB d.ak[f]) -l=(Z (fB d.ak[f]) -(l+1))+1 by omega,lQ,if_neg this];rw[show Z (fB d.ak[f]) -l=0 by omega,lQ];rw[dU]at q;simp only[O,i,G,A,a,cn,decide_false];exact bz (jj q)
theorem KZ(c:D)(j:d)(o:eI c):PR C 195 [.agg (cP T F c),.str j] (I (b1 (λl=>l.au==j) c.aw)):=by
 apply aeo.pr;simp only[eP,O,bj,aK,rP,e,a1];refine eC (U:=Z c.aw) (c:=λg=>[I 0,I g]) (λg=>∀k(q:k<Z c.aw),k<g->(c.aw[k].au==j)=ab) (by simp) rfl (λg f m n r=>?_) (λm n=>?_);simp only[O,i,G,A,a,f,decide_true,aF f (kH _ _),bj,aK];refine a8 (b (λh=>?_) (λh=>?_));simp[tX (ea:=λl:bP=>l.au==j) f m h];rw[o.aw.inc f,O];grind;simp only[O,i,G,A,a,cn,decide_false];exact bz (by simp_all[wq])
theorem UD(c:D)(j:d)(o:eI c):PR C 197 [.agg (cP T F c),.str j] (I (b1 (λl=>l.au==j) c.aO)):=by
 apply aeY.pr;simp only[eP,O,bj,aK,wk,e,a1];refine eC (U:=Z c.aO) (c:=λg=>[I 0,I g]) (λg=>∀k(q:k<Z c.aO),k<g->(c.aO[k].au==j)=ab) (by simp) rfl (λg f m n r=>?_) (λm n=>?_);simp only[O,i,G,A,a,f,decide_true,aF f (sZ _ _),bj,aK];refine a8 (b (λh=>?_) (λh=>?_));simp[tX (ea:=λl:Fn=>l.au==j) f m h];rw[o.aO.inc f,O];grind;simp only[O,i,G,A,a,cn,decide_false];exact bz (by simp_all[wq])
theorem K0(c:D)(j:d)(o:eI c):PR C 198 [.agg (cP T F c),.str j] (I (b1 (λl=>l.au==j) c.Q)):=by
 apply age.pr;simp only[eP,O,bj,aK,kt,e,a1];refine eC (U:=Z c.Q) (c:=λg=>[I 0,I g]) (λg=>∀k(q:k<Z c.Q),k<g->(c.Q[k].au==j)=ab) (by simp) rfl (λg f m n r=>?_) (λm n=>?_);simp only[O,i,G,A,a,f,decide_true,aF f (jg _ _),bj,aK];refine a8 (b (λh=>?_) (λh=>?_));simp[tX (ea:=λl:cO=>l.au==j) f m h];rw[o.Q.inc f,O];grind;simp only[O,i,G,A,a,cn,decide_false];exact bz (by simp_all[wq])
theorem GP(b:bP)(a:Int):PR C 205 [.agg (bo T b),I a] (.bool (y (0<=a)&&y (a<Z b.az))):=by
 apply afS.pr;simp only[mN,O,bj,aK,o3,e,a1,h0,A,bw,G];exact aW (by simp_all) (by grind[bJ])
def known(bound:List d)(a:aJ):Bool:=a.aE==[]||y (a.aE∈bound)
def j1(bound:List d)(a:Lit):Bool:=
 if(a.ax==1||a.ax==3)=ad then ad else
 if(a.ax==5&&a.op==1&&(Z a.af:Int)==2)=ad then a.af.any (known bound)else a.af.all (known bound)
theorem GQ(bound:List d)(a:aJ)(b:Sm bound):PR C 176 [eS T cS bound,.agg (cT a)] (.bool (known bound a)):=by
 apply afO.pr;simp only[zp,O,bj,aK,rO,e,gT,bw,G];exact ei (λh=>c (GM _ _ b) (by simp_all[known])) (by simp_all[known])
theorem UE:∀{a:List K}(_:Z a=2)(b:0<Z a)(c:1<Z a),a.any ea=(ea a[0]||ea a[1])
 |[d,e],_,_,_=>by simp
theorem ais(bound:List d)(f:Lit)(l:Sm bound)(p:u5 f):PR C 229 [eS T cS bound,.agg (bg F f)] (.bool (j1 bound f)):=by
 apply agi.pr;simp only[rN,O,bj,aK,tW,s4,Di,e,di,a1];refine eb (M:=[]) (f.ax==1||f.ax==3) (λy g=>ei (λh=>kB g (by rw[h]<;>rfl)) (λh=>kB g (by rw[h]<;>rfl))) ?_;simp only[G];refine b (λh=>jj (by rw[j1,if_pos h])) (λh=>?_);rw[j1,if_neg (by grind)]
 refine eb (M:=[]) (f.ax==5&&f.op==1&&(Z f.af:Int)==2) (λy g=>aW (λh=>aW (λk=>kB g (by rw[h,k]<;>rfl)) (λk=>kB g (by rw[h,k]<;>rfl))) (λh=>kB g (by rw[h]<;>rfl))) ?_;simp only[G];refine b (λh=>?_) (λh=>?_);rw[if_pos h];have u:Z f.af=2:=by
  simp only[bc,beq_iff_eq]at h;omega
 have n:0<Z f.af:=by omega
 have o:1<Z f.af:=by omega
 have t:f.af.any (known bound)=(known bound f.af[0]||known bound f.af[1]):=UE u n o;rw[t];have e0:=aF (T:=F) (a7:=cT) (x:=f.af) (U:=0) (M:=[]) n (kq _);have m:=aF (T:=F) (a7:=cT) (x:=f.af) (U:=1) (M:=[]) o (kq _);simp only[arD]at e0 m;simp only[e0,m,O,lL,bw,G];refine c (GQ _ _ l) (ei (λh=>?_) (λh=>jj (by rw[h]<;>rfl)));exact c (GQ _ _ l) (iT (by rw[h]<;>rfl));rw[if_neg (by grind)]
 refine Br (ea:=known bound) (Q:=λB q=>aM q .res B (.bool (f.af.all (known bound)))) p (λE D=>⟨λh x v=>?_,λh w=>?_⟩) (λh=>jj h) (λh=>bJ h);simp only[O,i,G,A,a,h,decide_true,aF h (kq _),lL];refine a8 (c (GQ _ _ l) ?_);simp only[bK,O];refine dw v (λs=>?_);rw[Sm.inc p h,O];exact x s;simp only[O,i,G,A,a];exact bz w (by simp;omega)
def HR(C:fq)(c:Nat)(args:List AV)(b:List Obj)(Q:AV->List Obj->Prop):Prop:=∃r a,C c args b r a/\Q r a
theorem c7{args:List AV}{Q:AV->List Obj->Prop}(h:HR C U args M Q)(d:args.map AV.pl=args)(e:∀r a,Q r a->iy r a):ch C U args M iy:=by
 let⟨r,a,b,c⟩:=h;exact⟨r,a,d.symm▸b,e _ _ c⟩
def UF(e:List Obj)(id:Nat)(b:List d)(r:AV)(c:List Obj):Prop:=∃a f,r=.q id a 0 (Z b)/\c=aX (e++f) id 1 cS a b
theorem UG{id:Nat}(a:List d)(c:d)(h:id<Z M)(i:Z a<1099511627776):
 HR C 231 [.q id U 0 (Z a),.str c] (aX M id 1 cS U a) (UF M id (ej a c)):=by
 apply agk.hq;simp only[ft,e3,zB h];have f:id<Z (M++[Obj.arr 0 1 []]):=by simp;omega
 apply e4 _ (GM a c i) (.ck (o7 (n9 f) (by simp)) (.ck (.str _ _) (.nil _))) (.bool _);refine eb (M:=aX (M++[Obj.arr 0 1 []]) id 1 cS U a) (c==[]||y (c∈a)) (λk g=>?_) ?_;simp only[gT,O];exact ei (λh=>kB g (by rw[h]<;>rfl)) (λh=>kB g (by rw[h]<;>rfl));simp only[G];refine b (λe=>?_) (λe=>?_);refine⟨U,[.arr 0 1 []],?_,?_⟩<;>rw[show ej a c=a by simp at e;simp[ej,e]]
 rfl;rw[DG,O];refine Un f i ⟨U+1,[.arr 0 1 []],?_,?_⟩<;>rw[show ej a c=a++[c]by simp at e;simp[ej,e]]
 rfl
theorem ait(J:List Obj->Prop)(a:List bZ)(f:List K->bZ->List K)(d:List K)(id k:Nat)(j:K->List AV)(n:Nat)
 (r:J M)(v:[.q id n 0 (Z d),I ((0:Nat):Int)]=bE)(u:aX M id k j n d=gC)
 (step:∀c(h:c<Z a)(i:List K)(e:Nat)(M:List Obj)(g:List AV->List Obj->Prop),J M->i=(a.take c).foldl f d->(∀m l,J l->g [.q id m 0 (Z (f i a[c])),I ((c+1:Nat):Int)] (aX l id k j m (f i a[c])))->kk [.q id e 0 (Z i),I c] (aX M id k j e i) g)
 (last:∀(e:Nat)(M:List Obj)(g:List AV->List Obj->Prop),J M->kk [.q id e 0 (Z (a.foldl f d)),I (Z a)] (aX M id k j e (a.foldl f d)) g):jA kk bE gC:=by
 refine bG (K:=Nat×Nat×List Obj) (λb=>[.q id b.2.1 0 (Z ((a.take b.1).foldl f d)),I b.1]) (λb=>aX b.2.2 id k j b.2.1 ((a.take b.1).foldl f d)) (λb=>Z a -b.1) (λb=>b.1<=Z a/\J b.2.2) (0,n,M) ⟨by simp,r⟩ ?_ (by grind) (by grind);rintro⟨c,e,M⟩ ⟨t,o⟩ g p;simp only at t o p⊢;by_cases h:c<Z a;refine step c h _ e M g o rfl λm l s=>?_;have:=p (c+1,m,l) ⟨h,s⟩ (by simp;omega);grind[mS];grind
theorem UH{id:Nat}(b:List d)(c:Lit)(h:id<Z M)(z:Z b+Z c.af<1099511627776):
 HR C 230 [.q id U 0 (Z b),.agg (bg T c)] (aX M id 1 cS U b) (UF M id (c8 b c.af)):=by
 apply agj.hq;simp only[rN,O,ft,e3,zB h,bj,aK,s4,e,a1];refine ait (λg=>∃f,g=M++f) c.af (λj u=>ej j u.aE) b id 1 cS (M:=M++[.arr 0 1 []]) U ⟨_,rfl⟩ rfl rfl (λt n j l g o k p y=>?_) (λl g o k=>?_);obtain⟨f,rfl⟩:=k;have m:=zz (c.af.take t) b;simp only[c8]at m;rw[<-p,hW]at m;simp only[O,i,G,A,a,n,decide_true,aF n (kq _),bj,aK];refine a8 (c7 (UG j _ (by simp;omega) (by omega)) rfl λr v s=>?_)
 obtain⟨x,w,rfl,rfl⟩:=s;rw[a6,O];grind;obtain⟨f,rfl⟩:=k;simp only[O,i,G,A,a,cn,decide_false];exact bz ⟨l,f,rfl,rfl⟩
theorem aiu(a b c d i j g e f k:Bool)(h:(a&&f&&e&&d&&b&&c)=ab):(a&&b&&c&&d&&i&&j&&g&&e&&(f&&k))=false:=by
 grind
theorem aiv(a b c d e f g i j k:Bool)(h:(a&&j&&i&&d&&b&&c)=ad):(a&&b&&c&&d&&e&&f&&g&&i&&(j&&k))=(e&&(f&&g)&&k):=by
 grind
theorem KX(r:aD)(d:pT r):PR C 193 [.agg (aS T r)] (.bool (nF r)):=by
 apply afR.pr;have j:nF r=(!y (r.ba<0)&& !y (r.aj.ax<0)&& !y (3<r.aj.ax)&&(r.au==[]||bY r.au)&&(!(r.au==[])|| !(y (0<(Z r.af:Int))|| !(r.aj.ax==0)))&&
  (if(r.aj.ax==1||r.aj.ax==3)=ad then bY r.aj.au else r.aj.au==[])&&(if(r.aj.ax==2||r.aj.ax==3)=ad then isVar r.aj.aE else r.aj.aE==[])&&
  eQ 4 iJ r.af&&(!y (8<(Z r.ah:Int))&&r.ah.all n4)):=by
  rw[<-lP,<-lP,<-lP,<-lP]<;>rfl
 generalize nF r=v at*;simp only[o2,O,bj,aK,Kb,wj,F7,QE,F8,qH,Bd,e,fW,Nat.reduceAdd,a1,A,eX,di,cx,gT,jD];refine eb (M:=[]) (!(!y (r.ba<0)&& !y (8<(Z r.ah:Int))&&eQ 4 iJ r.af&&(r.au==[]||bY r.au)&& !y (r.aj.ax<0)&& !y (3<r.aj.ax))) (λm k=>?_) ?_;refine dV (by grind) (λw=>dV (by grind) (λg=>c (Ud _ d.1) ?_));simp only[bK,O];refine h7 (λx=>c (Ue _ _) ?_) (by grind);simp only[bK,O,cZ]
 refine h7 (λz=>?_) (by grind);exact dV (by grind) (λB=>kB k (by grind));simp only[G];refine dw (by grind[bJ,aiu]) (λh=>?_);rw[aiv _ _ _ _ _ _ _ _ _ _ h]at j;clear h;apply eb (M:=[]) (r.aj.ax==1||r.aj.ax==3) (by grind[ei]);apply eb (M:=[]) (r.aj.ax==2||r.aj.ax==3) (by grind[ei]);generalize(r.aj.ax==1||r.aj.ax==3)=l at*;generalize(r.aj.ax==2||r.aj.ax==3)=f at*;simp only[G,bK,O]
 refine eb (M:=[]) (!((if l=ad then bY r.aj.au else r.aj.au==[])&&(if f=ad then isVar r.aj.aE else r.aj.aE==[]))) (λm k=>?_) ?_;cases l<;>cases f
 refine aW (by grind) (λ_=>aW (λ_=>h7 (by grind[aW]) (by grind)) (by grind));refine aW (by grind) (λ_=>aW (λ_=>h7 (λh=>aW (λ_=>c (Gy _) ?_) (by grind)) (by grind)) (by grind));simp only[bK,O];exact h7 (by grind[aW]) (by grind);refine aW (λ_=>c (s5 _) ?_) (by grind);simp only[bK,O];exact h7 (by grind[aW]) (by grind);refine aW (λ_=>c (s5 _) ?_) (by grind);simp only[bK,O]
 refine h7 (λh=>aW (by grind) (λ_=>aW (λ_=>c (Gy _) ?_) (by grind))) (by grind);simp only[bK,O];exact h7 (by grind[aW]) (by grind);generalize((if l=ad then bY r.aj.au else r.aj.au==[])&&(if f=ad then isVar r.aj.aE else r.aj.aE==[]))=W at*;simp only[G];refine dw (by simp_all) (λh=>?_);refine eb (M:=[]) (!(!(r.au==[])|| !(y (0<(Z r.af:Int))|| !(r.aj.ax==0)))) (λm k=>?_) ?_
 refine aW (λh=>dV (by grind) (λg=>by simp_all[bne])) (by grind);simp only[G];refine dw (by simp_all) (λg=>?_);rw[h,g,cZ,cZ]at j;rw[j];refine Br (Q:=λt n=>aM n .res t (.bool (r.ah.all n4))) d.2.1 (λD u=>⟨λh s p=>?_,λh q=>?_⟩) (λh=>jj h) (λh=>bJ h);simp only[O,i,G,A,a,h,decide_true,aF h (jB _ _),o1];refine a8 (c (ahT _ (d.2.2 _ (bp h))) ?_);simp only[bK,O];refine dw p (λo=>?_);rw[d.2.1.inc h,O]
 exact s o;simp only[O,i,G,A,a];exact bz q (by simp;omega)
theorem h8{id:Nat}(h:M[id]?=aa (.arr N U (x.map a7)))(b:∀a∈x,bS (a7 a)):aM M .res (.q id N 0 (Z x)) (eS ab a7 x):=by
 refine .pE id N 0 (Z x) U (x.map a7) _ h (by simp) ?_;rw[ll,gP (by simp)];have:pQ (x.map a7):=by
  clear h;induction x with
  |nil=>exact .nil
  |cons a x c=>exact .cons _ _ (b a (by simp)) (by grind)
 exact this.snap
theorem Bu{id:Nat}(h:M[id]?=aa (.arr U N b0))(b:b0[z]?=aa [E])(c:dQ.pl.cells=[dQ])(a:dQ.bU=ad):dp 1 (.ptr id U z 0) dQ M=aa (M.set id (.arr U N (b0.set z [dQ]))):=by
 grind[dp,eV]
theorem rY{bytes:Nat}(h:N*bytes<=2^47)(a:N<2^47):uW U bE bytes (I N) (I N) M=aa (.q (Z M) 0 0 N,M++[.arr 0 U (db N bE)]):=by
 grind[uW]
theorem aiw(a:List d)(b:List Obj)(c:Z a<1099511627776):C 228 [eS T cS a] b (.q (Z b+1) 0 0 (Z a)) (b++[.arr 0 1 [],.arr 0 1 (a.map cS)]):=by
 apply adZ.hr;simp only[ft,e3];apply aY (pX rfl (vh iR _ _ _) (by omega));simp
def gw(r:aD):List d:=r.ah.foldl (λa b=>c8 a b.af) []
def oa(a:List d)(b:Lit):List d:=if(b.ax==1)=ad then ej a b.bind else a
def jk(r:aD):List d:=r.ah.foldl oa []
theorem GR:∀(b:List Lit)(a:List d),Z (b.foldl (λa b=>c8 a b.af) a)<=Z a+Z (b.map Lit.af).flatten
 |[],a=>by simp
 |x::b,a=>by
  have c:=zz x.af a;have e:=GR b (c8 a x.af);grind
theorem aix(a:List d)(b:Lit):Z (oa a b)<=Z a+1:=by
 grind[oa,Uq]
theorem GS:∀(b:List Lit)(a:List d),Z (b.foldl oa a)<=Z a+Z b
 |[],a=>by simp
 |x::b,a=>by
  have c:=aix a x;have e:=GS b (oa a x);grind
def lR(r:aD):Prop:=Z r.ah<=100/\Z (r.ah.map Lit.af).flatten<=1000/\Z r.af<=100/\∀a∈r.ah,Z a.af<=1000
theorem lR.take{r:aD}(h:lR r)(a:Nat):Z ((r.ah.take a).map Lit.af).flatten<=1000:=by
 have b:Z (r.ah.map Lit.af).flatten=Z ((r.ah.take a).map Lit.af).flatten+Z ((r.ah.drop a).map Lit.af).flatten:=by
  rw[<-gy,<-xp,<-hE,vO]
 have:=h.2.1;omega
theorem K1(r:aD)(m:lR r):PR C 175 [.agg (aS T r)] (.aB [eS ab cS (gw r),eS ab cS (jk r)]):=by
 apply afl.pr;simp only[o2,O,e3,ft,bj,aK,qH,e,a1,dK,eU,hD,kD]
 apply bG (λc=>[.q 2 c.2.1 0 (Z ((r.ah.take c.1).foldl (λf g=>c8 f g.af) [])),.q 3 c.2.2.1 0 (Z ((r.ah.take c.1).foldl oa [])),I c.1]) (λc=>aX (aX c.2.2.2 3 1 cS c.2.2.1 ((r.ah.take c.1).foldl oa [])) 2 1 cS c.2.1 ((r.ah.take c.1).foldl (λf g=>c8 f g.af) [])) (λc=>Z r.ah -c.1) (λc=>c.1<=Z r.ah/\3<Z c.2.2.2) (0,0,0,[.arr 0 1 [],.arr 0 1 [],.arr 0 1 [],.arr 0 1 []]) ⟨by simp,by simp⟩
 rintro⟨d,n,o,k⟩ ⟨x,j⟩ E p;simp only at x j p⊢;by_cases h:d<Z r.ah;have y:=GR (r.ah.take d) [];have z:=GS (r.ah.take d) [];have N:=m.take d;have M:=m.2.2.2 _ (bp h);have K:=m.1;simp only[eU,e,hW]at y z;have B:=λn o k j=>p (d+1,n,o,k) ⟨h,j⟩ (by simp;omega);simp only[mS h]at B;generalize(r.ah.take d).foldl (λf g=>c8 f g.af) []=s at*;generalize(r.ah.take d).foldl oa []=t at*
 simp only[O,i,G,A,a,h,decide_true,aF h (jB _ _),o1,bj,aK,tW,F5,di,bw,e];refine a8 (c7 (UH s r.ah[d] (by rw[o6];omega) (by omega)) rfl λD u l=>?_);obtain⟨H,v,rfl,rfl⟩:=l;rw[zB j];have L:3<Z (k++v):=by simp;omega
 refine b (λw=>?_) (λw=>?_);rw[wK (by decide)];refine c7 (UG t _ (by rw[o6];omega) (by omega)) rfl λD u l=>?_;obtain⟨J,F,rfl,rfl⟩:=l;rw[zB (by omega),wK (by decide),a6,O];grind[oa];rw[a6,O];grind[oa];have:d=Z r.ah:=by omega
 subst this;simp only[O,i,G,A,a,cn,decide_false,dU];refine bz (.aB _ _ _ (.ck (h8 (n9 (by rw[o6];omega)) (by simp)) (.ck (h8 (U:=1) ?_ (by simp)) (.nil _))));grind[wK,n9,o6]
def nI(b:List Lit)(out:List Nat)(bound:List d)(a:Nat):Bool:= !y (a∈out)&&(match b[a]? with|aa c=>j1 bound c|ae=>ab)
def yi(a:List Lit)(out:List Nat)(bound:List d):Option Nat:=(ay (Z a)).find? (nI a out bound)
def zC(a:List Lit)(b:Nat):List aJ:=(a[b]?.map Lit.af).getD []
def oc(a:List Lit):Nat->List Nat->List d->Option (List Nat)
 |0,out,_=>aa out
 |n+1,out,bound=>match yi a out bound with|ae=>ae|aa b=>oc a n (out++[b]) (c8 bound (zC a b))
def ord(a:List Lit)(bound:List d):Option (List Nat):=oc a (Z a) [] bound
def cN(a:Nat):List AV:=[I (a:Int)]
@[simp] theorem UI(a:Nat):bS (cN a):=by simp[cN]
@[simp] theorem aui(a:Bool)(b:List Nat):Im (eS a cN b):=ny UI a b
@[simp] theorem K2(a:Nat):Z (cN a)=1:=rfl
@[simp] theorem GU(a:Nat):(cN a)[0]?=aa (I (a:Int)):=rfl
def pZ(a:Option (List Nat)):AV:=match a with|aa a=>.aB [eS ab cN a,I 0]|ae=>.aB [eS ab cN [],I 80]
theorem Bv(a:Nat):fQ 1 [(I 0)] 1 [(0,I (a:Int))]=aa (.sl ab [cN a]):=rfl
theorem UJ(f:Nat)(e:Nat->Bool)(m:[I (-1),I ((0:Nat):Int)]=bE)
 (step:∀a(d:List AV->List Obj->Prop),a<f->(e a=ad->d [I (a:Int),I ((a+1:Nat):Int)] M)->(e a=ab->d [I (-1),I ((a+1:Nat):Int)] M)->kk [I (-1),I a] M d)
 (done:∀a(d:List AV->List Obj->Prop),a<f->e a=ad->(∀c,c<a->e c=ab)->kk [I (a:Int),I ((a+1:Nat):Int)] M d)
 (ae:(∀c,c<f->e c=ab)->∀d:List AV->List Obj->Prop,kk [I (-1),I f] M d):jA kk bE M:=by
 refine bG (K:=Nat×Bool) (λb=>if b.2=ad then[I ((b.1 -1:Nat):Int),I b.1]else[I (-1),I b.1]) (λ_=>M) (λb=>if b.2=ad then 0 else f+1 -b.1) (λb=>b.1<=f/\(b.2=ad->0<b.1/\e (b.1 -1)=ad/\∀c,c<b.1 -1->e c=ab)/\(b.2=ab->∀c,c<b.1->e c=ab)) (0,ab) ⟨by omega,by simp,by simp⟩ ?_ (by simpa using m) rfl;rintro⟨a,l⟩ ⟨n,j,g⟩ d i;simp only at n j g i⊢;rcases l with _|_;have g:=g rfl;by_cases h:a<f
 refine step a d h (λo=>?_) (λo=>?_);have:=i (a+1,ad) (by grind) (by simp;omega);grind;have:=i (a+1,ab) (by grind) (by simp;omega);grind;grind;let⟨p,q,r⟩:=j rfl;obtain⟨k,rfl⟩:∃k,a=k+1:=⟨a -1,by omega⟩;grind
variable{lq:List Lit}
theorem UK{out:List Nat}{bound:List d}(h:U<Z lq)(c:nI lq out bound U=ad)(b:∀a,a<U->nI lq out bound a=ab):yi lq out bound=aa U:=by
 simp_all[yi]
theorem UL{out:List Nat}{bound:List d}(b:∀a,a<Z lq->nI lq out bound a=ab):yi lq out bound=none:=by
 grind[yi]
def fT(b:Nat)(out:List Nat):List Bool:=(ay b).map λa=>y (a∈out)
theorem UM(a:Nat):fT a []=db a false:=by
 apply ql<;>simp[fT]
theorem GV{out:List Nat}(h:N<U):((fT U out).map cB)[N]?=aa [.bool (y (N∈out))]:=by
 simp[fT,h,cB]
theorem UN{out:List Nat}:((fT U out).map cB).set N [tt]=(fT U (out++[N])).map cB:=by
 apply ql;simp[fT];grind[fT,cB,absurd]
theorem aiy(r:aD)(bound:List d)(x:lR r)(V:Z bound<=1000):PR C 174 [.agg (aS T r),eS F cS bound] (pZ (ord r.ah bound)):=by
 apply agb.pr;simp only[o2,O,e3,ft,dK,eU];apply qJ _ (aiw bound _ (by omega));have a3:=x.1;simp only[bj,aK,qH,e,O,a1];apply aY (rY (by omega) (by omega));simp only[hD,dK,kD,eU,e,Nat.reduceAdd];have Y:db (Z r.ah) [ff]=(fT (Z r.ah) []).map cB:=by rw[UM];simp[cB]
 rw[Y]
 apply bG (K:=List Nat×List d×Nat×Nat×List Obj) (λc=>[.q 0 0 0 0,I 0,.q 2 c.2.2.1 0 (Z c.2.1),.q 4 c.2.2.2.1 0 (Z c.1)]) (λc=>aX (aX (aX c.2.2.2.2 2 1 cS c.2.2.1 c.2.1) 3 1 cB 0 (fT (Z r.ah) c.1)) 4 1 cN c.2.2.2.1 c.1) (λc=>Z r.ah -(Z c.1)) (λc=>Z c.1<=Z r.ah/\5<=Z c.2.2.2.2/\Z c.2.1<=1000+Z c.1*1000/\ord r.ah bound=oc r.ah (Z r.ah -(Z c.1)) c.1 c.2.1) ([],bound,0,0,[.arr 0 1 [],.arr 0 1 [],.arr 0 1 [],.arr 0 1 [],.arr 0 1 []]) ⟨by simp,by simp,by simpa using V,by simp[ord]⟩
 rintro⟨out,g,k,m,l⟩ ⟨ac,X,p,n⟩ L K;simp only at ac X p n K⊢;simp only[i,G,o0,O,A,a];refine b (λh=>?_) (λh=>?_);have h:Z out<Z r.ah:=by simpa using h
 rw[show Z r.ah -(Z out)=(Z r.ah -(Z out+1))+1 by omega,oc]at n;have o:(aX (aX (aX l 2 1 cS k g) 3 1 cB 0 (fT (Z r.ah) out)) 4 1 cN m out)[3]?=aa (.arr 0 1 ((fT (Z r.ah) out).map cB)):=by grind[Uu,o6]
 have B:(aX (aX (aX l 2 1 cS k g) 3 1 cB 0 (fT (Z r.ah) out)) 4 1 cN m out)[2]?=aa (.arr k 1 (g.map cS)):=by
  have:(aX (aX (aX l 2 1 cS k g) 3 1 cB 0 (fT (Z r.ah) out)) 4 1 cN m out)[2]?=(aX (aX l 2 1 cS k g) 3 1 cB 0 (fT (Z r.ah) out))[2]?:=by simp[aX]
  rw[this];exact Uu (by decide) (by omega)
 generalize U:aX (aX (aX l 2 1 cS k g) 3 1 cB 0 (fT (Z r.ah) out)) 4 1 cN m out=s at B o⊢;refine UJ (Z r.ah) (nI r.ah out g) rfl (λf z j J p=>?_) (λf z j ai w=>?_) (λw z=>?_);simp only[bw,O,i,G,A,a,j,decide_true];refine aW (λ_=>a8 ?_) (λh=>by cases h);simp only[fu o j,O,cY o (GV j),de,bK,aF j (jB _ _),o1];have W:nI r.ah out g f=(!y (f∈out)&&j1 g r.ah[f]):=by
  rw[nI,bu j]
 rw[W]at J p;refine aW (λt=>e4 _ (ais g r.ah[f] (by unfold Sm;omega) (by have:=x.2.2.2 _ (bp j);unfold u5 Sm;omega)) (.ck (o7 B (by simp)) (.ck eu (.nil _))) (.bool _) ?_) (λt=>bz ?_);refine b (λu=>?_) (λu=>?_);rw[a6,O];exact J (by rw[t,u]<;>rfl);rw[a6,O];exact p (by rw[t,u]<;>rfl);rw[a6,O];exact p (by rw[t]<;>rfl);have D:y ((f:Int)<0)=false:=by simp
 have H:ez (.bool (y ((f:Int)<0))) (cj (aa (AV.q (Z s) 0 0 0,s++[.arr 0 1 []])) λau Q=>aM Q .res (.aB [au.pl,(I 80).pl]) (pZ (ord r.ah bound)))
  (bd (bT 1 (.q 3 0 0 (Z r.ah)) (I f) s) λax=>bd (dp 1 ax tt s) λv=>bd (bT 9 (eS T (bg T) r.ah) (I f) v) λaz=>bd (aQ 9 ad az v) λaA=>ch C 230 [.q 2 k 0 (Z g),aA] v λaE R=>bd (fQ 1 [I 0] 1 [(0,I f)]) λaR=>cj (cJ 1 8 (.q 4 m 0 (Z out)) aR R) λaZ S=>L [.q 0 0 0 0,I 0,aE,aZ] S):=by
  refine bz ?_ D;rw[fu o j,O,Bu o (GV j) rfl rfl,O,UN,<-U];have ak:(aX (aX (aX l 2 1 cS k g) 3 1 cB 0 (fT (Z r.ah) out)) 4 1 cN m out).set 3 (.arr 0 1 ((fT (Z r.ah) (out++[f])).map cB))=aX (aX (aX l 3 1 cB 0 (fT (Z r.ah) (out++[f]))) 4 1 cN m out) 2 1 cS k g:=by
   rw[show(aX (aX (aX l 2 1 cS k g) 3 1 cB 0 (fT (Z r.ah) out)) 4 1 cN m out).set 3 (.arr 0 1 ((fT (Z r.ah) (out++[f])).map cB))=aX (aX (aX (aX l 2 1 cS k g) 3 1 cB 0 (fT (Z r.ah) out)) 4 1 cN m out) 3 1 cB 0 (fT (Z r.ah) (out++[f]))from rfl];grind[wK,id,Up]
  rw[ak];simp only[aF j (jB _ _),O,o1];have a5:=x.2.2.2 _ (bp j);have a4:Z out*1000<=100*1000:=by omega
  refine c7 (UH g r.ah[f] (by grind[o6]) (by omega)) rfl λbe a0 aj=>?_;obtain⟨P,M,rfl,rfl⟩:=aj;rw[Bv,O,zB (by rw[o6];omega),zB (by omega),wK (id:=4) (N:=2) (by decide)];apply yg (a7:=cN) (by grind[o6,List.length_append]) rfl (by omega);rw[wK (id:=3) (N:=2) (by decide)];have E:Z (out++[f])=Z out+1:=by simp
  have a9:=zz r.ah[f].af g;refine K (out++[f],c8 g r.ah[f].af,P,m+1,l++M) ⟨by simp;omega,by simp;omega,by simp only[E];omega,?_⟩ (by simp;omega);rw[UK j ai w]at n;rw[n,E];simp[zC,j]
 simp only[bw,O,i,G,A];refine aW (λ_=>bz H D) (λ_=>bz H);simp only[bw,O,i,G,A,a,cn,decide_false];refine aW (λh=>by cases h) (λ_=>bz (a8 ?_));rw[n,UL w];refine .aB _ _ _ (.ck ?_ (.ck (.int _ _ _) (.nil _)));exact h8 (x:=([]:List Nat)) (a7:=cN) (U:=1) (N:=0) (by simp) (by simp);have h:Z r.ah -(Z out)=0:=by simp at h;omega
 rw[n,h,oc];refine .aB _ _ _ (.ck ?_ (.ck (.int _ _ _) (.nil _)));exact h8 (n9 (by simp only[o6];omega)) (by simp)
def uf(r:aD):Bool:=(ord r.ah []).isSome&&r.af.all (known (gw r))&&((r.aj.ax !=2)&&(r.aj.ax !=3)||y (r.aj.aE∈jk r))
def ta(a:List (Int×Int))(r:aD):List (Int×Int):=if uf r=ad then a else a++[(80,r.ba)]
def qQ(a:D):List (Int×Int):=a.ak.foldl ta []
theorem lR.UO{r:aD}(h:lR r):Z (gw r)<=1000:=by
 have:=GR r.ah [];have:=h.2.1;grind[gw]
theorem lR.lvl{r:aD}(h:lR r):Z (jk r)<=100:=by
 have:=GS r.ah [];have:=h.1;grind[jk]
theorem yj(a b:Int):fQ 2 [(I 0),(I 0)] 1 [(0,.agg [I a,I b])]=aa (.sl ab [b2 (a,b)]):=rfl
theorem wM(a b:Int):ma [(I 0),(I 0)] [(0,1,I a),(1,1,I b)]=aa [I a,I b]:=rfl
theorem aiz(r:aD)(b:lR r):PR C 114 [.agg (aS T r)] (.bool (uf r)):=by
 apply af8.pr;simp only[o2,O,bj,aK,nA,wj,F7,F8,e,fW,Nat.reduceAdd,a1,cx];refine⟨.df,[.agg (aS T r),eS ab cS []],pZ (ord r.ah []),by decide,?_,aiy r [] b (by simp),by simp,?_⟩;exact .ck eu (.ck (.aq _ _) (.nil _));rw[uf];rcases p:ord r.ah []with _|o;simp only[pZ,fH,de,eF,O,cx];exact a8 (bJ rfl);simp only[pZ,fH,de,eF,O,cx,oD,cZ];refine bz (c (K1 r b) ?_);simp only[de,eF,O];have q:=b.UO
 have n:=b.lvl;refine eC (U:=Z r.af) (c:=λd=>[ff,I d]) (λd=>(r.af.take d).all (known (gw r))=ad) (by simp) rfl (λd j g k m=>?_) (λg k=>?_);simp only[O,i,G,A,a,j,decide_true,aF j (kq _),lL];refine a8 (c (GQ _ _ (by unfold Sm;omega)) ?_);simp only[bK,O];refine dw (by grind[bJ,yf]) (λh=>?_);rw[a6 (by have:=b.2.2.1;omega),O];grind[n5];rw[dU]at g;simp only[O,i,G,A,a,cn,decide_false,bw];rw[g,cZ]
 refine bz (aW (λh=>ei (λf=>?_) (λf=>jj (by rw[h,f]<;>rfl))) (λh=>?_));exact c (GM _ _ (by unfold Sm;omega)) (iT (by rw[h,f]<;>rfl));exact c (GM _ _ (by unfold Sm;omega)) (iT (by rw[h]<;>rfl))
theorem K3:∀(b:List aD)(a:List (Int×Int)),Z (b.foldl ta a)<=Z a+Z b
 |[],a=>by simp
 |r::b,a=>by
  have:=K3 b (ta a r);grind[ta]
theorem aiA(b:D)(u:Z b.ak<=20)(o:∀r∈b.ak,lR r):PR C 64 [.agg (cP T F b)] (eS ab b2 (qQ b)):=by
 apply adT.pr;simp only[eP,O,e3,ft,bj,aK,o4,e,a1,dK,eU,hD,kD];refine wI b.ak ta [] 1 2 b2 (M:=[.arr 0 2 [],.arr 0 2 []]) 0 rfl (by simp[aX]) (λp d g j f l t=>?_) (λj f=>?_);have m:=K3 (b.ak.take p) [];rw[<-l,hW,eU]at m;have n:=bp d;simp only[O,i,G,A,a,d,decide_true,o0,bw,aF d (mM _ _),nA,bj,aK,Bd,e];have k:y ((Z g:Int)<20)=true:=by simp;omega
 refine aW (λ_=>a8 (c (aiz _ (o _ n)) ?_) k) (λh=>by cases h);simp only[bK,O];refine dw (λh=>?_) (λh=>?_);rw[wM,O,yj,O];refine yg (a7:=b2) (by simp) rfl (by omega) ?_;rw[a6,O];grind[ta];rw[a6,O];grind[ta];simp only[O,i,G,A,a,cn,decide_false,bw];exact aW (λh=>by cases h) (λ_=>bz (DF (by simp) (by simp)))
abbrev rZ:KD:=⟨ab,1,[1]⟩
def iU(a:List d):List AV:=a.map AV.str
def tb(a:List d):List AV:=db (Z a) (.agg [])
def o9(a:List d):AV:=.ih (iU a) (tb a)
def pa(a:List d):Obj:=.mp ad (iU a) (tb a)
theorem tc(a b:d):rZ.eq (.str a) (.str b)=aa (a==b):=rfl
theorem td(c:d):∀(b:List d)(a:Nat),rZ.find (.str c) (iU b) a=aa ((b.findIdx? (c==·)).map (· +a))
 |[],a=>rfl
 |x::b,a=>by
  rw[iU,eg,KD.find,tc,E2];rcases h:c==x with _|_;simp only[eZ,if_false];have:=td c b (a+1);rw[iU]at this;rw[this]
  congr 1
  cases b.findIdx? (c==·)<;>simp;omega
  simp
theorem UP(b:d)(a:List d):(a.findIdx? (b==·)).isSome=y (b∈a):=by
 grind
theorem aiB(h:U<Z p):(tb p)[U]?=aa (.agg []):=by simp[tb,h]
theorem aiC(a:d)(h:mc M E=aa (iU p,tb p)):iI rZ (.agg []) ad E (.str a) M=aa (.aB [.agg [],.bool (y (a∈p))]):=by
 have c:=UP a p;simp only[iI,h,tc,oD,if_true,td];rcases b:p.findIdx? (a==·)with _|i;grind;rw[b]at c;have e:i<Z p:=by
  have:=qm.1 b;exact this.1
 simp_all[kd,fW,aiB,decide]
theorem aiD(a:List d)(b:Nat):(tb a).set b (.agg [])=tb a:=by
 simp_all[tb]
def r1(a:List d)(b:d):List d:=if b∈a then a else a++[b]
theorem GW{id:Nat}(a:d)(h:M[id]?=aa (pa p)):jO rZ (.b7 id) (.str a) (.agg []) M=aa (M.set id (pa (r1 p a))):=by
 have b:=UP a p;simp only[jO,h,pa,zl,tc,oD,if_true,td,Ba];rcases c:p.findIdx? (a==·)with _|i;simp_all[r1,iU,tb,aro];simp_all[kd,fW,aiD,r1]
theorem vj(a:List d):bS (iU a):=by
 unfold iU;induction a with
 |nil=>exact .nil
 |cons c a b=>simp_all
theorem K4(a:List d):bS (tb a):=by
 unfold tb;induction a with
 |nil=>exact .nil
 |cons c a b=>exact .cons _ _ (.agg _ .nil) b
theorem K5(a:List d)(b:List Obj):aM b .df (o9 a) (o9 a):=.y7 _ _ _ _ (vj a).snap (K4 a).snap
theorem GX{id:Nat}(h:M[id]?=aa (pa p)):aM M .cb (.b7 id) (o9 p):=.xD id ad _ _ _ _ h (vj p).snap (K4 p).snap
def ug(b c:List d):Prop:=∀a,a∈b<->a∈c
variable{gz:List d}
theorem ug.known(h:ug p gz)(a:aJ):known p a=known gz a:=by
 simp only[Go.AM.known,h a.aE]
theorem aiE(a:List d):(o9 a).pl=o9 a:=rfl
theorem K6(a:List d)(b:aJ):PR C 161 [o9 a,.agg (cT b)] (.bool (!known a b)):=by
 apply RM.pr;have c:=aiC (E:=o9 a) (M:=[]) b.aE rfl;simp only[zp,O,bj,aK,rO,e,c,fH,de,eF,jD,bK,bw,G];apply aI rfl;refine Bq (λh=>iT ?_) (λh=>bJ ?_);rw[known,h]<;>rfl
 grind[known]
theorem GY(a:List d)(b:aJ):fI C (.fn 161 [o9 a] []) (.agg (cT b)) (.bool (!known a b)):=by
 refine⟨161,[o9 a,.agg (cT b)],rfl,K6 a b,λc=>?_⟩;exact .ck (K5 a c) (.ck eu (.nil _))
theorem K7(a:List d):h6 (.fn 161 [o9 a] []):=
 ⟨rfl,λb=>.fn _ _ _ _ _ _ (.ck (K5 a b) (.nil _)) (.nil _)⟩
theorem K8(a:List K)(b:K->Bool):(!a.any λc=> !b c)=a.all b:=by
 grind
theorem aiF(c:List d)(a:Lit)(m:u5 a):PR C 212 [o9 c,.agg (bg T a)] (.bool (j1 c a)):=by
 apply Ru.pr;simp only[rN,O,bj,aK,tW,s4,Di,e,di,a1,aiE];apply eb (M:=[]) (a.ax==1||a.ax==3) (λn k=>ei (by grind) (by grind));simp only[G];refine b (by simp_all[j1]) (λh=>?_);rw[j1,if_neg (by grind)];apply eb (M:=[]) (a.ax==5&&a.op==1&&(Z a.af:Int)==2) (λn k=>aW (λh=>aW (by grind) (by grind)) (by grind));simp only[G];refine b (λh=>?_) (λh=>?_);rw[if_pos h];have l:Z a.af=2:=by
  simp only[bc,beq_iff_eq]at h;omega
 have i:0<Z a.af:=by omega
 have j:1<Z a.af:=by omega
 rw[UE l i j];have e0:=aF (T:=T) (M:=[]) i (kq _);have g:=aF (T:=T) (M:=[]) j (kq _);simp only[arD]at e0 g;simp only[e0,g,O,lL,bw,G,Ba];apply(GY c a.af[0]).cp;simp only[bK,O,E3];refine ei (λh=>?_) (by simp_all);apply(GY c a.af[1]).cp;simp only[bK,O,E3];simp_all;rw[if_neg (by grind)];refine⟨.df,[eS T cT a.af,.fn 161 [o9 c] []],_,by decide,?_,KM (K7 c) a.af m (λo _=>GY c o),by simp,?_⟩
 exact .ck eu (.ck ((K7 c).2 _) (.nil _));simp only[bK,O,K8];exact iT rfl
def iK(a:List Obj)(id:Nat)(b:List d):List Obj:=a.set id (pa b)
theorem UQ{id:Nat}(h:id<Z M):(iK M id p)[id]?=aa (pa p):=by simp[iK,h]
theorem K9{id:Nat}:Z (iK M id p)=Z M:=by simp[iK]
theorem UR{id:Nat}:(iK M id p).set id (pa gz)=iK M id gz:=by simp[iK]
theorem GZ{id:Nat}(h:id≠U):aX (iK M id p) U N a7 z x=iK (aX M U N a7 z x) id p:=by
 grind[aX,iK,List.set_comm]
theorem aiG(a:List d)(h:bL≠[]):ej a bL=r1 a bL:=by
 grind[ej,r1]
theorem aiH{id:Nat}(g:List d)(c:Lit)(h:id<Z M)(p:Z c.af<=1000):C 213 [.b7 id,.agg (bg T c)] (iK M id g) (.aB []) (iK M id (c8 g c.af)):=by
 apply RQ.hr;simp only[rN,O,bj,aK,s4,e,a1];apply bG (K:=Nat) (λb=>[I b]) (λb=>iK M id (c8 g (c.af.take b))) (λb=>Z c.af -b) (λb=>b<=Z c.af) 0 (by simp);intro b o n m;simp only[G,A,O,a];by_cases k:b<Z c.af;have j:=m (b+1) k (by omega);rw[c8,mS k]at j;simp only[k,decide_true,aF k (kq _),O,lL,xO,Ul,jD,bw];refine a8 (dw (λl=>?_) (λl=>?_));refine aI rfl ?_;rw[GW _ (UQ h),O,UR,a6,O]
 have:ej ((c.af.take b).foldl (λf i=>ej f i.aE) g) c.af[b].aE=r1 ((c.af.take b).foldl (λf i=>ej f i.aE) g) c.af[b].aE:=by
  exact aiG _ (by simpa using l)
 rw[this]at j;exact j;rw[a6,O];have:ej ((c.af.take b).foldl (λf i=>ej f i.aE) g) c.af[b].aE=(c.af.take b).foldl (λf i=>ej f i.aE) g:=by
  simp only[beq_iff_eq]at l;simp[ej,l]
 rw[this]at j;exact j;have:b=Z c.af:=by omega
 simp_all
def wN(a:List d):List d:=a.foldl r1 []
theorem aiI(b:List d)(c a:d):a∈r1 b c<->a∈b\/a=c:=by
 grind[r1]
theorem US(c:d):∀(b a:List d),c∈b.foldl r1 a<->c∈a\/c∈b
 |[],a=>by simp
 |y::b,a=>by rw[ni,US c b,aiI,b5,or_assoc]
theorem UT(a:List d):ug (wN a) a:=λb=>by rw[wN,US];simp
theorem UU(c:List d)(e:List Obj)(l:Z c<=1000000):C 160 [eS T cS c] e (.b7 (Z e)) (e++[pa (wN c)]):=by
 apply Sp.hr;simp only[e3,a1,O];have h:Z e<Z (e++[Obj.mp ad [] []]):=by simp
 refine bG (K:=Nat) (λb=>[I b]) (λb=>iK (e++[.mp ad [] []]) (Z e) ((c.take b).foldl r1 [])) (λb=>Z c -b) (λb=>b<=Z c) 0 (by simp) ?_ rfl (by simp[iK,pa,iU,tb]);intro b k j i;simp only[G,A,O,a];by_cases f:b<Z c;have g:=i (b+1) f (by omega);rw[mS f]at g;simp only[f,decide_true,aF f (iR _),O,aK,lN];refine a8 (aI rfl ?_);rw[GW _ (UQ h),O,UR,a6,O];exact g;have:b=Z c:=by omega
 subst this;simp only[cn,decide_false,dU];exact bz ⟨rfl,by simp[iK,wN]⟩
theorem aiJ(h:ug p gz)(a:List aJ):ug (c8 p a) (c8 gz a):=by
 unfold c8;induction a generalizing p gz with
 |nil=>exact h
 |cons f a b=>
  refine b λc=>?_;unfold ej;have e:=h c;grind
theorem ug.j1(h:ug p gz)(a:Lit):j1 p a=j1 gz a:=by
 have:=funext h.known;grind[Go.AM.j1]
theorem ug.nI(h:ug p gz)(a:List Lit)(out:List Nat):nI a out p=nI a out gz:=by
 funext b
 simp only[Go.AM.nI];cases a[b]?<;>simp[h.j1]
theorem ug.oc(h:ug p gz)(b:List Lit):∀(a:Nat)(out:List Nat),oc b a out p=oc b a out gz:=by
 intro a;induction a generalizing p gz with
 |zero=>intro _;rfl
 |succ a c=>
  intro out;simp only[Go.AM.oc,yi,h.nI];grind[aiJ]
theorem UW(r:aD)(bound:List d)(B:lR r)(Y:Z bound<=1000):PR C 158 [.agg (aS T r),eS F cS bound] (pZ (ord r.ah bound)):=by
 refine SQ.pr ?_;simp only[o2,O,e3,ft,dK,eU];refine qJ _ (UU bound _ (by omega)) ?_;have ac:=B.1;simp only[bj,aK,qH,e,O,a1];refine aY (rY (by omega) (by omega)) ?_;simp only[hD,dK,kD,eU,e,Nat.reduceAdd];have N:db (Z r.ah) [ff]=(fT (Z r.ah) []).map cB:=by rw[UM];simp[cB]
 rw[N];have ai:ord r.ah bound=oc r.ah (Z r.ah) [] (wN bound):=(UT bound).oc _ _ _▸rfl;refine bG (λj=>[.q 0 0 0 0,I 0,.q 3 j.2.2 0 (Z j.1)]) (λj=>aX (aX (iK [.arr 0 1 [],.arr 0 1 [],.arr 0 1 [],.arr 0 1 []] 1 j.2.1) 2 1 cB 0 (fT (Z r.ah) j.1)) 3 1 cN j.2.2 j.1) (λj=>Z r.ah -(Z j.1)) (λj=>Z j.1<=Z r.ah/\ord r.ah bound=oc r.ah (Z r.ah -(Z j.1)) j.1 j.2.1) ([],wN bound,0) (by grind) ?_
 rintro⟨out,f,k⟩ ⟨am,n⟩ X V;simp only[i,G,o0,O,A,a];refine b (λh=>?_) (λh=>?_);have h:Z out<Z r.ah:=by simpa using h
 rw[show Z r.ah -(Z out)=(Z r.ah -(Z out+1))+1 by omega,oc]at n;have p:(aX (aX (iK [.arr 0 1 [],.arr 0 1 [],.arr 0 1 [],.arr 0 1 []] 1 f) 2 1 cB 0 (fT (Z r.ah) out)) 3 1 cN k out)[2]?=aa (.arr 0 1 ((fT (Z r.ah) out).map cB)):=rfl;have x:(aX (aX (iK [.arr 0 1 [],.arr 0 1 [],.arr 0 1 [],.arr 0 1 []] 1 f) 2 1 cB 0 (fT (Z r.ah) out)) 3 1 cN k out)[1]?=aa (pa f):=rfl
 generalize H:aX (aX (iK [.arr 0 1 [],.arr 0 1 [],.arr 0 1 [],.arr 0 1 []] 1 f) 2 1 cB 0 (fT (Z r.ah) out)) 3 1 cN k out=t at x p⊢;refine eC (U:=Z r.ah) (c:=λc=>[.q 3 k 0 (Z out),I c]) (λc=>∀m,m<c->nI r.ah out f m=ab) (by simp) rfl (λc l o u Q=>?_) (λo u=>?_);simp only[bw,O,i,G,A,a,l,decide_true,aF l (jB _ _),o1,xQ,fu p l,cY p (GV l),de,bK];have L:nI r.ah out f c=(!y (c∈out)&&j1 f r.ah[c]):=by
  rw[nI,bu l]
 have M:(AV.agg [g (bg T r.ah[c]) 0,g (bg T r.ah[c]) 1,g (bg T r.ah[c]) 2,g (bg T r.ah[c]) 3,g (bg T r.ah[c]) 4,g (bg T r.ah[c]) 5,g (bg T r.ah[c]) 6,g (bg T r.ah[c]) 7,g (bg T r.ah[c]) 8])=.agg (bg T r.ah[c]):=rfl;rw[M];have U:=B.2.2.2 _ (bp l);have no:nI r.ah out f c=ab->bd (aT .s .add (I c) (I 1)) λW=>u [.q 3 k 0 (Z out),W] t:=by
  intro P;rw[a6,O];refine Q λm aj=>?_;by_cases w:m=c;subst w;exact P;exact o m (by omega)
 refine a8 (aW (λD=>e4 _ (aiF f r.ah[c] (by unfold u5 Sm;omega)) (.ck (GX x) (.ck eu (.nil _))) (.bool _) ?_) (by simp_all));refine b (λE=>?_) (by grind);have R:nI r.ah out f c=true:=by rw[L,D,E]<;>rfl
 rw[UK l R o]at n;have J:t=iK (aX (aX [.arr 0 1 [],.arr 0 1 [],.arr 0 1 [],.arr 0 1 []] 2 1 cB 0 (fT (Z r.ah) out)) 3 1 cN k out) 1 f:=by
  rw[<-H,GZ (by decide),GZ (by decide)]
 rw[J];refine qJ (.aB []) (aiH f r.ah[c] (by simp[o6]) U) ?_;have K:iK (aX (aX [.arr 0 1 [],.arr 0 1 [],.arr 0 1 [],.arr 0 1 []] 2 1 cB 0 (fT (Z r.ah) out)) 3 1 cN k out) 1 (c8 f r.ah[c].af)=aX (aX (iK [.arr 0 1 [],.arr 0 1 [],.arr 0 1 [],.arr 0 1 []] 1 (c8 f r.ah[c].af)) 3 1 cN k out) 2 1 cB 0 (fT (Z r.ah) out):=by
  rw[GZ (by decide),GZ (by decide),wK (by decide)]
 rw[K];have z:(aX (aX (iK [.arr 0 1 [],.arr 0 1 [],.arr 0 1 [],.arr 0 1 []] 1 (c8 f r.ah[c].af)) 3 1 cN k out) 2 1 cB 0 (fT (Z r.ah) out))[2]?=aa (.arr 0 1 ((fT (Z r.ah) out).map cB)):=n9 (by simp[o6,K9]);rw[fu z l,O,Bu z (GV l) rfl rfl,O,UN,Bv,O]
 have S:(aX (aX (iK [.arr 0 1 [],.arr 0 1 [],.arr 0 1 [],.arr 0 1 []] 1 (c8 f r.ah[c].af)) 3 1 cN k out) 2 1 cB 0 (fT (Z r.ah) out)).set 2 (.arr 0 1 ((fT (Z r.ah) (out++[c])).map cB))=aX (aX (iK [.arr 0 1 [],.arr 0 1 [],.arr 0 1 [],.arr 0 1 []] 1 (c8 f r.ah[c].af)) 2 1 cB 0 (fT (Z r.ah) (out++[c]))) 3 1 cN k out:=by
  rw[show∀v:List Obj,v.set 2 (.arr 0 1 ((fT (Z r.ah) (out++[c])).map cB))=aX v 2 1 cB 0 (fT (Z r.ah) (out++[c]))fromλ_=>rfl,Up,wK (by decide)]
 rw[S];refine yg (by simp[o6,K9]) rfl (by omega) ?_;have ak:Z (out++[c])=Z out+1:=by simp
 refine V (out++[c],c8 f r.ah[c].af,k+1) ⟨by simp;omega,?_⟩ (by simp;omega);grind[zC];simp only[O,i,G,A,a,cn,decide_false];refine bz ?_;rw[n,UL o];refine .aB _ _ _ (.ck ?_ (.ck (.int _ _ _) (.nil _)));exact h8 (x:=([]:List Nat)) (U:=1) (by simp) (by simp);have h:Z r.ah -(Z out)=0:=by simp at h;omega
 rw[n,h,oc];refine .aB _ _ _ (.ck ?_ (.ck (.int _ _ _) (.nil _)));exact h8 (n9 (by simp[o6,K9])) (by simp)
theorem UX(h:(!known p ⟨bL,⟨0,0,[]⟩⟩)=ad):ej p bL=p++[bL]/\r1 p bL=p++[bL]:=by
 grind[known,ej,r1]
theorem UY(h:(!known p ⟨bL,⟨0,0,[]⟩⟩)=ab):ej p bL=p:=by
 grind[known,ej]
theorem aiK(a:List d)(b:aJ):known a b=known a ⟨b.aE,⟨0,0,[]⟩⟩:=rfl
def yk(a b:List d)(c e:Nat):List Obj:=[.arr c 1 (a.map cS),.arr e 1 (b.map cS),pa a,pa b]
theorem aiL(a:d)(c:Z p<1099511627776):cJ 1 16 (.q 0 U 0 (Z p)) (.sl ab [cS a]) (yk p gz U N)=aa (.q 0 (U+1) 0 (Z (p++[a])),[.arr (U+1) 1 ((p++[a]).map cS),.arr N 1 (gz.map cS),pa p,pa gz]):=
 pW (M:=yk p gz U N) a (by simp[yk]) rfl (by omega)
theorem aiM(a:d)(c:Z gz<1099511627776):cJ 1 16 (.q 1 N 0 (Z gz)) (.sl ab [cS a]) (yk p gz U N)=aa (.q 1 (N+1) 0 (Z (gz++[a])),[.arr U 1 (p.map cS),.arr (N+1) 1 ((gz++[a]).map cS),pa p,pa gz]):=
 pW (M:=yk p gz U N) a (by simp[yk]) rfl (by omega)
theorem UZ(r:aD)(x:lR r):PR C 106 [.agg (aS T r)] (.aB [eS ab cS (gw r),eS ab cS (jk r)]):=by
 refine Ti.pr ?_;simp only[o2,O,e3,ft,bj,aK,qH,e,a1,dK,eU,hD,kD];refine bG (λc=>[.q 0 c.2.1 0 (Z ((r.ah.take c.1).foldl (λf m=>c8 f m.af) [])),.q 1 c.2.2 0 (Z ((r.ah.take c.1).foldl oa [])),I c.1]) (λc=>yk ((r.ah.take c.1).foldl (λf m=>c8 f m.af) []) ((r.ah.take c.1).foldl oa []) c.2.1 c.2.2) (λc=>Z r.ah -c.1) (λc=>c.1<=Z r.ah) (0,0,0) (by simp) ?_;rintro⟨d,w,p⟩ Q M J;by_cases h:d<Z r.ah
 ·have F:=GR (r.ah.take d) []
  have H:=GS (r.ah.take d) [];have U:=x.take d;have S:=x.2.2.2 _ (bp h);have P:=x.1;simp only[eU,e,hW]at F H;have t:=λw p=>J (d+1,w,p) h (by simp;omega);simp only[mS h]at t;generalize(r.ah.take d).foldl (λf m=>c8 f m.af) []=o at*;generalize(r.ah.take d).foldl oa []=j at*;simp only[O,i,G,A,a,h,decide_true,aF h (jB _ _),o1,xQ,wz,wA,yd,wB,wC,wD,ye,wE,wF,a1];refine a8 ?_;rw[bw]
  refine bG (λc=>.q 0 c.2 0 (Z (c8 o (r.ah[d].af.take c.1)))::I c.1::bg T r.ah[d]) (λc=>yk (c8 o (r.ah[d].af.take c.1)) j c.2 p) (λc=>Z r.ah[d].af -c.1) (λc=>c.1<=Z r.ah[d].af) (0,w) (by simp) ?_;rintro⟨k,l⟩ R N K;simp only[O,i,G,A,a];by_cases s:k<Z r.ah[d].af;have n:=λl=>K (k+1,l) s (by simp;omega);simp only[c8,mS s]at n;have z:=zz (r.ah[d].af.take k) o;rw[hW]at z;simp only[c8]at z⊢
  generalize(r.ah[d].af.take k).foldl (λf L=>ej f L.aE) o=D at*;simp only[s,decide_true,aF s (kq _),O,lL,xO,Ul,ah6,ah7,ah8,bw,wz,wA,yd,wB,wC,wD,ye,wE,wF];refine a8 (e4 _ (K6 D r.ah[d].af[k]) (.ck (GX rfl) (.ck (by simp[Im.snap,cT]) (.nil _))) (.bool _) ?_);rw[aiK];refine b (λg=>?_) (λg=>?_);rw[DG,O];refine aY (aiL _ (by omega)) ?_;refine aI rfl ?_;refine aI (GW _ rfl) ?_;rw[a6,O]
  obtain⟨u,v⟩:=UX g;rw[u]at n;rw[v];exact n (l+1);rw[a6,O];rw[UY g]at n;exact n l
  ·have:k=Z r.ah[d].af:=by omega
   subst this;simp only[cn,decide_false,dU,wz,wA,yd,wB,wC,wD,ye,wE,wF,di,O,bw];have E:ma [(.str []),(I 0),(I 0),(.str [])] [(0,1,.str r.ah[d].bind)]=aa (cT ⟨r.ah[d].bind,⟨0,0,[]⟩⟩):=rfl;refine bz (aW (λg=>?_) (λg=>bz ?_))
   ·rw[E,O]
    refine e4 _ (K6 j _) (.ck (GX rfl) (.ck eu (.nil _))) (.bool _) ?_
    try simp only[G,i]
    have B:oa j r.ah[d]=ej j r.ah[d].bind:=by rw[oa,if_pos g]
    rw[B]at t;refine b (λy=>?_) (λy=>?_);rw[DG,O];refine aY (aiM _ (by omega)) ?_;refine aI rfl ?_;refine aI (GW _ rfl) ?_;rw[a6,O];obtain⟨u,v⟩:=UX y;rw[u]at t;rw[v];exact t l (p+1);rw[a6,O];grind[UY]
   have B:oa j r.ah[d]=j:=by rw[oa,if_neg (by rw[g];decide)]
   grind[G,i,a6,O]
 have:d=Z r.ah:=by omega
 subst this;simp only[O,i,G,A,a,cn,decide_false,dU];exact bz (.aB _ _ _ (.ck (h8 rfl (by simp)) (.ck (h8 rfl (by simp)) (.nil _))))
theorem aiN(r:aD)(a:lR r):PR C 92 [.agg (aS T r)] (.bool (uf r)):=by
 apply Th.pr;simp only[o2,O,bj,aK,nA,wj,F7,F8,e,fW,Nat.reduceAdd,cx,mf,true_and];refine⟨.df,[.agg (aS T r),eS ab cS []],pZ (ord r.ah []),by decide,?_,UW r [] a (by simp),by simp,?_⟩;exact .ck eu (.ck (.aq _ _) (.nil _));rw[uf];rcases l:ord r.ah []with _|o;simp only[pZ,fH,de,eF,O,cx];exact a8 (bJ rfl);simp only[pZ,fH,de,eF,O,cx,oD,cZ];refine bz (c (UZ r a) ?_);simp only[de,eF,O];have m:=a.UO
 have k:=a.lvl;apply qJ _ (UU (gw r) [] (by omega));have f:r.af.any (λb=> !known (wN (gw r)) b)= !r.af.all (known (gw r)):=by
  rw[<-K8,E3]
  congr 1
  funext b
  rw[(UT (gw r)).known]
 refine⟨.cb,[eS T cT r.af,.fn 161 [o9 (wN (gw r))] []],.bool (r.af.any λb=> !known (wN (gw r)) b),by decide,?_,KM (K7 _) r.af (by have:=a.2.2.1;grind[Sm]) (λg _=>GY _ g),λ_=>.bool _,?_⟩;exact .ck eu (.ck (.fn _ _ _ _ _ _ (.ck (GX rfl) (.nil _)) (.nil _)) (.nil _));rw[f];simp only[bw,G];have j:∀d,(jk r).contains d=y (d∈jk r):=by grind
 refine dw (by grind[bJ]) (λh=>?_);rw[h,cZ];refine aW (λh=>ei (λi=>?_) (by simp_all)) (λh=>?_);exact c (xX _ _ (by grind[Sm])) (by simp_all);exact c (xX _ _ (by grind[Sm])) (by simp_all)
theorem La(b:D)(v:Z b.ak<=20)(q:∀r∈b.ak,lR r):PR C 44 [.agg (cP T F b)] (eS ab b2 (qQ b)):=by
 apply Tc.pr;simp only[eP,O,e3,ft,bj,aK,o4,e,a1,dK,eU,hD,kD];refine wI b.ak ta [] 1 2 b2 (M:=[.arr 0 2 [],.arr 0 2 []]) 0 rfl (by simp[aX]) (λd f k l j m u=>?_) (λl j=>?_);have n:=K3 (b.ak.take d) [];rw[<-m,hW,eU]at n;have p:=bp f;simp only[O,i,G,A,a,f,decide_true,o0,bw,aF f (mM _ _),nA,xR];have t:y ((Z k:Int)<20)=true:=by simp;omega
 have o:(AV.agg [g (aS T b.ak[d]) 0,g (aS T b.ak[d]) 1,g (aS T b.ak[d]) 2,g (aS T b.ak[d]) 3,g (aS T b.ak[d]) 4,g (aS T b.ak[d]) 5,g (aS T b.ak[d]) 6,g (aS T b.ak[d]) 7,g (aS T b.ak[d]) 8])=.agg (aS T b.ak[d]):=rfl;rw[o];refine a8 (aW (λ_=>c (aiN _ (q _ p)) ?_) (by grind));simp only[bK,O,ud];refine dw (λh=>?_) (λh=>?_);rw[wM,O,yj,O];refine yg (by simp) rfl (by omega) ?_;rw[a6,O];grind[ta]
 rw[a6,O];grind[ta];simp only[O,i,G,A,a,cn,decide_false,bw];exact bz (DF (by simp) (by simp))
end AM
namespace Law
abbrev cA:=Nat->Nat->Bool
def te(a:cA)(d:Nat):cA:=λb c=>a b c||(a b d&&a d c)
def kL(a:cA)(b:Nat):cA:=(ay b).foldl te a
theorem Lb(b:cA)(a:Nat):kL b (a+1)=te (kL b a) a:=by
 simp[kL,uK]
inductive Way(d:cA)(K:Nat):Nat->Nat->Prop
 |hv (a b:Nat) (h:d a b=ad):Way d K a b
 |via (a c b:Nat) (h:Way d K a c) (hc:c<K) (t:Way d K c b):Way d K a b
variable{cX:cA}{U N z dh:Nat}
theorem Way.mono(h:U<=N)(w:Way cX U z dh):Way cX N z dh:=by
 induction w with
 |hv z dh h=>exact .hv z dh h
 |via z a dh _ d _ b c=>exact .via z a dh b (by omega) c
theorem Way.succ(w:Way cX (U+1) N z):Way cX U N z\/(Way cX U N U/\Way cX U U z):=by
 induction w with
 |hv N z h=>exact .inl (.hv N z h)
 |via N a z _ k _ g i=>
  by_cases j:a=U;grind;have d:a<U:=by omega
  rcases g with b|⟨b,e⟩<;>rcases i with c|⟨c,f⟩
  exact .inl (.via N a z b d c);exact .inr ⟨.via N a U b d c,f⟩;exact .inr ⟨b,.via U a z e d c⟩;grind
theorem DL(c:cA):∀(n a b:Nat),kL c n a b=ad<->Way c n a b
 |0,a,b=>by
  constructor;exactλh=>.hv a b h;intro h;cases h with
  |hv _ _ h=>exact h
  |via _ f _ _ g _=>omega
 |n+1,a,b=>by
  rw[Lb];simp only[te,hX,bc,DL c n];constructor;rintro(h|⟨d,e⟩);exact h.mono (AB n);exact .via a n b (d.mono (AB n)) (aaN n) (e.mono (AB n));exact Way.succ
inductive pb(d:cA):Nat->Nat->Prop
 |hv (a b:Nat) (h:d a b=ad):pb d a b
 |step (a c b:Nat) (h:d a c=ad) (t:pb d c b):pb d a b
theorem pb.trans(h:pb cX U N)(a:pb cX N z):pb cX U z:=by
 induction h with
 |hv U N h=>exact .step U N z h a
 |step U b N h _ c=>exact .step U b z h (c a)
theorem aiO(b:∀N z,cX N z=ad->N<U/\z<U):Way cX U N z<->pb cX N z:=by
 constructor;intro h;induction h with
 |hv N z h=>exact .hv N z h
 |via N a z _ _ _ c d=>exact c.trans d
 intro h;induction h with
 |hv N z h=>exact .hv N z h
 |step N a z h _ e=>exact .via N a z (.hv N a h) (b N a h).2 e
theorem G1(c:∀a b,cX a b=ad->a<U/\b<U)(a b:Nat):kL cX U a b=ad<->pb cX a b:=
 (DL cX U a b).trans (aiO c)
end Law
namespace AM
variable{T:Bool}{U:Nat}{ct:Nat -> Bool}{N:Nat}{M:List Obj}{K:Type}{c9:Md}{a7:K -> List AV}{iz:List Obj -> Prop}
section
open Go.Law
def eW(a:Bool)(d:Nat)(b:Nat->Bool):AV:=eS a (λc=>cB (b c)) (ay d)
def Bw(c:Nat)(b:cA)(a:Nat):List AV:=[eW ab c (b a)]
def eM(a:Nat)(b:cA):AV:=eS ab (Bw a b) (ay a)
@[simp] theorem auq(a:Bool)(c:Nat)(b:Nat->Bool):Im (eW a c b):=ny (λ_=>acI _) a _
@[simp] theorem aiP(c:Nat)(b:cA)(a:Nat):bS (Bw c b a):=by simp[Bw]
@[simp] theorem aur(b:Nat)(a:cA):Im (eM b a):=ny (λ_=>aiP _ _ _) _ _
@[simp] theorem aus(a:Bool)(c:Nat)(b:Nat->Bool):(eW a c b).pl=eW a c b:=rfl
@[simp] theorem aut(b:Nat)(a:cA):(eM b a).pl=eM b a:=rfl
@[simp] theorem Bx(a:Nat)(c:cA)(b:List Obj):gk .sl (eM a c) b=aa (I a):=by simp[eM]
theorem uh(h:N<U):bT 1 (eW T U ct) (I N) M=aa (.aH T (cB (ct N)) 0):=by
 have:=aF (T:=T) (a7:=λN=>cB (ct N)) (x:=ay U) (U:=N) (M:=M) (by grind) rfl;rw[Cr]at this;exact this
variable{cX:cA}
theorem wO(h:N<U):bT 1 (eM U cX) (I N) M=aa (.aH ab (Bw U cX N) 0):=by
 have:=aF (T:=false) (a7:=Bw U cX) (x:=ay U) (U:=N) (M:=M) (by grind) rfl;rw[Cr]at this;exact this
@[simp] theorem By(c:Nat)(b:cA)(a:Nat):(Bw c b a)[0]?=aa (eW ab c (b a)):=rfl
structure j2(H:List Obj)(id gg:Nat)(hN:Nat->Nat)(n:Nat)(m:cA):Prop where
 outer:H[id]?=aa (.arr gg 1 ((ay n).map λa=>[.q (hN a) 0 0 n]))
 rows:∀a,a<n->H[hN a]?=aa (.arr 0 1 ((ay n).map λb=>[.bool (m a b)]))
 ne:∀a,a<n->hN a≠id
 inj:∀a b,a<n->b<n->hN a=hN b->a=b
variable{H:List Obj}{id gg n:Nat}{hN:Nat->Nat}{m:cA}
theorem j2.ia(h:j2 H id gg hN n m)(a:U<n):bT 1 (.q id gg 0 n) (I U) H=aa (.ptr id gg U 0):=fu h.outer a
theorem j2.ld(h:j2 H id gg hN n m)(a:U<n):aQ 1 ab (.ptr id gg U 0) H=aa (.q (hN U) 0 0 n):=by
 rw[cY h.outer (bE:=[.q (hN U) 0 0 n]) (by simp[a])]<;>rfl
theorem j2.G2(h:j2 H id gg hN n m)(a:U<n)(b:N<n):bT 1 (.q (hN U) 0 0 n) (I N) H=aa (.ptr (hN U) 0 N 0):=fu (h.rows U a) b
theorem j2.Ld(h:j2 H id gg hN n m)(a:U<n)(b:N<n):aQ 1 ab (.ptr (hN U) 0 N 0) H=aa (.bool (m U N)):=by
 rw[cY (h.rows U a) (bE:=[.bool (m U N)]) (by simp[b])]<;>rfl
def bW(m:cA)(c d:Nat)(e:Bool):cA:=λa b=>if a=c/\b=d then e else m a b
theorem j2.st(h:j2 H id gg hN n m)(b:U<n)(j:N<n)(g:Bool):∃c,dp 1 (.ptr (hN U) 0 N 0) (.bool g) H=aa c/\j2 c id gg hN n (bW m U N g)/\(∀d,d≠hN U->c[d]?=H[d]?):=by
 refine⟨_,Bu (h.rows U b) (E:=.bool (m U N)) (by simp[j]) rfl rfl,⟨?_,?_,h.ne,h.inj⟩,?_⟩;rw[vR (h.ne U b)];exact h.outer;intro a f;by_cases e:a=U;subst e;have k:hN a<Z H:=by
  have:=h.rows a b;exact(fM.1 this).1
 rw[IY k]
 congr 2
 apply ql;simp;grind[bW];rw[vR (λi=>e (h.inj U a b f i).symm),h.rows a f];grind[bW];grind
theorem j2.congr(h:j2 H id gg hN n m){c:cA}(e:∀a b,a<n->b<n->m a b=c a b):j2 H id gg hN n c:=by
 refine⟨h.outer,λa d=>?_,h.ne,h.inj⟩;rw[h.rows a d];simp_all
theorem DM{H:List Obj}{g:K->List AV}:∀(a:List K)(_:∀x∈a,b6 H c9 (a7 x) (g x)),fF H c9 (a.map a7) (a.map g)
 |[],_=>.nil _
 |x::a,h=>.ck (h x (by simp)) (DM a (by grind))
theorem j2.snap(h:j2 H id gg hN n m):aM H .res (.q id gg 0 n) (eM n m):=by
 refine .pE id gg 0 n 1 _ _ h.outer (by simp) ?_;rw[ll,gP (by simp)];refine DM _ λa b=>.ck ?_ (.nil _);have b:a<n:=by simpa using b
 refine .pE (hN a) 0 0 n 1 _ _ (h.rows a b) (by simp) ?_;rw[ll,gP (by simp)];exact DM _ λc _=>.ck (.bool _ _) (.nil _)
def G3(d f:AV)(k:List Obj)(j:List Obj->Prop):Prop:=
 jA (λc h Bz=>
 bd (aT .s .lss (g c 0) f) λq=>
 ez q (
 jA (λpc i p=>
 bd (aT .s .lss (g pc 0) f) λr=>
 ez r (
 jA (λb a U0=>
 bd (aT .s .lss (g b 0) f) λt=>
 ez t (
 jn (λwo=>
 bd (bT 1 d (g pc 0) a) λu=>
 bd (aQ 1 ab u a) λe=>
 bd (bT 1 d (g pc 0) a) λv=>
 bd (aQ 1 ab v a) λw=>
 bd (bT 1 w (g b 0) a) λx=>
 bd (aQ 1 ab x a) λy=>
 gd y ab (
 bd (bT 1 d (g pc 0) a) λz=>
 bd (aQ 1 ab z a) λA=>
 bd (bT 1 A (g c 0) a) λB=>
 bd (aQ 1 ab B a) λC=>
 gd C ad (
 bd (bT 1 d (g c 0) a) λD=>
 bd (aQ 1 ab D a) λE=>
 bd (bT 1 E (g b 0) a) λF=>
 bd (aQ 1 ab F a) λG=>
 bd (bT 1 e (g b 0) a) λH=>
 bd (dp 1 H G a) λm=>
 wo [] m) (
 bd (bT 1 e (g b 0) a) λJ=>
 bd (dp 1 J ff a) λn=>
 wo [] n)) (
 bd (bT 1 e (g b 0) a) λK=>
 bd (dp 1 K tt a) λo=>
 wo [] o)) λO l=>
 bd (aT .s .add (g b 0) (I 1)) λL=>
 U0 [L] l) (
 bd (aT .s .add (g pc 0) (I 1)) λM=>
 p [M] a)) [(I 0)] i) (
 bd (aT .s .add (g c 0) (I 1)) λN=>
 Bz [N] i)) [(I 0)] h) (
 j h)) [(I 0)] k
def lB(d:cA)(f c e:Nat):cA:=λa b=>if a<c\/(a=c/\b<e)then te d f a b else d a b
theorem U1(b:cA)(a d e c:Nat):lB b a d e c a=b c a:=by
 grind[lB,te]
theorem U2(b:cA)(a d e c:Nat):lB b a d e a c=b a c:=by
 grind[lB,te]
theorem aiQ(c:cA)(d a b:Nat):bW (lB c d a b) a b (te c d a b)=lB c d a (b+1):=by
 funext e f
 simp only[bW,lB];grind
theorem U3(Y:n<1099511627776)(h:j2 H id gg hN n m)(Z:∀l,j2 l id gg hN n (kL m n)->iz l):G3 (.q id gg 0 n) (I n) H iz:=by
 unfold G3;apply bG (K:=Nat×List Obj) (λc=>[I c.1]) (λc=>c.2) (λc=>n -c.1) (λc=>c.1<=n/\j2 c.2 id gg hN n (kL m c.1)) (0,H) ⟨by simp,h⟩;rintro⟨e,w⟩ ⟨W,B⟩ S L;simp only[G,A,O,a];refine b (λi=>?_) (λX=>?_);have i:e<n:=by simpa using i
 refine bG (K:=Nat×List Obj) (λc=>[I c.1]) (λc=>c.2) (λc=>n -c.1) (λc=>c.1<=n/\j2 c.2 id gg hN n (lB (kL m e) e c.1 0)) (0,w) ⟨by simp,?_⟩ ?_;refine B.congr λf g _ _=>?_;simp[lB];rintro⟨f,o⟩ ⟨U,r⟩ T M;simp only[G,A,O,a];refine b (λhalt=>?_) (λE=>?_);have halt:f<n:=by simpa using halt
 apply bG (K:=Nat×List Obj) (λc=>[I c.1]) (λc=>c.2) (λc=>n -c.1) (λc=>c.1<=n/\j2 c.2 id gg hN n (lB (kL m e) e f c.1)) (0,o) ⟨by simp,r⟩;rintro⟨g,p⟩ ⟨V,d⟩ y N;simp only[G,A,O,a];refine b (λj=>?_) (λF=>?_);have j:g<n:=by simpa using j
 simp only[bw,d.ia halt,d.ld halt,d.G2 halt j,d.Ld halt j,d.G2 halt i,d.Ld halt i,d.ia i,d.ld i,d.G2 i j,d.Ld i j,O,U1,U2];have D:lB (kL m e) e f g f g=kL m e f g:=by simp[lB]
 rw[D];have go:∀k,k=te (kL m e) e f g->bd (dp 1 (.ptr (hN f) 0 g 0) (.bool k) p) λC=>bd (aT .s .add (I g) (I 1)) λQ=>y [Q] C:=by
  intro k J;let⟨x,z,t,_⟩:=d.st halt j k;rw[z,O,a6,O];refine N (g+1,x) ⟨j,?_⟩ (by simp;omega);rw[J,aiQ]at t;exact t
 grind[ei,aW,te];have:g=n:=by simp at F;omega
 subst this;rw[a6,O];refine M (f+1,p) ⟨halt,d.congr λP R u K=>?_⟩ (by simp;omega);grind[lB];have:f=n:=by simp at E;omega
 subst this;rw[a6,O];refine L (e+1,o) ⟨i,r.congr λP R u K=>?_⟩ (by simp;omega);rw[Lb];simp[lB,u];grind
end
variable{E:AV}{bE:List AV}{rh:Nat -> Bool}
section
open Go.Law
variable{H:List Obj}{id gg n:Nat}{hN:Nat->Nat}{m:cA}
theorem U4{len:Nat}(h:N<len):pN len U E (I N) H=dD (N*U) E H:=by
 simp[pN,h]
theorem iaaO_0{off:Nat}:pN 2 1 (.aH T bE off) (I 0) H=aa (.aH T bE (off+0)):=rfl
theorem iaaO_1{off:Nat}:pN 2 1 (.aH T bE off) (I 1) H=aa (.aH T bE (off+1)):=rfl
def lS(n:Nat)(m:cA)(c:Nat->Bool)(a:Nat):Bool:=c a&&(ay n).all λb=> !c b||m a b
def pd(n:Nat)(m:cA)(b:Nat->Bool):Int:=match(ay n).find? (lS n m b)with|aa a=>a|ae=> -1
def lT(n:Nat)(m:cA)(c:Nat->Bool)(b:Nat):Bool:=(ay n).all λa=> !c a||m a b
def qR(n:Nat)(m:cA)(a:Nat->Bool):Int:=pd n m (lT n m a)
theorem G4(h:U<n)(c:lS n m ct U=ad)(b:∀a,a<U->lS n m ct a=ab):pd n m ct=U:=by
 grind[ay,lS,List.find?_range_eq_some,pd]
theorem Lf(b:∀a,a<n->lS n m ct a=ab):pd n m ct= -1:=by
 grind[ay,lS,pd]
theorem DN(a:Nat):(ay (a+1)).all ct=((ay a).all ct&&ct a):=by
 grind
theorem aiR(v:n<1099511627776)(d:Nat->Bool):PR C 255 [eM n m,eW T n d] (I (pd n m d)):=by
 refine aet.pr ?_;simp only[Bx,O];refine eC (U:=n) (c:=λc=>[I 0,I c]) (λc=>∀k,k<c->lS n m d k=ab) (by simp) rfl (λc g l p s=>?_) (λl p=>?_);simp only[i,G,A,O,a,g,decide_true,uh g,aK,zq];refine a8 ?_;refine eC (U:=n) (c:=λe=>[.bool (d c&&(ay e).all λT=> !d T||m c T),I e]) (λ_=>True) trivial (by simp) (λe o _ q j=>?_) (λ_ q=>?_);have j:=j trivial;rw[DN,<-aaM]at j
 generalize(d c&&(ay e).all λT=> !d T||m c T)=r at*;simp only[i,G,A,O,a,o,decide_true,uh o,wO g,aK,zq,By,bK];refine a8 (eb (M:=[]) (r&&(!d e||m c e)) (λw u=>?_) ?_);exact aW (λf=>h7 (by grind) (by grind)) (by grind);rw[a6,O,G];exact j;simp only[i,G,A,O,a,cn,decide_false];refine bz (b (λh=>?_) (λh=>?_));rw[G4 g h l];simp;rw[a6,O];refine s λk t=>?_;by_cases f:k=c;subst f;exact h;grind
 simp only[i,G,A,O,a,cn,decide_false];refine bz ?_;rw[Lf l];simp
def fz(n:Nat)(a:Nat->Bool):Obj:=.arr 0 1 ((ay n).map λb=>[.bool (a b)])
theorem aiS:((ay n).map λa=>[AV.bool (ct a)]).set U [.bool T]=(ay n).map λa=>[.bool (if a=U then T else ct a)]:=by
 apply ql;simp;grind
theorem G5(h:U<n):((ay n).map λa=>[AV.bool (ct a)])[U]?=aa [.bool (ct U)]:=by simp[h]
theorem DO{H:List Obj}{id:Nat}(h:H[id]?=aa (fz n ct))(b:U<n):dp 1 (.ptr id 0 U 0) (.bool T) H=aa (H.set id (fz n λa=>if a=U then T else ct a)):=by
 rw[Bu h (G5 b) rfl rfl,aiS]<;>rfl
theorem zD(h:∀a,a<n->ct a=rh a):fz n ct=fz n rh:=by
 simp_all[fz]
theorem BA(n:Nat):db n [ff]=(ay n).map λ_=>[AV.bool ab]:=by
 apply ql<;>simp
theorem U5{H:List Obj}{id:Nat}(h:H[id]?=aa (fz n ct)):aM H .cb (.q id 0 0 n) (eW ad n ct):=by
 refine .vX id 0 0 n 1 _ _ h (by simp) ?_;rw[ll,gP (by simp)];exact DM _ λa _=>.ck (.bool _ _) (.nil _)
theorem aiT{H:List Obj}{id:Nat}(h:H[id]?=aa (fz n ct)):aM H .res (.q id 0 0 n) (eW ab n ct):=by
 refine .pE id 0 0 n 1 _ _ h (by simp) ?_;rw[ll,gP (by simp)];exact DM _ λa _=>.ck (.bool _ _) (.nil _)
theorem U6(c:List Int)(s:n<1099511627776)(j:Sm c)(k:∀e∈c,0<=e/\e<n):PR C 208 [I n,eS T cI c] (eW ab n λd=>y ((d:Int)∈c)):=by
 apply afT.pr;apply aY (rY (by omega) (by omega));rw[BA];simp only[dK,eU,a1,O];refine bG (K:=Nat) (λb=>[I b]) (λb=>[fz n λd=>y ((d:Int)∈c.take b)]) (λb=>Z c -b) (λb=>b<=Z c) 0 (by simp) ?_ rfl (by simp[fz]);intro b r m l;simp only[G,A,O,a];by_cases h:b<Z c;let⟨p,q⟩:=k _ (bp h);let⟨e,f⟩:∃e:Nat,c[b]=e:=⟨c[b].toNat,by omega⟩;have g:e<n:=by omega
 have t:=l (b+1) h (by omega);simp only[h,decide_true,aF h (jf _),O,aK,lM];rw[f];refine a8 (aI (fu (b0:=(ay n).map λd:Nat=>[AV.bool (y ((d:Int)∈c.take b))]) (U:=0) rfl g) ?_);apply aI (DO rfl g);rw[a6 (j.lt h),O];have:fz n (λd=>if d=e then ad else y ((d:Int)∈c.take b))=fz n (λd=>y ((d:Int)∈c.take (b+1))):=by
  refine zD λd _=>?_;rw[iu h,f];by_cases i:d=e;grind;simp[i];omega
 grind;have:b=Z c:=by omega
 subst this;simp only[cn,decide_false,dU];exact bz (aiT rfl)
theorem Lg(t:n<1099511627776)(d:Nat->Bool):PR C 206 [eM n m,eW T n d] (I (qR n m d)):=by
 refine afp.pr ?_;simp only[Bx,O];refine aY (rY (by omega) (by omega)) ?_;rw[BA];simp only[dK,eU];refine bG (K:=Nat) (λf=>[I f]) (λf=>[fz n λb=>y (b<f)&&lT n m d b]) (λf=>n -f) (λf=>f<=n) 0 (by simp) ?_ rfl (by simp[fz]);intro b H D u;simp only[G,A,O,a];by_cases h:b<n;have K:=u (b+1) h (by omega);simp only[h,decide_true]
 refine a8 (aI (fu (U:=0) (b0:=(ay n).map λc=>[AV.bool (y (c<b)&&lT n m d c)]) rfl h) (aI (DO rfl h) ?_));refine bG (K:=Nat) (λe=>[I e]) (λe=>[fz n λc=>if c=b then(ay e).all λT=> !d T||m T b else(y (c<b)&&lT n m d c)]) (λe=>n -e) (λe=>e<=n) 0 (by simp) ?_ rfl (by simp);intro e J o v;simp only[G,A,O,a];by_cases i:e<n;have w:=v (e+1) i (by omega);simp only[i,decide_true,bw]
 have k:[fz n λc=>if c=b then(ay e).all λT=> !d T||m T b else(y (c<b)&&lT n m d c)][0]?=aa (fz n λc=>if c=b then(ay e).all λT=> !d T||m T b else(y (c<b)&&lT n m d c)):=rfl
 have go:∀j,j=((ay (e+1)).all λT=> !d T||m T b)->bd (bT 1 (.q 0 0 0 n) (I b) [fz n λc=>if c=b then(ay e).all λT=> !d T||m T b else(y (c<b)&&lT n m d c)]) λx=>bd (dp 1 x (.bool j) [fz n λc=>if c=b then(ay e).all λT=> !d T||m T b else(y (c<b)&&lT n m d c)]) λr=>bd (aT .s .add (I e) (I 1)) λz=>o [z] r:=by
  intro j l;refine aI (fu k h) (aI (DO rfl h) ?_);rw[a6,O];have:(λf=>if f=b then j else if f=b then(ay e).all λT=> !d T||m T b else(y (f<b)&&lT n m d f))=(λc=>if c=b then(ay (e+1)).all λT=> !d T||m T b else(y (c<b)&&lT n m d c)):=by
   funext f
   by_cases g:f=b;rw[if_pos g,if_pos g,l];rw[if_neg g,if_neg g,if_neg g]
  show o _ [fz n _];rw[this];exact w
 refine a8 (aI (fu k h) (aI (cY k (G5 h)) ?_));simp only[if_true,O,uh i,aK,zq,bK,wO i,By,uh h];rw[DN]at go;generalize((ay e).all λT=> !d T||m T b)=E at*;exact aW (λg=>h7 (λp=>go _ (by grind)) (λp=>go _ (by grind))) (λg=>go _ (by rw[g]<;>rfl));have:e=n:=by omega
 subst this;simp only[cn,decide_false];refine bz ?_;rw[a6,O];have:fz e (λc=>if c=b then(ay e).all λT=> !d T||m T b else(y (c<b)&&lT e m d c))=fz e (λc=>y (c<b+1)&&lT e m d c):=by
  refine zD λc _=>?_;by_cases g:c=b;subst g;simp[lT];rw[if_neg g]
  congr 1
  simp;omega
 grind;have:b=n:=by omega
 subst this;simp only[cn,decide_false];refine bz ?_;have l:fz b (λc=>y (c<b)&&lT b m d c)=fz b (lT b m d):=by grind[zD]
 rw[l];refine e4 _ (aiR t (lT b m d)) (.ck eu (.ck (U5 rfl) (.nil _))) (.int _ _) ?_;simp[qR]
end
variable{f b9:Int}{ea:K -> Bool}{x:List K}{ey:List (Int × Int)}{z:Nat}
section
open Go.Law
variable{H:List Obj}{id gg n:Nat}{hN:Nat->Nat}{m:cA}
def eA(b:bP)(a:Int):Bool:=y (0<=a)&&y (a<Z b.az)
def p0(b:bP)(a:Int×Int):Bool:=eA b a.1&&eA b a.2
def wP(b:List d)(a:Nat):Bool:=match b[a]? with|aa c=>(b.take a).contains c|ae=>ab
def p1(a:bP):Int:=
 if(bY a.au&& !y ((Z a.az:Int)<1)&& !y (8<(Z a.az:Int))&& !y (64<(Z a.eH:Int)))=ab then 1 else
 if a.az.all bY=ab then 1 else if a.eH.all (p0 a)=ab then 1 else
 if((ay (Z a.az)).any (wP a.az))=ad then 5 else 0
theorem jR(h:b9=f):aM M .res (AV.pl (I f)) (I b9):=by simp[h]
theorem aiU(h:∀a∈x,ea a=ab):x.any ea=false:=by
 grind
theorem aiV(d:bP)(t:lO d):PR C 251 [.agg (bo T d)] (I (p1 d)):=by
 refine ad2.pr ?_;simp only[mN,O,bj,aK,jh,Qt,o3,F3,e,a1,A,eX];refine eb (M:=[]) (!(bY d.au&& !y ((Z d.az:Int)<1)&& !y (8<(Z d.az:Int))&& !y (64<(Z d.eH:Int)))) (λm o=>?_) ?_;refine c (s5 _) ?_;simp only[bK,O];exact h7 (λv=>dV (by grind) (λw=>dV (by grind) (λx=>by simp_all))) (by grind);simp only[G];refine dw (by simp_all[p1]) (λh=>?_);rw[p1,if_neg (by grind)];have E:Z d.az<=8:=by
  simp only[bc,gZ,decide_eq_false_iff_not]at h;omega
 refine eC (U:=Z d.az) (c:=λf=>[I 0,I f]) (λf=>(d.az.take f).all bY=ad) (by simp) rfl (λf g k n o=>?_) (λk n=>?_);simp only[O,i,G,A,a,g,decide_true,aF g (iR _),aK,lN];refine a8 (c (s5 _) ?_);simp only[bK,O];refine dw (by grind[jR]) (λj=>?_);rw[a6,O];grind[n5];rw[dU]at k;simp only[O,i,G,A,a,cn,decide_false];refine bz ?_;rw[if_neg (by grind)]
 refine eC (U:=Z d.eH) (c:=λf=>[I 0,I f]) (λf=>(d.eH.take f).all (p0 d)=ad) (by simp) rfl (λf g k n o=>?_) (λk n=>?_);simp only[O,i,G,A,a,g,decide_true,aF g (tT _),iaaO_0,iaaO_1,aK,FZ,F0,fW,e,bw];refine a8 (c (GP _ _) ?_);simp only[bK,O];have bad:p0 d d.eH[f]=ab->aM [] .res (AV.pl (I 1)) (I (if d.eH.all (p0 d)=ab then 1 else if((ay (Z d.az)).any (wP d.az))=ad then 5 else 0)):=by grind[jR]
 refine h7 (λu=>c (GP _ _) ?_) (λj=>a8 (bad (by rw[p0,eA,j]<;>rfl)));simp only[bK,O];refine dw (by grind[p0,eA]) (λj=>?_);rw[t.2.inc g,O];grind[n5,p0,eA];rw[dU]at k;simp only[O,i,G,A,a,cn,decide_false];refine bz ?_;rw[if_neg (by grind)];refine eC (U:=Z d.az) (c:=λf=>[I 0,I f]) (λf=>∀l,l<f->wP d.az l=ab) (by simp) rfl (λf g k n o=>?_) (λk n=>?_);simp only[O,i,G,A,a,g,decide_true];refine a8 ?_
 have z:wP d.az f=(d.az.take f).contains d.az[f]:=by rw[wP,bu g]
 refine eC (U:=f) (c:=λm=>[I 0,I m]) (λm=>∀l(B:l<Z d.az),l<m->(d.az[f]==d.az[l])=ab) (by simp) rfl (λm q s p D=>?_) (λs p=>?_);have r:m<Z d.az:=by omega
 simp only[O,i,G,A,a,q,decide_true,aF g (iR _),aF r (iR _),aK,lN,gT];refine a8 (b (λj=>jR ?_) (λj=>?_));grind[List.mem_take_iff_getElem];rw[a6,O];grind;simp only[O,i,G,A,a,cn,decide_false];refine bz ?_;rw[a6,O];grind[List.mem_take_iff_getElem];simp only[O,i,G,A,a,cn,decide_false];refine bz (jR ?_);grind
def qS(d:cA)(e:List (Int×Int)):cA:=λa b=>d a b||e.any λc=>c.1==(a:Int)&&c.2==(b:Int)
theorem Lh(a:cA)(b:U<Z ey)(c:ey[U].1=N)(d:ey[U].2=z):bW (qS a (ey.take U)) N z ad=qS a (ey.take (U+1)):=by
 funext e f
 simp only[bW,qS,iu b,List.any_append,aaO,aaP,OC,c,d];grind
theorem U7(h:j2 H id gg hN n m)(p:0<=f/\f<n)(r:0<=b9/\b9<n)(s:∀c,j2 c id gg hN n (bW m f.toNat b9.toNat ad)->iz c):
 bd (bT 1 (.q id gg 0 n) (I f) H) λi=>bd (aQ 1 ab i H) λj=>bd (bT 1 j (I b9) H) λk=>bd (dp 1 k tt H) iz:=by
 obtain⟨a,rfl⟩:∃a:Nat,f=a:=⟨f.toNat,by omega⟩;obtain⟨e,rfl⟩:∃a:Nat,b9=a:=⟨b9.toNat,by omega⟩;have b:a<n:=by omega
 have d:e<n:=by omega
 let⟨l,g,o,_⟩:=h.st b d ad;rw[h.ia b,O,h.ld b,O,h.G2 b d,O,g,O];grind
def mj(a:Nat):Nat:=if a=0 then 1 else a+2
def ui(a:Nat):AV:=if a=0 then .dG else .q 2 (a -1) 0 a
structure zE(n:Nat)(d:cA)(i:Nat)(H:List Obj):Prop where
 len:Z H=if i=0 then 1 else i+2
 outer:0<i->H[2]?=aa (.arr (i -1) 1 ((ay i).map λa=>[.q (mj a) 0 0 n]))
 rows:∀a,a<i->H[mj a]?=aa (.arr 0 1 ((ay n).map λb=>[.bool (d a b)]))
theorem zE.grow{c:cA}(h:zE n c U H)(p:U<1099511627776):∃g,cJ 1 24 (ui U) (.sl ab [[.q (Z H) 0 0 n]]) (H++[.arr 0 1 ((ay n).map λb=>[.bool (c U b)])])=aa (ui (U+1),g)/\zE n c (U+1) g:=by
 by_cases f:U=0;subst f;have d:=h.len;rw[if_pos rfl]at d;obtain⟨e,rfl⟩:∃e,H=[e]:=by
  match H,d with
  |[e],_=>grind
 refine⟨[e,.arr 0 1 ((ay n).map λb=>[.bool (c 0 b)]),.arr 0 1 [[.q 1 0 0 n]]],?_,⟨by simp,λ_=>by simp[mj],λa i=>?_⟩⟩;simp[cJ,ij,ui,AV.isNil];grind[mj];have d:=h.len;rw[if_neg f]at d;have l:=h.outer (by omega);have r:(H++[Obj.arr 0 1 ((ay n).map λb=>[.bool (c U b)])])[2]?=aa (.arr (U -1) 1 ((ay U).map λa=>[.q (mj a) 0 0 n])):=by
  rw[oA (by omega)];exact l
 refine⟨(H++[Obj.arr 0 1 ((ay n).map λb=>[AV.bool (c U b)])]).set 2 (.arr U 1 ((ay (U+1)).map λa=>[.q (mj a) 0 0 n])),?_,⟨?_,λ_=>?_,λa i=>?_⟩⟩;have m:mj U=Z H:=by rw[mj,if_neg f,d]
 have s:(ay (U+1)).map (λa=>[AV.q (mj a) 0 0 n])=((ay U).map λa=>[AV.q (mj a) 0 0 n])++[[.q (Z H) 0 0 n]]:=by
  rw[uK,hE,<-m]<;>rfl
 grind[ui,cJ,ij,AV.isNil];simp[d];grind;have k:2≠mj a:=by unfold mj;split<;>omega
 rw[vR k];by_cases o:a=U;grind[mj];have j:mj a<Z H:=by unfold mj;split<;>omega
 rw[oA j];exact h.rows a (by omega)
theorem zE.U8{a:cA}(h:zE n a n H)(b:0<n):j2 H 2 (n -1) mj n a:=
 ⟨h.outer b,h.rows,by grind[mj],by grind[mj]⟩
def vk:cA:=λa b=>y (a=b)
def dy(a:bP):cA:=kL (qS vk a.eH) (Z a.az)
theorem Li(d:bP)(F:0<Z d.az/\Z d.az<=8)(z:d.eH.all (p0 d)=ad)(K:lO d):PR C 207 [.agg (bo T d)] (eM (Z d.az) (dy d)):=by
 apply aep.pr;simp only[mN,O,e3,ft,bj,aK,o3,F3,e,a1,dK];generalize x:Z d.az=n at*;apply bG (K:=Nat×List Obj) (λc=>[ui c.1,I c.1]) (λc=>c.2) (λc=>n -c.1) (λc=>c.1<=n/\zE n vk c.1 c.2) (0,[.arr 0 1 []]) ⟨by simp,⟨by simp,λh=>absurd h (by simp),λp y=>absurd y (by simp)⟩⟩;rintro⟨f,H⟩ ⟨B,m⟩ P o;simp only at B m o⊢;simp only[O,i,G,A,a];refine b (λh=>?_) (λh=>?_);have h:f<n:=by simpa using h
 apply aY (rY (by omega) (by omega));rw[BA];have t:(H++[Obj.arr 0 1 ((ay n).map λ_=>[AV.bool ab])])[Z H]?=aa (fz n λ_=>ab):=by simp[fz]
 refine aI (fu (b0:=(ay n).map λ_=>[AV.bool ab]) t h) (aI (DO t h) ?_);have L:(H++[Obj.arr 0 1 ((ay n).map λ_=>[AV.bool ab])]).set (Z H) (fz n λg=>if g=f then ad else ab)=H++[.arr 0 1 ((ay n).map λT=>[.bool (vk f T)])]:=by
  rw[Oo _ _ (c5 _)];simp only[Ot,yU,fz]
  congr 4
  funext g
  simp only[vk];by_cases r:g=f;subst r;simp;rw[if_neg r];simp;omega
 rw[L];let⟨j,v,w⟩:=m.grow (by omega);refine aI (dR:=.sl ab [[.q (Z H) 0 0 n]]) rfl (aY v ?_);rw[a6,O];exact o (f+1,j) ⟨h,w⟩ (by simp;omega);have:f=n:=by simp at h;omega
 subst this;have E:=m.U8 F.1;have J:ui f=.q 2 (f -1) 0 f:=by rw[ui,if_neg (by omega)]
 rw[J];clear o;apply bG (K:=Nat×List Obj) (λc=>[I c.1]) (λc=>c.2) (λc=>Z d.eH -c.1) (λc=>c.1<=Z d.eH/\j2 c.2 2 (f -1) mj f (qS vk (d.eH.take c.1))) (0,H) ⟨by simp,E.congr λp T _ _=>by simp[qS]⟩;rintro⟨g,N⟩ ⟨D,k⟩ Q u;simp only at D k u⊢;simp only[O,G,A,a];refine b (λh=>?_) (λh=>?_);have h:g<Z d.eH:=by simpa using h
 have l:=eL.1 z _ (bp h);simp only[p0,eA,bc,decide_eq_true_eq,x]at l;simp only[aF h (tT _),O,iaaO_0,iaaO_1,aK,FZ,F0,fW,e];refine U7 k l.1 l.2 λj s=>?_;rw[K.2.inc h,O];refine u (g+1,j) ⟨h,?_⟩ (by simp;omega);grind[Lh,vk];have:g=Z d.eH:=by simp at h;omega
 subst this;rw[dU]at k;refine U3 (by omega) k λj s=>?_;have:=s.snap;simp_all[dy]
end
end AM
end Go
