/- SnapshotMatchesReference, 10 of 11 -/
import Derived.Test.YtmkbfepnleajhaaGreatDoorYb
set_option maxRecDepth 100000
open List renaming length->Z,perm_middle->alf
open Option renaming some->T
open Bool renaming true->ab,false->aa,not_eq_true->Kr
open Decidable renaming decide->S
open Array renaming toList->bU
open Go.Proofs.Tryz renaming prog->a1
open Go.Proofs.YtmkbfepnleajhaaGreatDoor.Rows renaming snapshotModelMatchesReferenceUptoRow->g2
open Int renaming mul_nonneg->akU
open List.Pairwise renaming imp_of_mem->anz
namespace Go
namespace AM
open Go.Law
theorem are(e:eP C):PR C 12 [] (.bool ab):=by
 have s:PR C 14 [.agg (cP aa aa pC),eS ab (cF aa) gx] (.bool ab):=by
  have:=e.B0 (V:=false) (F:=false) (bp:=true) (b2:=false) pC gx (wC (.inl rfl)) (jI (by decide)) vd;grind[zN,J1]
 have t:PR C 14 [.agg (cP aa aa pC),eS aa (cF aa) [ga 0 [98] [97],ga 0 [97] [98]]] (.bool aa):=by
  have:=e.B0 (V:=false) (F:=false) (bp:=false) (b2:=false) pC [ga 0 [98] [97],ga 0 [97] [98]] (wC (.inl rfl)) (jI (by decide)) (λc b=>vd c (by
   simp only[cf,iW,or_false]at b;rcases b with rfl|rfl<;>decide))
  grind[zN,ai4]
 have u:PR C 28 [eS aa cV [fh [97],fh [98],fh [97]],eS aa cV [fh [97],fh [98],fh [97]]] (I 0):=by
  have:=kq (V:=false) (F:=false) [fh [97],fh [98],fh [97]] [fh [97],fh [98],fh [97]] ⟨jI (by decide),λx l=>by
   simp only[cf,iW,or_false]at l;rcases l with rfl|rfl|rfl<;>exact jI (by decide)⟩
  rwa[(TO.aE.eq _ _).2 rfl]at this
 refine Z3.pr ?_;refine f ai0 ?_;refine aD (dD:=cP aa aa pC) rfl ?_;refine f (wB 0 [97] [98]) (f (wB 0 [98] [97]) ?_);refine aD (dD:=eS aa (cF aa) js) rfl ?_;have gc:(AV.agg [g (cP aa aa pC) 0,g (cP aa aa pC) 1,g (cP aa aa pC) 2,g (cP aa aa pC) 3])=.agg (cP aa aa pC):=rfl;simp only[gc];refine f q23 ?_;refine aD rfl (aD rfl (aD rfl ?_))
 refine f (wB 1 [97] [97]) (f (wB 1 [97] [98]) (f (wB 1 [98] [97]) (f (wB 1 [98] [98]) ?_)));refine aD (dD:=eS aa (cF aa) [ga 1 [97] [97],ga 1 [97] [98],ga 1 [98] [97],ga 1 [98] [98]]) rfl ?_;refine bj (ajs (r8 (hE aa) _ _ _) (by decide) rfl (by decide) (by decide)) ?_;refine aD (dD:=eS aa cI [1]) rfl ?_;refine f q17 ?_;refine aD rfl (aD (dD:=.agg (aP aa gL)) rfl ?_)
 have g3:aI [Obj.arr 0 3 (gx.map (cF aa))] .cm (.q 0 0 0 (Z gx)) (eS ab (cF aa) gx):=l7 rfl (by simp);refine ea _ q19 (.ck cy (.ck g3 (.ck cy (.nil _)))) ?_ ?_
 ·exact .aE _ (.cons _ _ (rA (λv=>.cons _ _ (zE _) .nil) _) (.cons _ _ (rA (λv=>.cons _ _ (rA (λw=>.cons _ _ (.int _ _) .nil) _) .nil) _) .nil))
 refine aD rfl (aD rfl ?_);refine pg (N:=[Obj.arr 0 3 (gx.map (cF aa))]) aa [g (cP aa aa pC) 0,g (cP aa aa pC) 1,g (cP aa aa pC) 2,g (cP aa aa pC) 3] (λr d=>?_) ?_
 ·refine aD rfl (dx (λ_=>?_) (λh=>by cases h))
  refine ea _ (Bb gx gx (jI (by decide)) (λc b=>(vd c b).1)) (.ck cy (.ck g3 (.nil _))) (.bool _) ?_;refine aD (dD:=.bool aa) (by simp) (dx (λ_=>?_) (λh=>by cases h));refine f (wB 1 [97] [98]) (f (wB 1 [98] [97]) ?_);refine aD (dD:=eS aa (cF aa) [ga 1 [97] [98],ga 1 [98] [97]]) rfl ?_;refine f (Bb [ga 1 [97] [98],ga 1 [98] [97]] [ga 1 [97] [98],ga 1 [98] [97]] (jI (by decide)) (λc b=>(vd c (by
   simp only[cf,iW,or_false]at b;rcases b with rfl|rfl<;>decide)).1)) ?_
  refine aD (dD:=.bool aa) (by simp) (dx (λ_=>?_) (λh=>by cases h));refine aD rfl (aD rfl (dx (λ_=>?_) (λh=>by cases h)));refine aD rfl (aD rfl ?_);exact d
 simp only[G,i];refine bq ?_;have p:(AV.agg [g (cP aa aa pC) 0,g (cP aa aa pC) 1,g (cP aa aa pC) 2,g (cP aa aa pC) 3])=.agg (cP aa aa pC):=rfl;simp only[p];refine ea _ aoU (.ck cy (.ck g3 (.nil _))) (.aE _ (.cons _ _ (rA (λc=>.cons _ _ (.int _ _) (.cons _ _ (zE _) (.cons _ _ (.int _ _) .nil))) _) (.cons _ _ (.int _ _) .nil))) ?_;refine aD rfl (aD rfl ?_)
 refine pg (N:=[Obj.arr 0 3 (gx.map (cF aa))]) ab [g (cP aa aa pC) 0,g (cP aa aa pC) 1,g (cP aa aa pC) 2,g (cP aa aa pC) 3] (λr d=>?_) ?_
 ·refine ea _ s (.ck cy (.ck g3 (.nil _))) (.bool _) ?_
  refine aZ (λ_=>?_) (λh=>by cases h);refine aD rfl (aD rfl (aD rfl (aD rfl ?_)));refine aD (dD:=eS aa (cF aa) [ga 0 [98] [97],ga 0 [97] [98]]) rfl ?_;refine f t ?_;refine aD rfl (aZ (λ_=>?_) (λh=>by cases h));refine aD rfl (aZ (λ_=>?_) (λh=>by cases h));refine aD rfl (aD (dD:=eS aa cV [fh [97],fh [98],fh [97]]) rfl ?_);refine f (Ci [97]) (f (Ci [98]) (f (Ci [97]) ?_))
  refine aD (dD:=eS aa cV [fh [97],fh [98],fh [97]]) rfl ?_;refine f u ?_;refine aD rfl ?_;exact d
 simp
noncomputable def amy(a:aj):Bool:=iH a&&(Z (nA a):Int)==0&&(Z (se a):Int)==0
variable{apN:Bool}
theorem k25(a:aj)(e:dW a)(c:Z a.ah<=20)(g:∀r∈a.ah,j6 r)(d:nN a->ky a):PR C 25 [.agg (cP aa apN a)] (.bool (amy a)):=by
 refine r25.pr ?_;simp only[dS,Q,fQ,bo,G];refine f (afx a e) (aZ (λh=>?_) (λh=>bE (by rw[amy,h]<;>rfl)));refine f (Ot a c g) ?_;simp only[a8,c9,Q];refine aZ (λb=>?_) (λb=>bE (by rw[amy,h,b]<;>rfl));refine f (O4 a (d (QM.1 h)) c) ?_;simp only[a8,c9,Q];exact gU (by rw[amy,h,b]<;>rfl)
theorem k60(a:aj)(r:aG)(e:dW (ik a r))(g:j6 r):PR C 60 [.agg (cP aa apN a),.agg (aP aa r)] (.bool (iH (ik a r)&&nA (ik a r)==[])):=by
 refine r60.pr ?_;have gc:(AV.agg [eS aa (bn aa) a.m,eS aa (b8 aa) a.aW,eS aa (bF aa) a.d,eS aa (aP aa) [r]])=.agg (cP aa aa (ik a r)):=rfl;refine aD (dD:=cP aa apN a) rfl (aD (dD:=.aK aa (aP aa r) 0) rfl ?_);rw[kR,Q];refine aD (dD:=.sl aa [aP aa r]) rfl (aD (dD:=eS aa (aP aa) [r]) rfl ?_);simp only[bo];refine f (afx (V:=false) (ik a r) e) (aZ (λh=>?_) (λh=>bE (by rw[h]<;>rfl)))
 refine f (Ot (F:=false) (ik a r) (by simp[ik]) (by grind[ik])) ?_;simp only[a8,Q,c9,G,h,cu];refine gU ?_;cases nA (ik a r)<;>simp<;>omega
noncomputable def anD(a:aj)(c:List Int)(b:List aw):List aw:=if(amy a&&jk a b)=ab then nK a c b else[]
variable{atB atT:Bool}{apO:aj}
theorem k18(a:List aw)(c:List Int)(g:dW apO)(p:Sm a)(m:∀i∈a,eO i.ad)(w:Z apO.ah<=12)(s:∀r∈apO.ah,j6 r)(k:nN apO->ky apO)(l:Sm c)
 (o:(amy apO&&jk apO a)=ab->∃d,mK apO d/\dq apO d a)(v:Z a<=100000):
 PR C 18 [.agg (cP aa apN apO),eS atT cI c,eS atB (cF aa) a] (eS aa (cF aa) (anD apO c a)):=by
 refine r18.pr ?_;rw[dS,Q];refine eh (N:=[]) (!(amy apO&&jk apO a)) (λx e=>?_) ?_
 ·rw[fQ,Q]
  refine f (k25 apO g (by omega) s k) ?_;rw[bD,Q];refine dx (λh=>?_) (λh=>kB e (by simp_all));rw[Q];have h:amy apO=true:=by simpa using h
  have t:nN apO:=by
   simp only[amy,bG]at h;exact QM.1 h.1.1
  refine f (adS apO a g (SM t) p m) ?_;rw[bD,Q];exact kB e (by simp_all)
 simp only[G];unfold anD;refine b (λh=>?_) (λh=>?_)
 ·rw[if_neg (λj=>by rw[j]at h;cases h)]
  exact .ai _ _
 ·have h:(amy apO&&jk apO a)=true:=by simpa using h
  rw[if_pos h];obtain⟨d,q,n⟩:=o h;rw[fQ,Q];exact f (aeI apO d c a q n (by omega) l) (by simp[Im.snap])
theorem arf(g:eP C)(n:wA C)(j:x5 C)(a:List aw)(c:List Int)(z:dW apO)(x:Sm a)(t:∀o∈a,eO o.ad)(l:Z apO.ah<=12)(A:∀r∈apO.ah,j6 r)(k:nN apO->ky apO)(s:Sm c)
 (w:(amy apO&&jk apO a)=ab->∃d,mK apO d/\dq apO d a)(p:Z a<=100000):
 PR C 17 [.agg (cP aa apN apO),eS atT cI c,eS atB (cF aa) a] (eS aa (cF aa) (anD apO c a)):=by
 unfold anD;by_cases h:(amy apO&&jk apO a)=ab
 ·rw[if_pos h]
  obtain⟨d,y,v⟩:=w h;simp only[amy,bG,beq_iff_eq]at h;obtain⟨⟨⟨m,F⟩,E⟩,u⟩:=h;exact ai1 g n j a c y v p (by rw[m,u]<;>rfl) (k (QM.1 m)) l (wF (by omega)) (wF (by omega)) s
 rw[if_neg h];refine XQ.pr ?_;rw[dS,Q];refine eh (N:=[]) ab (λH e=>?_) ?_
 ·rw[fQ,Q]
  refine f (g.B0 apO a z x t) ?_;rw[bD,Q];refine dx (λb=>?_) (λb=>kB e rfl);have b:(iH apO&&jk apO a)=true:=by simpa using b
  simp only[bG]at b;refine f (HE apO (by omega) A) ?_;simp only[a8,Q,er];refine dx (λi=>?_) (λi=>kB e rfl);refine f (Rs j apO (k (QM.1 b.1)) l) ?_;simp only[a8,Q,er];refine kB e ?_;simp only[amy,b.1,b.2,cu,ve,bG,beq_iff_eq,decide_eq_false_iff_not]at h i;refine(decide_eq_true ?_).symm;by_cases q:(Z (se apO):Int)=0
  ·exact absurd ⟨by omega,q⟩ h
  ·omega
 simp only[G];exact a7 (.ai _ _)
variable{avF:List lT}{aoO:Nat}
theorem ard{b:lT}(h:avF.Pairwise kH)(g:∀c∈avF.drop aoO,kH b c)(i:∀c∈avF.take aoO,kH c b):(avF.take aoO++b::avF.drop aoO).Pairwise kH:=by
 have a:(avF.take aoO++avF.drop aoO).Pairwise kH:=by rwa[vg]
 rw[ak5]at a⊢;refine⟨a.1,zU.2 ⟨g,a.2.1⟩,λd e f hb=>?_⟩;rcases cf.1 hb with rfl|hb
 ·exact i d e
 ·exact a.2.2 d e f hb
theorem asn{c:lT}(h:avF.Pairwise kH)(g:aoO<Z avF)(a:kH avF[aoO] c):∀d∈avF.take (aoO+1),kH d c:=λd i=>by
 obtain⟨b,f,rfl⟩:=jS.1 i;rw[gb]at f;rw[Cu];by_cases e:b=aoO
 ·subst e;exact a
 ·exact ajg _ _ _ (List.pairwise_iff_getElem.1 h b aoO (by omega) g (by omega)) a
section
variable{α:Type}{L:List α}{y:α}{j:Nat}
def ae6(L:List α)(j:Nat)(y:α):List α:=L.take j++y::L.drop j
theorem apG(h:j<Z L):(ae6 L (j+1) y)[j]?=T L[j]:=by
 unfold ae6;rw[lU (by rw[gb];omega),List.getElem?_take,if_pos (by omega),bC h]
theorem apH(h:j<=Z L)(a:α):(ae6 L j y).set j a=ae6 L j a:=by
 unfold ae6;have b:Z (L.take j)=j:=by rw[gb];omega
 rw[Kd _ _ (by omega),b,Ke,yk]
theorem arc(h:j<Z L):ae6 L (j+1) L[j]=ae6 L j L[j]:=by
 unfold ae6;rw[hX h,fH,mQ h];rfl
theorem aof(h:j<=Z L):(ae6 L j y)[j]?=T y:=by
 unfold ae6;have a:Z (L.take j)=j:=by rw[gb];omega
 rw[FH (by omega),a,Ke];rfl
theorem arb:ae6 L (Z L) y=L++[y]:=by simp[ae6]
end
variable{apF:List Obj}{at4:List (List AV)}{apE apQ:AV}
theorem aor{id g:Nat}(h:apF[id]?=T (.arr g 1 at4))(d:at4[aoO]?=T [apE])(e:apQ.pl=apQ)(c:apQ.cells=[apQ])(b:apQ.bP=ab):df 1 (.ptr id g aoO 0) apQ apF=T (apF.set id (.arr g 1 (at4.set aoO [apQ]))):=by
 have a:eV [apE] 0 [apQ]=[apQ]:=by simp[eV]
 simp[df,h,d,e,c,b,a]
variable{avi:SR}{atG:aN}
theorem SR.apR(a:avi.ok)(h:w apF (avi.P++atG)):aI apF .cm avi.v.pl (eS ab cV avi.s.1):=by
 rw[(SR.cells a).2.1];cases SR.g3 a h with
 |agg _ _ _ h=>cases h with
  |cons _ _ _ _ _ h _=>exact h
theorem k20{r:aG}(t:List aw)(gh:dW apO)(gi:dW (ik apO r))(gc:Sm t)(f7:∀b4∈t,eO b4.ad)(go:(iH apO&&jk apO t)=ab)(gt:iH (ik apO r)=ab)(gj:nA (ik apO r)=[])
 (ge:PY apO t r)(dF:j6 r)(h4:∀c∈fK r,c≠[])(h3:Z (fK r)<1000000)(hz:Z (ie r)<1000000)(hB:Z (fA apO t r)<=3000)
 (f3:∀k∈fA apO t r,Bx k/\(∀c∈ie r,c∈k.m)/\eO ((fK r).map (rL k))):
 ∃x:List lT,x.Perm ((fA apO t r).map (nS (fK r) (ie r)))/\x.Pairwise kH/\
  PR C 20 [.agg (cP aa apN apO),eS atB (cF atT) t,.agg (aP aa r)] (.aE [eS aa J3 x,eS aa J4 x]):=by
 suffices h:HR C 20 [.agg (cP aa apN apO),eS atB (cF atT) t,.agg (aP aa r)] [] (λcK bw=>∃x:List lT,x.Perm ((fA apO t r).map (nS (fK r) (ie r)))/\x.Pairwise kH/\aI bw .res cK (.aE [eS aa J3 x,eS aa J4 x]))by
  obtain⟨cK,bw,M,x,ae,O,af⟩:=h;exact⟨x,ae,O,cK,bw,M,af⟩
 refine r20.hq ?_;refine aD (dD:=.aK aa (cP aa apN apO) 0) rfl (aD (dD:=.aK aa (aP aa r) 0) rfl ?_);simp only[eA,dZ,c3,de,Kk];refine eh (N:=[Obj.arr 0 1 [],Obj.arr 0 1 []]) aa (λaB a2=>?_) ?_
 ·simp only[fQ,kR,Q]
  refine f (xU apO t gh gc f7) ?_;rw[go,bD,Q];refine dx (λ_=>?_) (λh=>by cases h);refine f (k60 apO r gi dF) ?_;simp only[gt,gj,bD,Q];exact kB a2 rfl
 simp only[G];refine bq ?_;generalize ds:[Obj.arr 0 1 [],Obj.arr 0 1 []]=a4;have ds:w a4 []:=⟨vi,λc W=>by cases W⟩;simp only[kR,fQ,Q];refine f (Hv r dF) ?_;refine aD (dD:=eS aa cS (fK r)) rfl (aD (dD:=eS aa cS (ie r)) rfl ?_);refine f (aeF apO t r ge) ?_;have dD:=(ds.alloc (.arr 0 1 [])).alloc (.arr 0 1 []);simp only[fb,gz]at dD⊢;generalize(a4++[Obj.arr 0 1 []])++[Obj.arr 0 1 []]=bz at*
 generalize Z a4+1=d6 at*;generalize Z a4=d7 at*;generalize fA apO t r=env at*;refine bB (z:=Nat×AV×AV×List SR×aN×aN×List Obj) (λg=>[g.2.1,g.2.2.1,I (g.1:Int)]) (λg=>g.2.2.2.2.2.2) (λg=>Z env -g.1)
  (λg=>g.1<=Z env/\(g.2.2.2.1.map (·.s)).Perm ((env.take g.1).map (nS (fK r) (ie r)))/\(g.2.2.2.1.map (·.s)).Pairwise kH/\(∀c∈g.2.2.2.1,c.ok/\eO c.s.1)/\bA g.2.1 (λc:SR=>[c.v]) 1 g.2.2.2.1 g.2.2.2.2.1/\bA g.2.2.1 (λc:SR=>[c.e]) 1 g.2.2.2.1 g.2.2.2.2.2.1/\w g.2.2.2.2.2.2 (g.2.2.2.2.1++(g.2.2.2.2.2.1++((g.2.2.2.1.map (·.P)).flatten++[]))))
  (0,.q d7 0 0 0,.q d6 0 0 0,[],[(d7,.arr 0 1 [])],[(d6,.arr 0 1 [])],bz) ⟨by simp,by simp,List.Pairwise.nil,by simp,bA.of (o:=([]:List SR)),bA.of (o:=([]:List SR)),?_⟩ ?_
 ·exact dD.perm (List.Perm.swap _ _ _)
 rintro⟨E,hv,hu,d,Pa,bL,B⟩ ⟨f8,a3,br,cq,bg,b9,ah⟩ c6 d2;simp only at f8 a3 br cq bg b9 ah d2⊢;have hx:Z d=E:=by
  have:=a3.length_eq;rw[kd,kd,gb]at this;omega
 simp only[G,i,a8,A,Q,a];refine b (λaq=>?_) (λak=>?_)
 ·have aq:E<Z env:=by simpa using aq
  obtain⟨bi,f4,f6⟩:=f3 _ (bs aq);simp only[aC aq (Ma _ _),Dc,a6,aH,GL,GM,aJ,Q];have fp:(env.take (E+1)).map (nS (fK r) (ie r))=(env.take E).map (nS (fK r) (ie r))++[nS (fK r) (ie r) env[E]]:=by rw[hX aq,ht]<;>rfl
  generalize env[E]=k at*;have fL:=ah.alloc (.arr 0 3 []);generalize B++[Obj.arr 0 3 []]=ey at*;generalize Z B=d9 at*
  refine bB (z:=Nat×AV×aN×List Obj) (λg=>[g.2.1,I (g.1:Int)]) (λg=>g.2.2.2) (λg=>Z (fK r) -g.1) (λg=>g.1<=Z (fK r)/\bA g.2.1 cV 3 (((fK r).take g.1).map (rL k)) g.2.2.1/\w g.2.2.2 (g.2.2.1++(Pa++(bL++((d.map (·.P)).flatten++[]))))) (0,.q d9 0 0 0,[(d9,.arr 0 3 [])],ey) ⟨by simp,bA.of (o:=([]:List aO)),fL⟩ ?_;rintro⟨j,eq,be,c2⟩ ⟨ci,bm,M⟩ hm d3;simp only at ci bm M d3⊢;simp only[G,i,A,Q,a]
  refine b (λl=>?_) (λcn=>?_)
  ·have l:j<Z (fK r):=by simpa using l
   simp only[aC (a2:=cS) (O:=1) l rfl,Q];refine aD (dD:=.str (fK r)[j]) rfl (aD (dD:=cT (tV (fK r)[j])) rfl ?_);refine f (HZ k (tV (fK r)[j]) bi.ax bi.bl) ?_;refine aD (dD:=.agg (cV (rL k (fK r)[j]))) rfl (aD (dD:=.bool (bW k (tV (fK r)[j])).2) rfl ?_);refine aD (dD:=cV (rL k (fK r)[j])) rfl (aD (dD:=.sl aa [cV (rL k (fK r)[j])]) rfl ?_)
   obtain⟨id,bf,bz,aQ,ae⟩:=bA.app (bytes:=32) bm M (rL k (fK r)[j]) rfl (by simp;omega);refine bj aQ ?_;rw[ba,Q];have b3:((fK r).take j).map (rL k)++[rL k (fK r)[j]]=((fK r).take (j+1)).map (rL k):=by rw[hX l,ht]<;>rfl
   rw[b3]at ae⊢;exact d3 (j+1,_,[(id,.arr bf 3 ((((fK r).take (j+1)).map (rL k)).map cV))],bz) ⟨l,bA.of,ae⟩ (by omega)
  have:j=Z (fK r):=by simp at cn;omega
  subst this;rw[dB]at bm;have fM:=M.alloc (.arr 0 1 []);generalize c2++[Obj.arr 0 1 []]=ez at*;generalize Z c2=d8 at*
  refine bB (z:=Nat×AV×aN×List Obj) (λg=>[g.2.1,I (g.1:Int)]) (λg=>g.2.2.2) (λg=>Z (ie r) -g.1) (λg=>g.1<=Z (ie r)/\bA g.2.1 cI 1 (((ie r).take g.1).map (jO k)) g.2.2.1/\w g.2.2.2 (g.2.2.1++(be++(Pa++(bL++((d.map (·.P)).flatten++[])))))) (0,.q d8 0 0 0,[(d8,.arr 0 1 [])],ez) ⟨by simp,bA.of (o:=([]:List Int)),fM⟩ ?_;rintro⟨j,ev,bS,es⟩ ⟨ci,ak,O⟩ hn d4;simp only at ci ak O d4⊢;simp only[G,i,A,Q,a]
  refine b (λl=>?_) (λcn=>?_)
  ·have l:j<Z (ie r):=by simpa using l
   obtain⟨il,f9,L,aQ⟩:=O8 bi (f4 _ (bs l));simp only[aC (a2:=cS) (O:=1) l rfl,Q];refine aD (dD:=.str (ie r)[j]) rfl ?_;refine f (nw k.m _ bi.m) ?_;rw[L];simp only[aC f9 (g4 _),Q,aH,j4,<-aQ,Bi];obtain⟨id,bf,ex,eT,af⟩:=bA.app (bytes:=8) ak O (jO k (ie r)[j]) rfl (by simp;omega);refine bj eT ?_;rw[ba,Q]
   have b3:((ie r).take j).map (jO k)++[jO k (ie r)[j]]=((ie r).take (j+1)).map (jO k):=by rw[hX l,ht]<;>rfl
   rw[b3]at af⊢;exact d4 (j+1,_,[(id,.arr bf 1 ((((ie r).take (j+1)).map (jO k)).map cI))],ex) ⟨l,bA.of,af⟩ (by omega)
  have:j=Z (ie r):=by simp at cn;omega
  subst this;rw[dB]at ak;obtain⟨c,rfl,rfl,d0,bu⟩:∃c:SR,c.v=eq/\c.e=ev/\c.P=be++bS/\c.s=nS (fK r) (ie r) k:=⟨⟨eq,ev,be++bS,nS (fK r) (ie r) k⟩,rfl,rfl,rfl,rfl⟩;have X:c.ok:=⟨be,bS,by rw[bu];exact bm,by rw[bu];exact ak,d0⟩;have gA:eO c.s.1:=by rw[bu];exact f6
  have au:∀o∈d++[c],o.ok/\eO o.s.1:=λo z=>by
   rcases c5.1 z with h|h
   ·exact cq o h
   ·rw[lV]at h;subst h;exact⟨X,gA⟩
  have af:w es (Pa++(bL++(((d++[c]).map (·.P)).flatten++[]))):=by
   refine O.perm ?_;rw[ht,zQ,FI,List.flatten_singleton,d0]
   classical
   grind
  obtain⟨aL,ee,ed⟩:=SR.cells X;simp only[gy,qJ,zP,ve,bG]at aL;rw[bg.ln,Q,Ta ee (SR.S9 X).1 aL.1,Q];obtain⟨Y,F,hl,e2,ce⟩:=bA.app (bytes:=24) bg af c rfl (by omega);refine bj e2 ?_;rw[Ta ed (SR.S9 X).2 aL.2,Q];obtain⟨K,y,eR,fd,f2⟩:=bA.app (bytes:=24) b9 (w.front ce) c rfl (by omega);refine bj fd ?_;have hy:Z (d++[c])=Z d+1:=by simp
  refine bB (z:=Nat×SR×List Obj) (λg=>[I (g.1:Int)]) (λg=>g.2.2) (λg=>g.1) (λg=>g.1<=Z d/\(∀o∈d.drop g.1,0<jj o.s.1 c.s.1)/\w g.2.2 ((K,.arr y 1 ((ae6 d g.1 g.2.1).map λc=>[c.e]))::((Y,.arr F 1 ((ae6 d g.1 g.2.1).map λc=>[c.v]))::(((d++[c]).map (·.P)).flatten++[])))) (Z d,c,eR) ⟨di _,by simp,by simp only[arb];exact f2⟩ ?_;rintro⟨j,n,a9⟩ ⟨V,cg,R⟩ ho d5;simp only at V cg R d5⊢
  have N:=R.get (U:=Y) (iX:=.arr F 1 ((ae6 d j n).map λc=>[c.v])) (by simp);have ob:=R.get (U:=K) (iX:=.arr y 1 ((ae6 d j n).map λc=>[c.e])) (by simp)
  have f5:∀bb,(0<j->¬0<jj (d.getD (j -1) c).s.1 c.s.1)->w bb ((K,.arr y 1 ((ae6 d j c).map λc=>[c.e]))::((Y,.arr F 1 ((ae6 d j c).map λc=>[c.v]))::(((d++[c]).map (·.P)).flatten++[])))->c6 [.q Y F 0 (Z (d++[c])),.q K y 0 (Z (d++[c])),I ((E+1:Nat):Int)] bb:=by
   intro bb co f1;have bp:(ae6 d j c).Perm (d++[c]):=by
    unfold ae6;refine alf.trans ?_;rw[vg];exact TM (l₁:=[c])
   have fn:Z (d++[c])=Z (ae6 d j c):=bp.length_eq.symm;rw[fn];refine d2 (E+1,_,_,ae6 d j c,[(Y,.arr F 1 ((ae6 d j c).map λc=>[c.v]))],[(K,.arr y 1 ((ae6 d j c).map λc=>[c.e]))],bb) ⟨aq,?_,?_,λo z=>au o (bp.mem_iff.1 z),bA.of,bA.of,?_⟩ (by simp only;omega)
   ·simp only
    rw[fp,<-bu];refine(bp.map _).trans ?_;rw[ht];exact a3.append_right _
   ·simp only
    have k:(ae6 d j c).map (·.s)=(d.map (·.s)).take j++c.s::(d.map (·.s)).drop j:=by simp[ae6,Ks,Ku]
    rw[k];refine ard br (λn d1=>?_) ?_
    ·rw[<-Ku]at d1
     obtain⟨o,z,rfl⟩:=du.1 d1;have:=cg o z;unfold kH;omega
    ·rcases j with _|j
     ·simp
     ·have J:j<Z d:=by omega
      refine asn br (by simpa using J) ?_;have H:=co (by omega);rw[Nat.add_sub_cancel,oM,bC J,oK]at H;rw[wH];unfold kH;rwa[TO.aE.ta]
   ·refine f1.perm ?_
    refine(List.Perm.swap _ _ _).trans ?_;exact List.Perm.cons _ (List.Perm.cons _ (((bp.map (·.P)).symm.flatten).append_right _))
  have dG:(0<j->¬0<jj (d.getD (j -1) c).s.1 c.s.1)->bd (bY 1 (.q Y F 0 (Z (d++[c]))) (I (j:Int)) a9) λgM=>bd (df 1 gM c.v a9) λdm=>bd (bY 1 (.q K y 0 (Z (d++[c]))) (I (j:Int)) dm) λgN=>bd (df 1 gN c.e dm) λfI=>bd (aS .s .add (I (E:Int)) (I 1)) λhe=>c6 [.q Y F 0 (Z (d++[c])),.q K y 0 (Z (d++[c])),he] fI:=by
   intro co;have l:j<Z (d++[c]):=by omega
   rw[e3 N l,Q,aor N (apE:=n.v) (by rw[zS,aof V]<;>rfl) ee (SR.S9 X).1 aL.1,Q];have aU:∀u:SR->List AV,((ae6 d j n).map u).set j (u c)=(ae6 d j c).map u:=λu=>by rw[<-List.map_set,apH V]
   have H:=w.qF (p:=[_]) R (.arr F 1 (((ae6 d j n).map λc=>[c.v]).set j [c.v]));rw[aU λc=>[c.v]]at H⊢;have ac:=H.get (U:=K) (iX:=.arr y 1 ((ae6 d j n).map λc=>[c.e])) (by simp);rw[e3 ac l,Q,aor ac (apE:=n.e) (by rw[zS,aof V]<;>rfl) ed (SR.S9 X).2 aL.2,Q];have a0:=w.set H (.arr y 1 (((ae6 d j n).map λc=>[c.e]).set j [c.e]));rw[aU λc=>[c.e]]at a0⊢;rw[ba,Q];exact f5 _ co a0
  rcases j with _|j
  ·refine eh (N:=a9) aa (λaB a2=>?_) ?_
   ·simp only[G,er,Q]
    exact aZ (λh=>by simp at h) (λ_=>a2)
   ·simp only[G]
    exact bq (dG (λh=>absurd h (ca _)))
  have J:j<Z d:=by omega
  have l:j<Z (d++[c]):=by omega
  have fr:d.getD j c=d[j]:=by rw[oM,bC J,oK]
  have L:((j+1:Nat):Int) -1=(j:Int):=by omega
  have ar:d[j]∈d++[c]:=Tw _ (bs J);have dl:((ae6 d (j+1) n).map λc=>[c.v])[j]?=T [d[j].v]:=by rw[zS,apG J]<;>rfl
  have fq:((ae6 d (j+1) n).map λc=>[c.e])[j]?=T [d[j].e]:=by rw[zS,apG J]<;>rfl
  refine eh (N:=a9) (S (0<jj d[j].s.1 c.s.1)) (λaB a2=>?_) ?_
  ·simp only[G,er,Q]
   refine aZ (λ_=>?_) (λh=>by simp at h);rw[og (by omega) (by omega),Q,L,e3 N l,Q,cr N dl];refine aD (dD:=d[j].v) rfl ?_;obtain⟨hh,fN⟩:=SR.mem (p:=[_,_]) ar R;obtain⟨hj,f0⟩:=SR.mem (p:=[_,_]) (pA:=c) (by simp) R;refine ea _ (kq d[j].s.1 c.s.1 (au _ ar).2) (.cons _ _ _ _ _ (SR.apR (au _ ar).1 fN) (.cons _ _ _ _ _ (SR.apR X f0) (.nil _))) (.int _ _) ?_;rw[er,Q];exact a2
  ·simp only[G]
   refine b (λU=>?_) (λU=>?_)
   ·have U:0<jj d[j].s.1 c.s.1:=by simpa using U
    obtain⟨b2,gC,gD⟩:=SR.cells (au _ ar).1;simp only[gy,qJ,zP,ve,bG]at b2;have dH:j+1<Z (d++[c]):=by omega
    have aU:∀u:SR->List AV,((ae6 d (j+1) n).map u).set (j+1) (u d[j])=(ae6 d j d[j]).map u:=λu=>by rw[<-List.map_set,apH V,arc J]
    simp only[og (bk:=.s) (aU:=((j+1:Nat):Int)) (c1:=1) (by omega) (by omega),L,Q];rw[e3 N l,Q,cr N dl];refine aD (dD:=d[j].v) rfl ?_;rw[e3 N dH,Q,aor N (apE:=n.v) (by rw[zS,aof V]<;>rfl) gC (SR.S9 (au _ ar).1).1 b2.1,Q];have H:=w.qF (p:=[_]) R (.arr F 1 (((ae6 d (j+1) n).map λc=>[c.v]).set (j+1) [d[j].v]));rw[aU λc=>[c.v]]at H⊢
    have ac:=H.get (U:=K) (iX:=.arr y 1 ((ae6 d (j+1) n).map λc=>[c.e])) (by simp);rw[e3 ac l,Q,cr ac fq];refine aD (dD:=d[j].e) rfl ?_;rw[e3 ac dH,Q,aor ac (apE:=n.e) (by rw[zS,aof V]<;>rfl) gD (SR.S9 (au _ ar).1).2 b2.2,Q];have a0:=w.set H (.arr y 1 (((ae6 d (j+1) n).map λc=>[c.e]).set (j+1) [d[j].e]));rw[aU λc=>[c.e]]at a0⊢;refine d5 (j,d[j],_) ⟨by omega,λo z=>?_,a0⟩ (by simp)
    simp only at z;rw[mQ J]at z;rcases cf.1 z with rfl|z
    ·exact U
    ·exact cg o z
   ·have U:¬0<jj d[j].s.1 c.s.1:=by simpa using U
    exact dG (λ_=>by rw[Nat.add_sub_cancel,fr];exact U)
 ·have:E=Z env:=by simp at ak;omega
  subst this;rw[dB]at a3;refine⟨d.map (·.s),a3,br,?_⟩;have W:∀c∈d,aI B .res c.v (eS aa cV c.s.1)/\aI B .res c.e (eS aa cI c.s.2):=λc W=>by
   rw[<-fH]at ah;obtain⟨hg,ce⟩:=SR.mem W ah;exact SR.ajl (cq c W).1 ce
  have el:∀{v:AV}{bH c1:aN}{u:SR->List AV}{cJ:lT->List AV},bA v u 1 d bH->w B (bH++c1)->(∀c∈d,bR B .res (u c) (cJ c.s))->aI B .res v.pl (eS aa cJ (d.map (·.s))):=by
   intro v bH c1 u cJ M ae O;rw[M.pl];rcases M with⟨L,aQ,-⟩|⟨ii,bf,L,rfl⟩
   ·rw[L,aQ];exact .ai _ _
   ·rw[L]
    exact ajm (U:=1) (ae.get (by simp)) O
  exact .aE _ _ _ (.cons _ _ _ _ _ (el bg ah λc h=>.cons _ _ _ _ _ (W c h).1 (.nil _)) (.cons _ _ _ _ _ (el b9 (w.swap ah) λc h=>.cons _ _ _ _ _ (W c h).2 (.nil _)) (.nil _)))
section
variable{p:aj}{fB:List aO}{v:Nat}{fs m:List aw}
end
section
variable{p:aj}{v:Nat}
end
variable{atZ:k}
theorem aog:∀(b:List Lit){a:List k},atZ∈b.foldl mF a<->atZ∈a\/∃l∈b,l.ak=1/\atZ=l.bind/\atZ≠[]
 |[],a=>by simp
 |l::b,a=>by
  rw[oJ,aog b];unfold mF;by_cases h:l.ak=1
  ·simp only[h,BEq.rfl,if_true,Pw];grind
  ·simp only[beq_iff_eq,h,if_false];grind
structure amZ(e x:aX):Prop where
 get:∀t,known e.ax t=ab->bW e t=bW x t
 aV:∀y∈e.m,jO e y=jO x y
def am3(e:aj)(d:List aw)(b:aX)(a:Lit):Prop:=
 (∀f∈a.ad,known b.ax f=ab)/\(if(a.ak==1||a.ak==3)=ab then∃c∈d,j9 e a c=ab/\c.ad=eG b a.ad/\(a.bind≠[]->a.bind∈b.m/\jO b a.bind=c.af)else pe e d b a=ab)
variable{atL aus:aX}{auY:List aM}
theorem anZ(h:∀a∈auY,bW atL a=bW aus a):eG atL auY=eG aus auY:=
 rO λa b=>by rw[h a b]
variable{atC:List aw}{at2:Lit}
theorem aoq(h:eG atL at2.ad=eG aus at2.ad)(b:¬(at2.ak==1||at2.ak==3)=ab):pe apO atC atL at2=pe apO atC aus at2:=by
 have a:¬at2.ak=1:=λatL=>by simp[atL]at b
 unfold pe;rw[if_neg a,if_neg a,h]
variable{atM:List k}
theorem apK{w:List Int}(f:Z atL.au=Z atL.m)(a:aus.m=atL.m++atM)(b:aus.au=atL.au++w)(d:atZ∈atL.m):jO aus atZ=jO atL atZ:=by
 unfold jO;rw[a,aem d,b];cases c:atL.m.findIdx? (λe=>e==atZ)with
 |none=>rfl
 |some g=>
  have:=(nW.1 c).1;simp only[oM];rw[lU (by omega)]
variable{atK:Int}
theorem apL(a:Z atL.au=Z atL.m)(c:atZ∉atL.m):jO ⟨atL.ax,atL.bl,atL.m++[atZ],atL.au++[atK]⟩ atZ=atK:=by
 unfold jO;have:(atL.m++[atZ]).findIdx? (λd=>d==atZ)=T (Z atL.m):=by
  rw[TI,wK.2 (λe b=>by rw[beq_eq_false_iff_ne];rintro rfl;exact c b)];simp
 simp only[this,oM];rw[FH (by omega),a];simp
theorem am3.ext(i:td atL aus)(u:Z atL.bl=Z atL.ax)(t:Z atL.au=Z atL.m){w:List Int}(f:aus.m=atL.m++atM)(r:aus.au=atL.au++w)(h:am3 apO atC atL at2):am3 apO atC aus at2:=by
 obtain⟨g,c⟩:=h;have a:eG aus at2.ad=eG atL at2.ad:=anZ λd a=>i.get u (g d a);refine⟨λd a=>i.known (g d a),?_⟩;split at c
 ·rename_i b
  rw[if_pos b];obtain⟨j,l,n,o,p⟩:=c;refine⟨j,l,n,by rw[a,o],λs=>?_⟩;obtain⟨e,q⟩:=p s;exact⟨by rw[f];exact Tw _ e,by rw[apK t f r e,q]⟩
 ·rename_i b
  rw[if_neg b,aoq a b];exact c
variable{at1:aM}
theorem apJ(a:at1∈auY):known (cH atM auY) at1=true:=by
 unfold known;by_cases h:at1.aB=[]
 ·simp[h]
 ·simp only[kg,decide_eq_true_eq]
  exact .inr (Ey.2 (.inr ⟨h,at1,a,rfl⟩))
theorem aqX(f:Lit)(b:Z atL.bl=Z atL.ax):td atL (g7 atL f):=by
 have a:td atL atL:=⟨⟨[],by simp⟩,⟨[],by simp⟩,b⟩;have c:∀d e,td atL (fT atL d e):=λd e=>⟨⟨_,rfl⟩,⟨_,rfl⟩,by simp[fT,b]⟩;unfold g7;split
 ·split
  ·split
   ·exact c _ _
   ·split
    ·exact c _ _
    ·exact a
  ·exact a
 ·exact a
variable{atH:List aO}{atY:List Nat}
theorem aoE{r:aG}(I:zl apO r)(v:∀a∈r.ae,wa atC a atH)(V:∀c∈atC,qx apO c)(x:ord r.ae []=T atY):∀k∈fA apO atC r,Z k.bl=Z k.ax/\∀a∈r.ae,am3 apO atC k a:=by
 intro k L;rw[PI x]at L;obtain⟨aq,-⟩:=BB x;obtain⟨-,S⟩:=PE x;have key:=aer (M:=apO) v (λdone b=>tf apO r done b/\∀h∈done,∀a,r.ae[h]?=T a->am3 apO atC b a) (λdone a4 b t h a g Y ah J K U Q d=>?_) aq e0 rfl rfl (by simp[e0]) ⟨⟨rfl,rfl,by simp[e0]⟩,by simp⟩ k L
 ·rw[c3]at key
  refine⟨key.2.1,λa g=>?_⟩;obtain⟨h,F,rfl⟩:=jS.1 g;exact key.1.2 h ((S h).1 F) _ (bC F)
 ·obtain⟨n,R⟩:=Q
  have q:Z b.bl=Z b.ax:=by rw[K,J]
  have P:=n.step I V g q d;refine⟨P,?_⟩;have H:=sG g;have a2:td b t/\(∃l,t.m=b.m++l)/\(∃l,t.au=b.au++l)/\am3 apO atC t a:=by
   unfold e5 at d;split at d
   ·rename_i p
    obtain⟨c,o,d⟩:=yj.1 d;obtain⟨o,y⟩:=tF.1 o;obtain⟨w,ar,rfl⟩:=dg.1 d;obtain⟨w1,a9,s,C,bb,be,a3,M⟩:=uN a.ad c.ad q ar;have W:=(v a H).len c o (by simp only[j9,bG,beq_iff_eq]at y;exact y.1);rw[<-W,dB]at M;have aB:td b (jq w a c.af):=⟨by rw[Pq];exact w1.ax,by rw[Ie];exact w1.bl,by rw[Ie,Pq];exact w1.len⟩;have j:eG (jq w a c.af) a.ad=eG w a.ad:=anZ λB _=>by unfold bW;rw[Ie,Pq]
    refine⟨aB,?_,?_,λB j=>by rw[Pq];exact a3 B j,?_⟩
    ·unfold jq
     split
     ·exact⟨[],by simp[s]⟩
     ·exact⟨[a.bind],by simp[s]⟩
    ·unfold jq
     split
     ·exact⟨[],by simp[C]⟩
     ·exact⟨[c.af],by simp[C]⟩
    ·rw[if_pos p]
     refine⟨c,o,y,by rw[j];exact M,λE=>?_⟩;have ac:a.bind∉w.m:=λG=>by
      rw[s,n.m,yj]at G;obtain⟨z,f,e⟩:=G;split at e
      ·rename_i A i
       split at e
       ·cases e
       ·rename_i X
        exact Y (I.one z h A a i g X E▸f)
      ·cases e
     have e:jq w a c.af=⟨w.ax,w.bl,w.m++[a.bind],w.au++[c.af]⟩:=by unfold jq;rw[if_neg E]
     rw[e];exact⟨by simp,apL (by rw[C,s,n.len]) ac⟩
   ·rename_i p
    split at d
    ·rename_i ak
     rw[lV]at d;subst d;obtain⟨e,N⟩:=PK b a;have O:=(Ps (P:=a) J K U (v a H).uP).1;have u:=PH ah;unfold te at u;rw[if_neg p]at u;exact⟨aqX a q,⟨[],by simp[e]⟩,⟨[],by simp[N]⟩,λB j=>by rw[O,u];exact apJ j,by rw[if_neg p];exact ak⟩
    ·cases d
  obtain⟨aL,⟨l,aQ⟩,⟨w,aU⟩,a0⟩:=a2;intro z f A i;rcases c5.1 f with f|f
  ·exact(R z f A i).ext aL q n.len aQ aU
  ·rw[lV]at f
   subst f;rw[g]at i;cases i
   exact a0
variable{auJ:aO}
theorem amZ.put(h:amZ atL aus)(d:Z atL.bl=Z atL.ax)(g:known atL.ax at1=aa)(j:bW aus at1=(auJ,ab)):amZ (fT atL at1 auJ) aus:=by
 have k:td atL (fT atL at1 auJ):=⟨⟨_,rfl⟩,⟨_,rfl⟩,by simp[fT,d]⟩;refine⟨λa i=>?_,h.aV⟩;by_cases c:known atL.ax a=ab
 ·rw[k.get d c];exact h.get a c
 ·have b:a.aB=at1.aB/\a.aB≠[]:=by
   simp only[known,fT,kg,beq_iff_eq,decide_eq_true_eq,c5,lV]at i c;grind
  have f:∀e:aX,bW e a=bW e at1:=λe=>by
   unfold bW;rw[if_neg b.2,if_neg (b.1▸b.2),b.1]
  rw[f,f,Ib d g,j]
theorem aoc(h:known atL.ax at1=ab):bW atL at1=((bW atL at1).1,ab):=by
 rw[<-qy]at h;rw[<-h]
theorem ao9:∀(c:List aM)(vs:List aO){a b:aX},amZ a b->Z a.bl=Z a.ax->(∀t∈c,known b.ax t=ab)->vs=eG b c->∃w,hU a c vs=T w/\amZ w b
 |[],_,a,b,h,_,_,i=>by subst i;exact⟨a,rfl,h⟩
 |t::c,vs,a,b,h,f,e,i=>by
  subst i;show∃w,hU a (t::c) ((bW b t).1::eG b c)=T w/\amZ w b;rw[hU];by_cases d:known a.ax t=ab
  ·rw[if_pos (by rw[qy];exact d),if_pos (by rw[h.get t d])]
   exact ao9 c _ h f (λj g=>e j (by simp[g])) rfl
  ·rw[if_neg (by rw[qy];exact d)]
   rw[Kr]at d;exact ao9 c _ (h.put f d (aoc (e t (by simp)))) (by simp[fT,f]) (λj g=>e j (by simp[g])) rfl
variable{aut:List Lit}
theorem apo(K:∀a∈aut,wa atC a atH)(Y:∀a∈aut,am3 apO atC atL a):∀{done:List Nat}{g:List k}{E:List Nat},Seq aut done g E->∀b,b.ax=g->Z b.bl=Z g->Z b.au=Z b.m->(∀ak∈b.bl,ak∈atH)->amZ b atL->∃d∈kY apO atC aut E b,amZ d atL:=by
 intro done g E h;induction h with
 |nil out g=>exactλb _ _ _ _ h=>⟨b,by simp[kY],h⟩
 |cons out g a3 i a J a2 M h ac=>
  intro b x y G H e;have B:=sG J;have r:Z b.bl=Z b.ax:=by rw[y,x]
  obtain⟨u,v⟩:=Y a B
  suffices n:∃d∈e5 apO atC b a,amZ d atL/\Z d.au=Z d.m by
   obtain⟨d,O,aB,aL⟩:=n;have q:=(Ig (M:=apO) (K a B) x y H).1 d O;rw[PH M]at q;obtain⟨aQ,aU,a0⟩:=ac d q.1 q.2.1 aL q.2.2.2 aB;refine⟨aQ,?_,a0⟩;rw[kY,J];exact TJ.2 ⟨d,O,aU⟩
  unfold e5;split at v
  ·rename_i l
   rw[if_pos l];obtain⟨f,Q,R,S,U⟩:=v;obtain⟨w,w1,F⟩:=ao9 a.ad f.ad e r u S;obtain⟨-,-,aq,ar,-⟩:=uN a.ad f.ad r w1;have s:Z w.au=Z w.m:=by rw[ar,aq,G]
   refine⟨jq w a f.af,yj.2 ⟨f,tF.2 ⟨Q,R⟩,by rw[nJ,w1]<;>rfl⟩,?_⟩;by_cases A:a.bind=[]
   ·have j:jq w a f.af=w:=by unfold jq;rw[if_pos A]
    rw[j];exact⟨F,s⟩
   ·have j:jq w a f.af=⟨w.ax,w.bl,w.m++[a.bind],w.au++[f.af]⟩:=by unfold jq;rw[if_neg A]
    rw[j];refine⟨⟨F.get,λd N=>?_⟩,by simp[s]⟩;by_cases t:d∈w.m
    ·rw[apK s rfl rfl t];exact F.aV d t
    ·have:d=a.bind:=by simp only[c5,lV]at N;exact N.resolve_left t
     subst this;rw[apL s t,(U A).2]
  ·rename_i l
   rw[if_neg l];have L:amZ (g7 b a) atL:=by
    unfold g7;split
    ·rename_i o p I
     rw[I]at u;have ae:=u o (by simp);have ah:=u p (by simp);split
     ·rename_i z
      simp only[bG,beq_iff_eq]at z;have heq:(bW atL o).1=(bW atL p).1:=by
       have n:=v;unfold pe at n;rw[if_neg (by omega),if_neg (by omega),if_neg (by rw[z.1];decide),I,z.2]at n;have:l5 (bW atL o).1 (bW atL p).1=0:=by simpa[qv,eG]using n
       exact(TO.val.eq _ _).1 this
      split
      ·rename_i c
       simp only[bG,jt]at c;rw[qy,qy]at c;exact e.put r c.2 (by rw[e.get o c.1,heq];exact aoc ah)
      ·split
       ·rename_i c
        simp only[bG,jt]at c;rw[qy,qy]at c;exact e.put r c.2 (by rw[e.get p c.1,<-heq];exact aoc ae)
       ·exact e
     ·exact e
    ·exact e
   have W:∀i∈a.ad,known (g7 b a).ax i=true:=λi C=>by
    have V:=(Ps (P:=a) x y H (K a B).uP).1;have c:=PH M;unfold te at c;rw[if_neg l]at c;rw[V,c];exact apJ C
   have X:pe apO atC (g7 b a) a=true:=by
    rw[aoq (anZ λi C=>L.get i (W i C)) l];exact v
   obtain⟨j,P⟩:=PK b a;exact⟨g7 b a,by rw[if_pos X];simp,L,by rw[j,P,G]⟩
section
variable{p:aj}{L:List aG}
theorem aob:∀(a:List (List aM)){b:List k},b.Nodup->(a.foldl cH b).Nodup
 |[],_,h=>h
 |l::a,_,h=>aob a (Px l h)
end
variable{asE:Type}{atO:List asE}{asc:Nat}
theorem aoj(h:atO.Nodup){b:aoO<Z atO}{c:asc<Z atO}(a:atO[aoO]=atO[asc]):aoO=asc:=by
 rw[List.nodup_iff_pairwise_ne,List.pairwise_iff_getElem]at h;rcases Cj aoO asc with h1|h1|h1
 ·exact absurd a (h aoO asc b c h1)
 ·exact h1
 ·exact absurd a.symm (h asc aoO c b h1)
section
variable{p:aj}{fs:List aw}{r:aG}{fB:List aO}
theorem apv(l:∀c∈r.ae,wa fs c fB)(m:uD r=ab)(w:zl p r)(v:∀q∈fs,qx p q):∃a:List k,(a.Nodup/\sj a fB (fA p fs r))/\∀e∈fA p fs r,∀d,d∈e.ax<->d∈fK r:=by
 simp only[uD,bG]at m;obtain⟨n,b⟩:=rM.1 m.1.1;obtain⟨u,-⟩:=BB b;obtain⟨-,s⟩:=PE b;obtain⟨a,t,-,h⟩:=Py (M:=p) l n;have o:fA p fs r=n.foldl (kC p fs r.ae) [e0]:=by rw[fA,b]
 refine⟨a,⟨t,by rw[o];exact h⟩,λe j d=>?_⟩;rw[PI b]at j;have key:=aer (M:=p) l (λ_ _=>True) (λ_ _ _ _ _ _ _ _ _ _ _ _ _ _=>trivial) u e0 rfl rfl (by simp[e0]) trivial e j;rw[key.2.2.2 d,aes];simp only[iW,false_or];refine and_congr_right λ_=>⟨λ⟨i,f,c,g,h⟩=>⟨c,sG g,h⟩,λ⟨c,g,h⟩=>?_⟩;obtain⟨i,f,rfl⟩:=jS.1 g;exact⟨i,(s i).1 f,_,bC f,h⟩
end
theorem ass(a:atZ≠[])(b:at1.aB=atZ):(bW atL at1).1=rL atL atZ:=by
 subst b;unfold rL bW tV;rw[if_neg a,if_neg a]
variable{aud:List Int}
theorem apz{vs:List k}{lt:List k}(d:Z atH=Z vs)(a:at1.aB≠[])(b:vs.findIdx? (λc=>c==at1.aB)=T aoO):bW ⟨vs,atH,lt,aud⟩ at1=(atH.getD aoO zV,ab):=by
 unfold bW;rw[if_neg a];simp only[b]
theorem anT{vs:List k}(h:atZ∈vs):∃a,∃f:a<Z vs,vs.findIdx? (λc=>c==atZ)=T a/\vs[a]=atZ:=by
 cases b:vs.findIdx? (λc=>c==atZ)with
 |none=>
  rw[wK]at b;have:=b atZ h;simp at this
 |some a=>
  obtain⟨d,e,-⟩:=nW.1 b;exact⟨a,d,rfl,by simpa using e⟩
def ano(vs b:List k)(a:aX):aX:=⟨vs,vs.map (rL a),b,b.map (jO a)⟩
theorem ar4{vs:List k}(h:at1.aB≠[]->at1.aB∈vs)(e:known atL.ax at1=ab):bW (ano vs atM atL) at1=bW atL at1:=by
 by_cases a:at1.aB=[]
 ·unfold bW;rw[if_pos a,if_pos a]
 ·obtain⟨f,d,b,c⟩:=anT (h a)
  rw[ano,apz (by simp) a b,oM,zS,bC d,c,aoc e,ass a rfl];rfl
theorem ar5{vs:List k}(h:atZ∈atM):jO (ano vs atM atL) atZ=jO atL atZ:=by
 obtain⟨d,c,a,b⟩:=anT h;unfold jO ano;simp only[a,oM,zS,bC c,b];rfl
theorem arW(r:fY atC)(v:at2.ak≠1->at2.bind=[])(h:am3 apO atC atL at2):pe apO atC atL at2=true:=by
 obtain⟨-,h⟩:=h;split at h
 ·rename_i k
  obtain⟨b,i,c,j,p⟩:=h;simp only[j9,bG,beq_iff_eq]at c;have n:atC.find? (gW at2.aq (eG atL at2.ad))=T b:=by
   have s:gW at2.aq (eG atL at2.ad) b=true:=by simp[gW,c.1,j]
   cases d:atC.find? (gW at2.aq (eG atL at2.ad))with
   |none=>
    rw[FF]at d;exact absurd s (d b i)
   |some g=>
    have a:=TN d;simp only[gW,bG,beq_iff_eq,decide_eq_true_eq]at a;rw[Pr r g (List.mem_of_find?_eq_some d) b i (by rw[a.1,c.1]) (by rw[a.2,j])]
  unfold pe;by_cases a:at2.ak=1
  ·rw[if_pos a,n]
   by_cases m:at2.bind=[]
   ·simp[m]
   ·obtain⟨q,f⟩:=p m
    obtain⟨w,u,o,t⟩:=anT q;unfold jO at f;simp only[o]at f⊢;rw[f];simp
  ·have e:at2.ak=3:=by
    simp only[kg,beq_iff_eq]at k;exact k.resolve_left a
   rw[if_neg a,if_neg (by omega),if_pos (by simp[e])];have l:=c.2;simp only[e,bne_self_eq_false,kh]at l;simp only[tb,n,l,e,beq_self_eq_true]
 ·exact h
theorem aqI{r:aG}(h:PJ apO r at2):at2.ak≠1->at2.bind=[]:=λb=>yl λa=>b (h.bind a).1
section
variable{p:aj}{fs:List aw}{r:aG}{fB:List aO}(hr:zl p r)(hs:uD r=ab)(hm:∀l∈r.ae,wa fs l fB)(hf:∀f∈fs,qx p f)(ha:fY fs)
include hr hs hm hf ha
theorem ar6(t:atL∈fA p fs r):∀l∈r.ae,pe p fs (ano (fK r) (ie r) atL) l=true:=λl c=>by
 have k:=hs;simp only[uD,bG]at k;obtain⟨w,u⟩:=rM.1 k.1.1;obtain⟨-,s⟩:=aoE hr hm hf u atL t;obtain⟨v,h⟩:=s l c;have j:∀a∈l.ad,a.aB≠[]->a.aB∈fK r:=λa b d=>aes.2 ⟨d,l,c,a,b,rfl⟩;have b:eG (ano (fK r) (ie r) atL) l.ad=eG atL l.ad:=anZ λa b=>ar4 (j a b) (v a b);refine arW ha (aqI (hr.lits l c)) ⟨λa b=>?_,?_⟩
 ·unfold known
  by_cases d:a.aB=[]
  ·simp[d]
  ·simp only[kg,decide_eq_true_eq]
   exact .inr (j a b d)
 ·split at h
  ·rename_i e
   rw[if_pos e];obtain⟨f,m,n,o,q⟩:=h;refine⟨f,m,n,by rw[b];exact o,λg=>?_⟩;have i:l.bind∈ie r:=by
    unfold ie;rw[aog];exact .inr ⟨l,c,((hr.lits l c).bind g).1,rfl,g⟩
   exact⟨i,by rw[ar5 i];exact(q g).2⟩
  ·rename_i e
   rw[if_neg e,aoq b e];exact h
theorem aqm:((fA p fs r).map λc=>(fK r).map (rL c)).Nodup:=by
 have:=ha;obtain⟨b,⟨y,f⟩,x⟩:=apv hm hs hr hf;have o:=f.nd;rw[List.nodup_iff_pairwise_ne,TQ]at o⊢;refine anz (λ{c i} j m z h=>z ?_) o;have l:=f.ax c j;have s:=f.ax i m;have C:=f.bl c j;have E:=f.bl i m;have k:∀(e:aX),e.ax=b->Z e.bl=Z b->∀a(d:a<Z b)(q:a<Z e.bl),b[a]≠[]->rL e b[a]=e.bl[a]:=λe q G a d A g=>by
  obtain⟨B,F,t,u⟩:=anT (bs d);have:B=a:=aoj y u;subst this;unfold rL bW tV;rw[if_neg g,q];simp only[t,oM,bC A,oK]
 refine sH (by omega) λa v w=>?_;have d:a<Z b:=by omega
 have n:b[a]∈fK r:=(x c j b[a]).1 (by rw[l];exact bs d);have g:=(aes.1 n).1;rw[<-k c l C a d v g,<-k i s E a d w g];exact List.map_inj_left.1 h _ n
end
def noB(a:Lit):Lit:={a with bind:=[]}
def ana(c:aj)(a:List aw)(r:aG)(vs:List aO):Bool:=r.ae.all λb=>pe c a ⟨fK r,vs,[],[]⟩ (noB b)
theorem ap5(r:aG):(fK r).Nodup:=by
 have:fK r=(r.ae.map Lit.ad).foldl cH []:=by
  unfold fK;rw[Ky]
 rw[this];exact aob _ vi
theorem aoW(h:at2.ak≠1):pe apO atC atL (noB at2)=pe apO atC atL at2:=by
 unfold pe;rw[if_neg (show¬(noB at2).ak=1 from h),if_neg h];rfl
theorem aqi(h:at2.ak=1):pe apO atC atL (noB at2)=(atC.find? (gW at2.aq (eG atL at2.ad))).isSome:=by
 unfold pe;rw[if_pos (show(noB at2).ak=1 from h)];show(match atC.find? (gW at2.aq (eG atL at2.ad))with|none=>aa|some a=>_)=_;cases atC.find? (gW at2.aq (eG atL at2.ad))<;>rfl
variable{at5:aw}
theorem apw(h:atC.find? (gW atK atH)=T at5):at5∈atC/\at5.aq=atK/\at5.ad=atH:=by
 have a:=TN h;simp only[gW,bG,beq_iff_eq,decide_eq_true_eq]at a;exact⟨List.mem_of_find?_eq_some h,a.1,a.2⟩
variable{aua avs:Int}{aul:bM}
theorem apS(h:e8 apO atK=T aul):sg apO atK aua avs=ox aul aua avs/\Eo apO atK=fy aul []:=by
 unfold e8 at h;unfold sg Eo;cases a:apO.d[atK.toNat]? with
 |none=>rw[a]at h;cases h
 |some b=>
  rw[a]at h;simp only at h⊢;split at h
  ·cases h
  ·rw[h];exact⟨rfl,rfl⟩
def apb(c:aj)(r:aG):Prop:=∀a∈r.ae,a.ak=3->∀b,e8 c a.aq=T b->a.gN≠fy b []
section
variable{p:aj}{fs:List aw}{r:aG}{fB:List aO}(hr:zl p r)(hs:uD r=ab)(hm:∀l∈r.ae,wa fs l fB)(hf:∀f∈fs,qx p f)(ha:fY fs)(hl0:uM p)(hlo:apb p r)
include hr hs hm hf ha
include hl0 hlo in
theorem aqE{vs:List aO}(h:ana p fs r vs=ab):∃lt e,Z e=Z lt/\∀l∈r.ae,am3 p fs ⟨fK r,vs,lt,e⟩ l:=by
 have:=hs;have:=hm;have:=hf;have:=ha;rw[ana,fi]at h;have fact:∀l∈r.ae,(l.ak=1\/l.ak=3)->∃f∈fs,j9 p l f=ab/\f.ad=eG ⟨fK r,vs,[],[]⟩ l.ad:=λl d a=>by
  have b:=h l d;rcases a with a|a
  ·rw[aqi a]at b
   obtain⟨f,hf⟩:=rM.1 b;obtain⟨i,j,m⟩:=apw hf;exact⟨f,i,by simp[j9,j,a],m⟩
  ·rw[aoW (by omega)]at b
   unfold pe at b;rw[if_neg (by omega),if_neg (by omega),if_pos (by simp[a])]at b;obtain⟨E,o,M⟩:=(hr.lits l d).gN (.inl a);unfold tb at b;simp only[a,beq_self_eq_true,beq_true]at b;cases v:fs.find? (gW l.aq (eG ⟨fK r,vs,[],[]⟩ l.ad))with
   |none=>
    rw[v]at b;have H:=(apS (aua:=0) (avs:=0) o).2;have I:=λw x=>(apS (aua:=w) (avs:=x) o).1;simp only[H,I,ox,bG]at b;exact absurd (apX (hl0 E (Bz o)) M b.2) (hlo l d a E o)
   |some f=>
    rw[v]at b;obtain⟨i,j,m⟩:=apw v;exact⟨f,i,by simp only[j9,j,beq_self_eq_true,cu,kg];exact .inr b,m⟩
 have C:∀(lt:List k)(e:List Int),∀l∈r.ae,∀q∈l.ad,known (aX.mk (fK r) vs lt e).ax q=true:=λlt e l d q N=>by
  unfold known;by_cases A:q.aB=[]
  ·simp[A]
  ·simp only[kg,decide_eq_true_eq]
   exact .inr (aes.2 ⟨A,l,d,q,N,rfl⟩)
 have F:∀(lt:List k)(e:List Int),∀l∈r.ae,¬(l.ak==1||l.ak==3)=ab->pe p fs ⟨fK r,vs,lt,e⟩ l=true:=λlt e l d a=>by
  have b:=h l d;have L:l.ak≠1:=λG=>by simp[G]at a
  rw[aoW L]at b;rw[<-b];exact aoq rfl a
 by_cases n:∃l∈r.ae,l.bind≠[]
 ·obtain⟨l,d,n⟩:=n
  obtain⟨f,i,j,m⟩:=fact l d (.inl ((hr.lits l d).bind n).1);refine⟨[l.bind],[f.af],rfl,λc hm=>⟨C _ _ c hm,?_⟩⟩;split
  ·rename_i a
   have a:c.ak=1\/c.ak=3:=by simpa using a
   by_cases B:c.bind=[]
   ·obtain⟨g,s,t,u⟩:=fact c hm a
    exact⟨g,s,t,u,λh=>absurd B h⟩
   ·obtain⟨O,J,y⟩:=jS.1 d
    obtain⟨P,K,z⟩:=jS.1 hm;have:=hr.one O P l c (by rw[bC J,y]) (by rw[bC K,z]) n B;subst this;have:c=l:=z.symm.trans y;subst this;exact⟨f,i,j,m,λ_=>⟨by simp,by simp[jO]⟩⟩
  ·rename_i a
   exact F _ _ c hm a
 ·refine⟨[],[],rfl,λc hm=>⟨C _ _ c hm,?_⟩⟩
  split
  ·rename_i a
   have a:c.ak=1\/c.ak=3:=by simpa using a
   obtain⟨g,s,t,u⟩:=fact c hm a;exact⟨g,s,t,u,λh=>absurd ⟨c,hm,h⟩ n⟩
  ·rename_i a
   exact F _ _ c hm a
include hl0 hlo in
theorem aql{q:List aO}(z:∀e,e∈fB<->e∈q){vs:List aO}:vs∈(fA p fs r).map (λb=>(fK r).map (rL b))<->Z vs=Z (fK r)/\(∀e∈vs,e∈q)/\ana p fs r vs=true:=by
 have u:=hs;simp only[uD,bG]at u;obtain⟨V,t⟩:=rM.1 u.1.1;obtain⟨O,⟨R,n⟩,s⟩:=apv hm hs hr hf;constructor
 ·intro h
  obtain⟨b,d,rfl⟩:=du.1 h;refine⟨by simp,λe H=>?_,?_⟩
  ·obtain⟨L,i,rfl⟩:=du.1 H
   rw[<-z];have I:=(s b d L).2 i;have k:=(aes.1 i).1;refine Ic (by rw[n.bl b d,n.ax b d]) (n.fB b d) (λh=>absurd h k) ?_;simp[known,tV,I]
  ·rw[ana,fi]
   intro l G;have a:=ar6 hr hs hm hf ha d l G;have g:eG (ano (fK r) (ie r) b) l.ad=eG ⟨fK r,(fK r).map (rL b),[],[]⟩ l.ad:=rfl;by_cases c:l.ak=1
   ·rw[aqi c,<-g]
    unfold pe at a;rw[if_pos c]at a;cases A:fs.find? (gW l.aq (eG (ano (fK r) (ie r) b) l.ad))with
    |none=>rw[A]at a;cases a
    |some f=>rfl
   ·rw[aoW c]
    unfold pe at a⊢;rw[if_neg c]at a⊢;rw[<-g];exact a
 ·rintro⟨a,Q,y⟩
  obtain⟨lt,P,S,i⟩:=aqE hr hs hm hf ha hl0 hlo y;obtain⟨j,M,N⟩:=apo hm i (BB t).1 e0 rfl rfl rfl (by simp[e0]) ⟨λK g=>by
   have:K.aB=[]:=by simpa[known,e0]using g
   unfold bW;rw[if_pos this,if_pos this],by simp[e0]⟩
  have v:j∈fA p fs r:=by rw[PI t];exact M
  refine du.2 ⟨j,v,?_⟩;refine sH (by simp[a]) λo C E=>?_;have B:o<Z (fK r):=by simpa using C
  have m:=bs B;have k:=(aes.1 m).1;have c:known j.ax (tV (fK r)[o])=true:=by simp[known,tV,(s j v _).2 m]
  rw[wH];unfold rL;rw[N.get _ c];obtain⟨J,U,w,x⟩:=anT m;have F:J=o:=aoj (ap5 r) x;subst F;rw[apz a k w,oM,bC E];rfl
include hl0 hlo in
end
section
variable{p:aj}{r:aG}
theorem arp(h:nN p)(u:r∈p.ah):apb p r:=by
 intro a t s C c;obtain⟨G,H,z,f⟩:=h;have E:p.aW=p.aW.map (eQ p):=congrArg aj.aW f;have F:p.d=p.d.map (en p):=congrArg aj.d f;have x:=congrArg aj.ah f;have A:dT p []=⟨p.m,p.aW,p.d,[]⟩:=by
  show(⟨p.m,p.aW.map (eQ p),p.d.map (en p),[]⟩:aj)=_;grind
 have o:=JR x r u;obtain⟨-,g,-⟩:=z r u;rw[A]at o g;have n:=JR (congrArg aG.ae o).symm a t;rw[fi]at g;have b:=g a t;have y:a.aq=ei p a.ar:=by
  have:=(congrArg Lit.aq n).symm;rw[this,g9];show mg _ a=_;rw[mg,if_neg (by omega)]<;>rfl
 have e:a.gN=xO ⟨p.m,p.aW,p.d,[]⟩ a:=by
  exact(congrArg Lit.gN n).symm
 unfold gH at b;rw[if_neg (by omega)]at b;have l:ei (⟨p.m,p.aW,p.d,[]⟩:aj) a.ar=ei p a.ar:=rfl;rw[xO,if_pos (.inl s),l]at e;rw[l]at b;cases j:p.d[(ei p a.ar).toNat]? with
 |none=>
  have k:(⟨p.m,p.aW,p.d,[]⟩:aj).d[(ei p a.ar).toNat]?=none:=j;rw[k]at b;cases b
 |some v=>
  have k:(⟨p.m,p.aW,p.d,[]⟩:aj).d[(ei p a.ar).toNat]?=T v:=j;rw[k]at b e;simp only[bG]at b e;have q:=b.2;simp only[s,beq_self_eq_true,yi,kI,kh,bG]at q;unfold e8 at c;rw[y,j]at c;simp only at c;split at c
  ·cases c
  ·have B:(⟨p.m,p.aW,p.d,[]⟩:aj).m[v.of.toNat]?=T C:=c
   have i:=q.2;rw[B]at i;intro w;rw[<-e,w]at i;simp at i
end
theorem ape(h:atH.Nodup):(l8 atH auJ).Nodup:=by
 unfold l8;split
 ·exact h
 ·rename_i c
  rw[tE];exact⟨h,by simp,λe d f a b=>c (by rw[lV]at a;rw[<-a,<-b];exact d)⟩
variable{at7:Type}{avA:List asE -> at7 -> List asE}
theorem anS(h:∀a b,a.Nodup->(avA a b).Nodup):∀(d:List at7){a:List asE},a.Nodup->(d.foldl avA a).Nodup
 |[],_,c=>c
 |b::d,_,c=>anS h d (h _ b c)
theorem aqS(d:aj)(c:List aw):(pa d c).Nodup:=by
 refine anS (λb r a=>anS (λb f a=>?_) _ a) _ (anS (λb e a=>anS (λb g a=>ape a) _ a) _ vi);unfold nx;split
 ·exact ape a
 ·exact a
variable{atU:asE -> List AV}
theorem apu(c:∀d,bO (atU d))(b:Bool)(a:List asE):aI apF .cm (eS b atU a) (eS ab atU a):=by
 have:=kP c b a;cases this with
 |sl _ _ h=>exact .Aa _ _ _ h.snap
theorem apU(d:0<=atK)(e:atK<=aua):∀(k:Nat){b c:Int},0<=b->b<=c->ny aua avs k c<=avs->ny atK avs k b<=avs
 |0,b,c,_,h,a=>by
  rw[ny]at a⊢;omega
 |k+1,b,c,f,h,a=>by
  rw[ny]at a⊢;split at a
  ·rw[if_pos (by omega)]
   exact apU d e k (akU f d) (Int.mul_le_mul h e d (by omega)) a
  ·omega
theorem apT{a:aj}(h:r9 a atC atK=ab)(w:apO.m=a.m)(v:apO.aW=a.aW)(x:apO.d=a.d)(c:∀r∈apO.ah,r∈a.ah)(F:Z apO.ah<=Z a.ah):r9 apO atC atK=true:=by
 have y:Z (pa apO atC)<=Z (pa a atC):=BA (aqS apO atC) λf e=>aiX (d:=(· ∈pa a atC)) (λE z f e=>aiV z e) (λr b G A t=>aiW (c r b) A t) f e;simp only[r9,q3,Bk,bG,fi,jt,decide_eq_false_iff_not]at h⊢;obtain⟨⟨⟨⟨⟨⟨⟨⟨⟨g,i⟩,j⟩,B⟩,⟨⟨k,l⟩,n⟩,o⟩,C⟩,p⟩,q⟩,s⟩,u⟩:=h;rw[w,v,x];refine⟨⟨⟨⟨⟨⟨⟨⟨⟨g,i⟩,j⟩,by omega⟩,⟨⟨k,l⟩,n⟩,λr b=>o r (c r b)⟩,by omega⟩,p⟩,λr b=>q r (c r b)⟩,s⟩,λr b=>?_⟩;have:=u r (c r b)
 have:=apU (avs:=atK) (Int.natCast_nonneg _) (Int.ofNat_le.2 y) (Z (e7 r)) (by omega:(0:Int)<=1) (Int.le_refl _) (by omega);omega
theorem ar7{r:aG}(s:r9 apO atC 3000=ab)(j:nN apO)(G:dW apO)(B:∀e∈atC,eO e.ad)(I:nA apO=[])(C:jk apO atC=ab)(d:r∈apO.ah):
 mK apO (pa apO atC)/\dq apO (pa apO atC) atC/\PY apO atC r/\Z (fA apO atC r)<=3000/\((fA apO atC r).map λa=>(fK r).map (rL a)).Nodup/\
  ∀a∈fA apO atC r,Bx a/\(∀y∈ie r,y∈a.m)/\eO ((fK r).map (rL a)):=by
 have w:=Ce s;obtain⟨H,-,-⟩:=Cd w;have c:=JV s j G B I;have b:=JW j C;have N:=w.facts;have o:=c.v.hG r d;have p:=c.v.safe r d;have l:=b.meet c.v d;have k:∀e∈atC,qx apO e:=λe h=>(b.ok e h).af;have t:=c.hG b (by omega) d;have P:Z (fK r)<=1000:=(H r d).Oq;refine⟨c,b,t,by have:=Ik c.v b d;rwa[tg,kd]at this,aqm o p l k b.fz,λa i=>?_⟩;have u:=p;simp only[uD,bG]at u;obtain⟨L,n⟩:=rM.1 u.1.1
 refine⟨?_,λy f=>?_,by unfold Sm;rw[kd];omega,λx J=>c.zo x ?_⟩
 ·obtain⟨-,O⟩:=BB n
  rw[fA,n]at i;exact(t.env L (by omega) a i).1.ok
 ·unfold ie at f
  rw[aog]at f;rcases f with f|⟨K,F,E,q,z⟩
  ·cases f
  ·have g:=((aoE o l k n a i).2 K F).2
   rw[if_pos (by simp[E])]at g;obtain⟨e,-,-,-,A⟩:=g;rw[q];exact(A (q▸z)).1
 ·have g:=(aql o p l k b.fz (SN j) (arp j d) (q:=pa apO atC) (λ_=>Iff.rfl) (vs:=(fK r).map (rL a))).1 (du.2 ⟨a,i,rfl⟩)
  exact g.2.1 x J
theorem ar8{T:List lT}(g:avF.Perm T)(j:avF.Pairwise kH)(k:T.Pairwise kH)(p:(avF.map Prod.fst).Nodup):avF=T:=by
 refine g.eq_of_pairwise (le:=kH) (λa b n o c d=>?_) j k;unfold kH at c d;rw[TO.aE.ta]at c;have l:jj a.1 b.1=0:=by
  rw[TO.aE.ta]at d;have:=TO.aE.ta b.1 a.1;have:=TO.aE.ta a.1 b.1;omega
 have m:=(TO.aE.eq _ _).1 l;obtain⟨h,e,rfl⟩:=jS.1 n;obtain⟨i,f,rfl⟩:=jS.1 (g.mem_iff.2 o);have:=aoj p (aoO:=h) (asc:=i) (b:=by simpa using e) (c:=by simpa using f) (by simpa using m);subst this;rfl
noncomputable def anF(a:aj)(b:List aw)(r:aG):Bool:=(iH a&&jk a b)&&(iH (ik a r)&&nA (ik a r)==[])
theorem aoX(b:apF[aoO]?=T (.arr 0 1 []))(c:apF[asc]?=T (.arr 0 1 [])):aI apF .res (.aE [(AV.q aoO 0 0 0).pl,(AV.q asc 0 0 0).pl]) (.aE [eS aa J3 ([]:List lT),eS aa J4 ([]:List lT)]):=
 .aE _ _ _ (.cons _ _ _ _ _ (fx (a2:=J3) (o:=([]:List lT)) b (by simp)) (.cons _ _ _ _ _ (fx (a2:=J4) (o:=([]:List lT)) c (by simp)) (.nil _)))
theorem ari(i:eP C){r:aG}(a:List aw)(o:dW apO)(p:dW (ik apO r))(n:Sm a)(m:∀k∈a,eO k.ad)(t:j6 r)(c:anF apO a r=aa):
 PR C 19 [.agg (cP aa apN apO),eS atB (cF atT) a,.agg (aP aa r)] (.aE [eS aa J3 ([]:List lT),eS aa J4 ([]:List lT)]):=by
 refine XR.pr ?_;refine aD (dD:=cP aa apN apO) rfl (aD (dD:=.aK aa (aP aa r) 0) rfl ?_);simp only[eA,dZ,c3,de,Kk];have gc:(AV.agg [g (cP aa apN apO) 0,g (cP aa apN apO) 1,g (cP aa apN apO) 2,g (cP aa apN apO) 3])=.agg (cP aa apN apO):=rfl;rw[gc];refine f (i.B0 apO a o n m) ?_;rw[bD,Q];refine b (λh=>aoX rfl rfl) (λh=>?_);have h:(iH apO&&jk apO a)=true:=by simpa using h
 rw[kR,Q];refine aD rfl (aD (dD:=eS aa (aP aa) [r]) rfl ?_);have l:(AV.agg [g (cP aa apN apO) 0,g (cP aa apN apO) 1,g (cP aa apN apO) 2,eS aa (aP aa) [r]])=.agg (cP aa aa (ik apO r)):=rfl;refine pg (N:=[Obj.arr 0 1 [],Obj.arr 0 1 []]) ab [g (cP aa apN apO) 0,g (cP aa apN apO) 1,g (cP aa apN apO) 2,eS aa (aP aa) [r]] (λu j=>?_) ?_
 ·rw[l]
  refine f (i.Rn (ik apO r) p) ?_;rw[bD,Q];refine dx (λe=>?_) (λ_=>j);refine f (HE (ik apO r) (by simp[ik]) (by grind[ik])) ?_;simp only[a8,Q,er];refine xJ j ?_;have e:iH (ik apO r)=true:=by simpa using e
  unfold anF at c;rw[h,e,cu,cu]at c;cases q:nA (ik apO r)with
  |nil=>rw[q]at c;cases c
  |cons d v=>simp
 simp only[G];exact a7 (aoX rfl rfl)
theorem arj{r:aG}(a:List aw)(k:dW apO)(l:dW (ik apO r))(j:Sm a)(i:∀e∈a,eO e.ad)(g:j6 r)(b:anF apO a r=aa):
 PR C 20 [.agg (cP aa apN apO),eS atB (cF atT) a,.agg (aP aa r)] (.aE [eS aa J3 ([]:List lT),eS aa J4 ([]:List lT)]):=by
 refine r20.pr ?_;refine aD (dD:=.aK aa (cP aa apN apO) 0) rfl (aD (dD:=.aK aa (aP aa r) 0) rfl ?_);simp only[eA,dZ,c3,de,Kk];refine eh (N:=[Obj.arr 0 1 [],Obj.arr 0 1 []]) ab (λn c=>?_) ?_
 ·simp only[fQ,kR,Q]
  refine f (xU apO a k j i) ?_;rw[bD,Q];refine dx (λh=>?_) (λ_=>c);have h:(iH apO&&jk apO a)=true:=by simpa using h
  refine f (k60 apO r l g) ?_;rw[bD,Q];refine kB c ?_;unfold anF at b;rw[h,cu]at b;rw[b]<;>rfl
 simp only[G];exact a7 (aoX rfl rfl)
theorem both(s:eP C)(z:an3 C){r:aG}(a:List aw)(d:dW apO)(h:dW (ik apO r))(o:Sm a)(g:∀A∈a,eO A.ad)(u:r9 (ik apO r) a 3000=ab):
 ∃b:List lT,PR C 19 [.agg (cP aa apN apO),eS atB (cF atT) a,.agg (aP aa r)] (.aE [eS aa J3 b,eS aa J4 b])/\
  PR C 20 [.agg (cP aa apN apO),eS atB (cF atT) a,.agg (aP aa r)] (.aE [eS aa J3 b,eS aa J4 b])/\Z b<=3000/\∀q∈b,Sm q.1/\Sm q.2:=by
 have x:=Ce u;have f:j6 r:=(Cd x).1 r (by simp[ik]);cases j:anF apO a r with
 |false=>exact⟨[],ari s a d h o g f j,arj a d h o g f j,by simp,by simp⟩
 |true=>
  simp only[anF,bG,beq_iff_eq]at j;obtain⟨⟨B,t⟩,m,n⟩:=j;obtain⟨F,E,c,p,H,i⟩:=ar7 (r:=r) u (QM.1 m) h g n t (by simp[ik]);have O:=x.facts;have Q:=f.Oq;have P:=f.lvl;have w:(iH apO&&jk apO a)=true:=by rw[B,t]<;>rfl
  have v:∀y∈fK r,y≠[]:=λy I=>(aes.1 I).1;obtain⟨b,l,M,K⟩:=arh s z (apN:=apN) (atB:=atB) (atT:=atT) a d h g w m n F E (by omega) f v (by omega) (by omega) p λe k=>⟨(i e k).1.bl,(i e k).2.1,(i e k).2.2⟩;obtain⟨T,J,N,L⟩:=k20 (apN:=apN) (atB:=atB) (atT:=atT) a d h o g w m n ⟨d,c.tq,c.lits,c.PZ,c.env,c.len,c.sm,c.fz⟩ f v (by omega) (by omega) p i;have G:(b.map Prod.fst).Nodup:=by
   refine(l.map Prod.fst).nodup_iff.2 ?_;rw[wG];exact H
  have e:b=T:=ar8 (l.trans J.symm) M N G;subst e;refine⟨b,K,L,by rw[l.length_eq,kd];exact p,λq d=>?_⟩;obtain⟨e,k,rfl⟩:=du.1 (l.mem_iff.1 d);exact⟨by unfold Sm nS;rw[kd];omega,by unfold Sm nS;rw[kd];omega⟩
def anH(a:aj)(r:aG):aj:=⟨a.m,a.aW,a.d,a.ah++[r]⟩
theorem k3(y:eP C)(ae:wA C)(a0:x5 C)(ac:an3 C)(c:aj)(g:List aw)(l:List Int)(r:aG)(e:dW c)(bw:Z c.ah<=1048576)(O:oh r)(t:Sm g)(s:∀o∈g,eO o.ad)(L:Sm l):
 PR C 3 [.agg (cP aa aa c),eS apN (cF aa) g,eS atB cI l,.agg (aP aa r)] (.bool ab):=by
 have bf:dW (anH c r):=⟨e.m,e.aV,e.aW,e.fn,e.d,e.q0,by unfold Sm anH;simp;omega,λw p=>by
  rcases c5.1 p with h|h
  ·exact e.hG w h
  ·rw[lV]at h;rw[h];exact O⟩
 have be:dW (ik c r):=⟨e.m,e.aV,e.aW,e.fn,e.d,e.q0,by unfold Sm ik;simp,λw p=>by
  have:w=r:=by simpa[ik]using p
  rw[this];exact O⟩
 refine r3N.pr ?_;refine aD (dD:=.aK aa (cP aa aa c) 0) rfl (aD (dD:=.aK aa (aP aa r) 0) rfl ?_);refine f (are y) ?_;simp only[fQ,kR,Q,a6,aH,mz,aJ];refine aD (dD:=cP aa aa c) rfl (aD (dD:=.sl aa [aP aa r]) rfl ?_);refine bj (nu (a2:=aP aa) (o:=c.ah) rfl (r8 (kQ _) _ _ _) (by omega)) ?_;simp only[c3,de];refine⟨of_eq_true (j3 _),?_⟩
 have au:cx 9 128 (.q 0 0 0 (Z c.ah)) (.sl aa [aP aa r]) [Obj.arr 0 9 (c.ah.map (aP aa))]=T (.q 0 1 0 (Z (c.ah++[r])),[Obj.arr 1 9 ((c.ah++[r]).map (aP aa))]):=by
  have ax:(Z c.ah+1)*128<=140737488355328:=by omega
  have aL:(c.ah.map (aP aa)).take (Z c.ah)=c.ah.map (aP aa):=fW (by simp);simp[cx,hQ,kQ,AV.isNil,ax,aL]
 refine bj au (aD (dD:=.q 0 1 0 (Z (c.ah++[r]))) rfl ?_);generalize a2:[Obj.arr 1 9 ((c.ah++[r]).map (aP aa))]=x;refine pg (N:=x) (S (10<(Z l:Int))|| !(r9 (anH c r) g 3000)) [eS aa (bn aa) c.m,eS aa (b8 aa) c.aW,eS aa (bF aa) c.d,.q 0 1 0 (Z (c.ah++[r]))] (λJ n=>?_) ?_
 ·simp only[a8,Q,er]
  refine dx (λh=>?_) (λh=>xJ n (by rw[h]<;>rfl));refine ea _ (acP (V:=false) (F:=true) (bp:=false) (b2:=true) (anH c r) g 3000 (by omega) bf t) ?_ (.bool _) ?_
  ·refine .cons _ _ _ _ _ (.agg _ _ _ (.cons _ _ _ _ _ (Im.snap (by simp)) (.cons _ _ _ _ _ (Im.snap (by simp)) (.cons _ _ _ _ _ (Im.snap (by simp)) (.cons _ _ _ _ _ ?_ (.nil _)))))) (.cons _ _ _ _ _ (apu (by simp) _ _) (.cons _ _ _ _ _ (.int _ _ _) (.nil _)))
   exact l7 (a2:=aP aa) (U:=9) (o:=c.ah++[r]) (by rw[<-a2]<;>rfl) (by simp)
  ·rw[bD,Q]
   exact xJ n (by rw[h]<;>rfl)
 simp only[G,i];refine b (λ_=>.bool _ _) (λh=>?_);simp only[Kw,Ko]at h;obtain⟨-,M⟩:=h;have X:r9 c g 3000=true:=apT M rfl rfl rfl (λw p=>Tw _ p) (by simp[anH]);have bg:r9 (ik c r) g 3000=true:=apT M rfl rfl rfl (λw p=>List.mem_append_right _ p) (by simp[anH,ik]);have B:=Ce X;obtain⟨U,-,K⟩:=Cd B;have bv:=B.facts;have H:(amy c&&jk c g)=ab->∃F,mK c F/\dq c F g:=λh=>by
  simp only[amy,bG,beq_iff_eq]at h;have V:=QM.1 h.1.1.1;exact⟨_,JV X V e s (wF (by omega)),JW V h.2⟩
 have R:Sm (anD c l g)/\∀o∈anD c l g,Sm o.ad:=by
  unfold anD;split
  ·rename_i h
   obtain⟨F,N,a9⟩:=H h;have aU:=EC N.v a9 l;exact⟨by unfold Sm;omega,λo a4=>(dq.re N aU.1.ok o a4).1⟩
  ·exact⟨by unfold Sm;simp,by simp⟩
 refine pg (N:=x) aa [eS aa (bn aa) c.m,eS aa (b8 aa) c.aW,eS aa (bF aa) c.d,.q 0 1 0 (Z (c.ah++[r]))] (λJ n=>?_) ?_
 ·refine f (y.B0 c g e t s) ?_
  refine f (xU c g e t s) ?_;simp only[GN,beq_self_eq_true,kI,Q];refine dx (λ_=>?_) (λh=>by cases h);refine f (arf y ae a0 g l e t s K U (SW B) L H (by omega)) ?_;refine f (k18 g l e t s K U (SW B) L H (by omega)) ?_;refine f (Bb _ _ R.1 R.2) ?_;simp only[decide_true,bD,Q];exact n
 simp only[G,i];refine bq ?_;obtain⟨u,aB,aQ,bu,a3⟩:=both y ac (apN:=false) (atB:=apN) (atT:=false) g e be t s bg;refine f aB ?_;refine aD (dD:=eS aa J3 u) rfl (aD (dD:=eS aa J4 u) rfl ?_);refine f aQ ?_;refine aD (dD:=eS aa J3 u) rfl (aD (dD:=eS aa J4 u) rfl ?_);refine pg (N:=x) aa [eS aa (bn aa) c.m,eS aa (b8 aa) c.aW,eS aa (bF aa) c.d,.q 0 1 0 (Z (c.ah++[r]))] (λJ n=>?_) ?_
 ·simp only[a8,Q,cd]
  refine dx (λ_=>xJ n (by simp)) (λh=>by simp at h)
 simp only[G,i];refine bq ?_;refine et (U:=Z u) (c:=λW=>[ff,I W,eS aa (bn aa) c.m,eS aa (b8 aa) c.aW,eS aa (bF aa) c.d,.q 0 1 0 (Z (c.ah++[r]))]) (λ_=>True) trivial rfl (λW z _ Y n=>?_) (λ_ Y=>?_)
 ·have aq:∀j:lT,(J3 j)[0]?=T (eS aa cV j.1):=λ_=>rfl
  have ar:∀j:lT,(J4 j)[0]?=T (eS aa cI j.2):=λ_=>rfl;have bm:∀j,Z (J3 j)=1:=λ_=>rfl;have bi:∀j,Z (J4 j)=1:=λ_=>rfl;have P:=a3 _ (bs z);simp only[i,G,a8,A,Q,a,z,decide_true];refine a7 ?_;refine pg (N:=x) aa [eS aa (bn aa) c.m,eS aa (b8 aa) c.aW,eS aa (bF aa) c.d,.q 0 1 0 (Z (c.ah++[r]))] (λJ bb=>?_) ?_
  ·simp only[aC z (bm _),aC z (bi _),Q,aH,aq,ar,a8,gF]
   refine f (A6 _ _ P.1) ?_;simp only[decide_true,bD,Q];refine dx (λ_=>?_) (λh=>by cases h);refine dx (λ_=>?_) (λh=>by simp at h;omega);refine f (xp _ _ P.2) ?_;simp only[decide_true,bD,Q];exact bb
  simp only[G,i];refine bq ?_;rw[ba,Q];exact n trivial
 simp only[i,G,a8,A,Q,a,ca,decide_false];exact bq (.bool _ _)
open Go.Proofs Go.Proofs.YtmkbfepnleajhaaGreatDoor Go.Deep
theorem fn3(b:aj)(a:List aw)(d:List Int)(r:aG)(l:dW b)(j:Z b.ah<=1048576)(k:oh r)(i:Sm a)(g:∀e∈a,eO e.ad)(f:Sm d):∃c,jz a1 G0 3 [.agg (cP aa aa b),eS apN (cF aa) a,eS atB cI d,.agg (aP aa r)] [] (.bool ab) c:=by
 obtain⟨n,c,h,m⟩:=k3 aju ajx ajw aqy (apN:=apN) (atB:=atB) b a d r l j k i g f;cases m
 exact⟨c,h⟩
section
variable{H:Type}{enc:TypeId×Value->H}{w:World}{sp:Nat->Bool}
theorem arK(d:∀b,sp b=ab)(b g:Bool):jA H enc w sp 27 4 (cP b g) λi=>dW i/\Z i.ah<=1048576:=by
 obtain⟨l,j,a⟩:=sX (pD:=a1) (U:=27) (il:=[(22,0),(23,1),(24,2),(25,3)]) (by kernel_rfl);refine Rd.conv (λc:List bM×List Fn×List cD×List aG×Unit=>(⟨c.1,c.2.1,c.2.2.1,c.2.2.2.1⟩:aj)) (λc=>⟨rfl,by simp[cP,AV.bP,eS]⟩) (λc=>rfl) (λc h=>⟨⟨Sm.of h.1.1,h.1.2,Sm.of h.2.1.1,h.2.1.2,Sm.of h.2.2.1.1,h.2.2.1.2,Sm.of h.2.2.2.1.1,h.2.2.2.1.2⟩,h.2.2.2.1.1⟩)
  (sW j (by kernel_rfl) (cX.eB a (y:=1) (by kernel_rfl) (abY d b) λf a=>cX.eB a (y:=1) (by kernel_rfl) (abZ d b) λf a=>cX.eB a (y:=1) (by kernel_rfl) (ab0 d b) λf a=>cX.eB a (y:=1) (by kernel_rfl) (abU d b g) λf a=>cX.sY a))
end
open Go.ChangeShapes Go.WideShapes Go.ChangeAt Go.RowKit
theorem ajV:∃a,a1.underlying 27=T (.struct a):=by
 simp
theorem Tk:a1.underlying 4=T .bool:=by kernel_rfl
variable{at3:Value}
theorem ajW{W:World}{base:Nat}(h:Value.okWide a1 W .any base 27 at3):∃a,at3=.agg a:=by
 grind[ajV,Value.okWide]
theorem ajX{W:World}{base:Nat}(h:Value.okWide a1 W .any base 28 at3):bU at3.cells=[at3]:=by
 unfold Value.okWide at h;rw[sE]at h;simp only[Cell.okWide,sE,Cell.ok]at h;cases at3<;>first|rfl|grind
theorem asp:∃a,a1.underlying 35=T (.struct a):=by
 simp
theorem arx{W:World}{base:Nat}(h:Value.okWide a1 W .any base 35 at3):∃a,at3=.agg a:=by
 grind[asp,Value.okWide]
theorem ary{W:World}{base:Nat}(h:Value.okWide a1 W .any base 29 at3):bU at3.cells=[at3]:=by
 have a:a1.underlying 29=T (.slice 3):=by kernel_rfl
 unfold Value.okWide at h;rw[a]at h;simp only[Cell.okWide,a,Cell.ok]at h;cases at3<;>first|rfl|grind
variable{auy:Array Value}
theorem apc{vs:List AV}{W:World}(h:RL (E0 W) vs (bU auy))(b:∀a∈vs,a.bP=ab):R (E0 W) (.agg vs) (.agg auy):=by
 have one:∀{vs:List AV}{auy:List Value},RL (E0 W) vs auy->(∀a∈vs,a.bP=ab)->∀c∈auy,c.oneCell'=true:=by
  intro vs auy h;induction vs generalizing auy with
  |nil=>intro _ c e;cases h;simp at e
  |cons a vs i=>
   cases h with
   |cons _ c _ auy f g=>
    intro b j d;rcases cf.1 d with rfl|d
    ·exact f.Ab (b _ (by simp))
    grind
 exact .agg _ _ h (one h b)
theorem ajY(a:Type)(b:TypeId×Value->a)(W:World)(base:Nat)(args:Array Value)(g gs:List (DataW a))(C:List MemPlace)
 (d:∀(y:Nat) f c,Tryz.f3.params[y]?=T f->args[y]?=T c->Value.okWide a1 W .any base f c)
 (l:DataW.Whole b a1 (bU Tryz.f3.params) Rows.snapshotMatchesReferenceSpec.vars aa W (bU args) g gs C)(ae:Rows.uptoSmall a (g++gs)=ab)(N:laidMetH a1 Rows.snapshotMatchesReferenceUptoRow.laid W):
 Calls a1 3 args W λi m=>∃c,i=.returned c/\Rows.snapshotMatchesReferenceSpec.post b a1 Tryz.f3 aa ab aa aa W args c m:=by
 have u:=l;have ah:=l.lt;obtain⟨a9,ci,k,V,rfl,b4,b9⟩:=l;have j:DataW.TrodAll b a1 W 0 (λ_=>ab) ab (bU Tryz.f3.params) (bU args) g a9:=k;rw[Tryz.params3]at j d;obtain⟨v0,cA,E,bH,bb,cn,bL,rfl,rfl,J,q⟩:=trodAll_cons j;obtain⟨v1,cJ,F,bS,be,co,rfl,rfl,rfl,K,r⟩:=trodAll_cons q;obtain⟨v2,cK,G,b2,bf,cq,rfl,rfl,rfl,L,s⟩:=trodAll_cons r;obtain⟨v3,r3N,H,b3,bg,cs,rfl,rfl,rfl,M,t⟩:=trodAll_cons s
 obtain⟨rfl,rfl,rfl⟩:=trodAll_nil t;obtain rfl:args=#[v0,v1,v2,v3]:=by cases args;simp_all
 clear q r s t;rw[rP]at k j;obtain⟨rfl,rfl⟩:=trodVars_none V;have X:Rows.uptoBulkAll [E,F,G,H]<=1048576:=by
  have:=of_decide_eq_true ae;simpa using this
 simp only[Rows.uptoBulkAll]at X;obtain⟨p,rfl⟩:=ajW (d 0 27 v0 rfl rfl);have Z:=ajX (d 1 28 v1 rfl rfl);have ac:=ary (d 2 29 v2 rfl rfl);obtain⟨o,rfl⟩:=arx (d 3 35 v3 rfl rfl);obtain⟨a0,bi⟩:=J;obtain⟨a2,bm⟩:=K;obtain⟨a3,bp⟩:=L;obtain⟨a4,br⟩:=M;obtain⟨z,aQ,au,aq⟩:=(arK (H:=a) (enc:=b) (w:=W) (sp:=λ_=>ab) (λ_=>rfl) aa aa).2 a0 _ _ _ bi (by omega)
 obtain⟨A,x,ak,ax⟩:=(ab3 (H:=a) (enc:=b) (w:=W) (sp:=λ_=>ab) (λ_=>rfl) aa aa).2 a2 _ _ _ bm (by omega);obtain⟨n,v,af,-⟩:=(Nz (H:=a) (enc:=b) (w:=W) (sp:=λ_=>ab) (λ_=>rfl) aa).2 a3 _ _ _ bp (by omega);obtain⟨B,aU,aB⟩:=(abT (H:=a) (enc:=b) (w:=W) (sp:=λ_=>ab) (λ_=>rfl) aa).2 a4 _ _ _ br (by omega);rw[Z]at x;rw[ac]at v;have P:R (E0 W) (.agg (cP aa aa z)) (.agg p):=apc aQ (by simp[cP,AV.bP,eS])
 have Q:R (E0 W) (eS aa (cF aa) A) v1:=by
  cases x with
  |cons _ _ _ _ h _=>exact h
 have S:R (E0 W) (eS aa cI n) v2:=by
  cases v with
  |cons _ _ _ _ h _=>exact h
 have U:R (E0 W) (.agg (aP aa B)) (.agg o):=apc aU (by simp[aP,AV.bP,eS]);obtain⟨bv,-,ad⟩:=fn3 (apN:=false) (atB:=false) z A n B au aq aB (Sm.of ak) ax (Sm.of af);have Y:=ad (E0 W) [.agg p,v1,v2,.agg o] (abE W) (λ_=>rfl) rfl (.cons _ _ _ _ P (.cons _ _ _ _ Q (.cons _ _ _ _ S (.cons _ _ _ _ U .nil)))) (ajU (show laidMetH a1 g2.laid W from N));refine Y.mono λi m w=>?_;cases i with
 |returned c=>
  obtain⟨bu,rfl,I,-,-,O⟩:=w;obtain rfl:c=.bool true:=by cases O;rfl
  simp only[rP]at u ah;refine⟨_,rfl,ajC (i:=bb++(be++(bf++bg))) (j:=[]) u (λ_ _ _=>trodAll_cons_mk (shut_bool Tk _) trodAll_mk0) (λe ar=>?_) (λ_ _=>rfl) (by simp) (ajz I _) (by grind[ajB]) (ok_one (by kernel_rfl) rfl (okWide_bool_mk Tk _))⟩;exact Th ajE ajF (λf aL=>by rw[Tryz.params3]at aL;revert f;decide) k (by grind[ajA]) ar
 |_=>exact w.elim
end AM
end Go
