/- The law DeriveRoundsUptoCardSaid: part 2 of 14 of the proof. No condition. -/
import Derived.Test.YtegalmbcaggfiaaGreatDoorXa
import Derived.Laws.BitsLemmas
import Derived.Test.YtegalmbcaggfiaaGreatDoorProg
import Derived.KernelRfl
import Derived.Deep.Slices
import Derived.Test.YtegalmbcaggfiaaGreatDoorRows
import Derived.OpenShut
import Derived.ProofKit
import Derived.Deep.DeepHandedRow
import Derived.Lib.LaidTab
import Derived.ChangeStays
import Derived.ReadAgain
set_option maxRecDepth 100000
open List renaming length->Z,range->ay,map->Ra,replicate->dh,all_eq_not_any_not->arP,getElem?_drop->arQ,map_const'->O0,map_id'->Jf,range'_succ->arM,toList_toArray->ON
open Option renaming some->aa,none->ae,map_none->CH
open Bool renaming true->ad,false->ab,false_and->vX,or_self->arN
open Decidable renaming decide->y
open Array renaming toList->bJ,toList_inj->oH
open Int renaming ofNat->b4,ofNat_inj->arO
open Go.Proofs.Tryz renaming prog->aU
open List.Sublist renaming append->avK
open Nat renaming mul_one->I4
namespace Go
namespace AM
variable{L n:AS}{u:TypeId}{ki:AS}{cu:TypeId}{cH:Oper -> Bool}{o:Array Oper}{B:Oper}{rG:Nat -> Nat -> Bool}{U N:Nat}
section
variable{P:Program}{G:Nat->Option (List AV)}{An:Nat->bS}{X:fu}{A:bS}
def J5(b:Oper):Bool:=
 match b.op with
 |.call a=>match a.callee with|.builtin .append=>ad|_=>ab
 |_=>ab
theorem acI{b a d:AV}(f:n.hp=L.hp)(h:o1 P L u b a=aa (d,ki)):ki={L with hp:=ki.hp}/\o1 P n u b a=aa (d,{n with hp:=ki.hp}):=by
 have e:∀c,o0 n c a=o0 L c a:=by simp_all[o0]
 unfold o1 at h⊢;simp only[e,f]
 repeat' split at h
 all_goals grind
theorem acJ{b c a:AV}(d:n.hp=L.hp)(h:tU P L u cu b c=aa (a,ki)):ki={L with hp:=ki.hp}/\(∀e,a.gI e=ab)/\tU P n u cu b c=aa (a,{n with hp:=ki.hp}):=by
 unfold tU at h⊢;simp only[d]
 repeat' split at h
 all_goals first|(simp at h;done)|(simp at h;let⟨rfl,rfl⟩:=h;grind[AV.gI])
variable(P)in
 def FQ(b:AS)(c d:TypeId)(a e:AV):Option (AV×AS):=if qx P d then o1 P b c a e else tU P b c d a e
theorem J6{c f b:AV}(d:n.hp=L.hp)(h:FQ P L u cu c f=aa (b,ki)):ki={L with hp:=ki.hp}/\(∀a,b.gI a=ab)/\FQ P n u cu c f=aa (b,{n with hp:=ki.hp}):=by
 unfold FQ at h⊢;split at h<;>rename_i e
 have:=acI d h;exact⟨this.1,λa=>Qh h a,by rw[if_pos e];exact this.2⟩;have:=acJ d h;exact⟨this.1,this.2.1,by rw[if_neg e];exact this.2.2⟩
theorem acK(h:er P G An X cH A o B L n)(f:J5 B=ad):
 ∃c t,n=et B.dst c {L with hp:=t}/\(∀I,c.gI I=ab)/\∀b,Ag o B L b->b.hp=L.hp->er P G An X cH A o B b (et B.dst c {b with hp:=t}):=by
 unfold J5 at f;split at f
 case h_2=>cases f
 case h_1 d R=>
 split at f
 case h_2=>cases f
 case h_1 N=>
 cases h with
 |skip k=>exact⟨.aB [],L.hp,rfl,λ_=>rfl,λb q j=>by rw[<-j];exact .skip (by rw[q.wanted];exact k)⟩
 |op r k a=>
  let⟨c,g⟩:=r;have u:∀b:AS,aW P G A b B.dst B.op=kq P b .append d.argTypes.toList (d.args.toList.map (l G b)):=by simp_all[aW]
  have key:∃m p e i,d.argTypes.toList=[m,p]/\d.args.toList.map (l G L)=[e,i]/\FQ P L m p e i=aa (c,g):=by
   rw[u L]at a;generalize d.argTypes.toList=J at a⊢;generalize d.args.toList.map (l G L)=v at a⊢
   match J,v,a with
   |[m,p],[e,i],a=>
    exact⟨m,p,e,i,rfl,rfl,a⟩
   |[],_,a=>simp[kq]at a
   |[_],_,a=>simp[kq]at a
   |_::_::_::_,_,a=>simp[kq]at a
   |[_,_],[],a=>simp[kq]at a
   |[_,_],[_],a=>simp[kq]at a
   |[_,_],_::_::_::_,a=>simp[kq]at a
  let⟨m,p,e,i,x,y,s⟩:=key;refine⟨c,g.hp,?_,(J6 (n:=L) rfl s).2.1,λb q j=>?_⟩;have:=(J6 (n:=L) rfl s).1;show gn B.dst (c,g)=gn B.dst (c,{L with hp:=g.hp});grind;have C:=(J6 j s).2.2;have E:d.args.toList.map (l G b)=[e,i]:=by
   rw[<-y];exact sP λK U=>q.op K (by grind[Op.operands,Call.operands])
  have D:aW P G A b B.dst B.op=aa (c,{b with hp:=g.hp}):=by
   rw[u b,x,E];exact C
  exact .op (c,{b with hp:=g.hp}) (by rw[q.wanted];exact k) D
 |uX w z V args M W r S j k H F O f a T Q=>
  grind[jc]
 |uY w z args r t j k H F a=>
  grind[jc]
abbrev Tr:=List (Nat×List Obj×List (Nat×List AV))
variable(P G An X A)in
 inductive qH(hc:Oper->Bool)(ops:Array Oper):List Nat->Tr->AS->AS->Prop
 |nil (s:AS):qH hc ops [] [] s s
 |still (i:Nat) (o:Oper) (rest:List Nat) (tr:Tr) (s s1 s':AS) (ho:ops[i]?=aa o) (h:er P G An X hc A ops o s s1) (hq:aC P A hc o≠.jd) (t:qH hc ops rest tr s1 s'):qH hc ops (i::rest) tr s s'
 |zu (i:Nat) (o:Oper) (rest:List Nat) (tr:Tr) (s s1 s':AS) (ho:ops[i]?=aa o) (h:er P G An X hc A ops o s s1) (hq:aC P A hc o=.jd) (t:qH hc ops rest tr s1 s'):qH hc ops (i::rest) ((i,s1.hp,s1.bx)::tr) s s'
variable(P G An X A)in
 inductive wm(hc:Oper->Bool)(ops:Array Oper)(dyn:Nat->Nat->Bool):List Nat->Tr->AS->AS->Prop
 |nil (s:AS):wm hc ops dyn [] [] s s
 |still (i:Nat) (o:Oper) (rest:List Nat) (tr:Tr) (s s1 s':AS) (ho:ops[i]?=aa o) (h:er P G An X hc A ops o s s1) (hq:aC P A hc o≠.jd) (t:wm hc ops dyn rest tr s1 s')
  (hst:∀e∈tr,dyn i e.1=ad->∃v,s1=et o.dst v s/\er P G An X hc A ops o {s with hp:=e.2.1,bx:=e.2.2} (et o.dst v {s with hp:=e.2.1,bx:=e.2.2})):wm hc ops dyn (i::rest) tr s s'
 |zu (i:Nat) (o:Oper) (rest:List Nat) (tr:Tr) (s s1 s':AS) (ho:ops[i]?=aa o) (h:er P G An X hc A ops o s s1) (hq:aC P A hc o=.jd) (t:wm hc ops dyn rest tr s1 s'):wm hc ops dyn (i::rest) ((i,s1.hp,s1.bx)::tr) s s'
theorem qH.ops:∀{j:List Nat}{i:Tr}{b c:AS},qH P G An X A cH o j i b c->n4 P G An X A o (gJ o j) b c
 |_,_,_,_,.nil b=>.nil _ _ _
 |_,_,_,_,.still e f a i b l c d h k g=>by
  have:gJ o (e::a)=f::gJ o a:=by simp[gJ,d]
  rw[this];exact h.cons (qH.ops g)
 |_,_,_,_,.zu e f a i b l c d h k g=>by
  have:gJ o (e::a)=f::gJ o a:=by simp[gJ,d]
  rw[this];exact h.cons (qH.ops g)
def nA(bk:Nat->Prop)(d e:Tr):Prop:=∀b∈e,∃a∈d,a.1=b.1/\a.2.1=b.2.1/\∀c,¬bk c->look c a.2.2=look c b.2.2
theorem nA.refl(bk:Nat->Prop)(a:Tr):nA bk a a:=λb h=>by grind
variable{rF:Tr}
theorem nA.trans{bk:Nat->Prop}{a b:Tr}(f:nA bk rF a)(g:nA bk a b):nA bk rF b:=λc h=>by
 let⟨d,e,i,j,k⟩:=g c h;let⟨l,p,m,n,o⟩:=f d e;grind
theorem nA.mono{bk b:Nat->Prop}{a:Tr}(h:∀c,bk c->b c)(f:nA bk rF a):nA b rF a:=λd e=>by
 let⟨g,l,i,j,k⟩:=f d e;grind
theorem nA.cons{bk:Nat->Prop}{a:Tr}(b:Nat×List Obj×List (Nat×List AV))(d:nA bk rF a):nA bk (b::rF) (b::a):=λc hf=>by
 rcases b6.1 hf with rfl|hf;grind;let⟨e,f,h⟩:=d c hf;grind
def FR(P:Program)(A:bS)(c:Oper->Bool)(f:Array Oper)(e:List Nat)(b:Nat):Prop:=∃d∈e,∃a,f[d]?=aa a/\aC P A c a=.box/\a.dst=aa b
def Db(P:Program)(A:bS)(b:Oper->Bool)(d:Array Oper)(e:Nat->Nat->Bool)(f g:Nat)(a c:Oper):Bool:=
 wk P A b d a c||(Oper.apart d a c&&y (aC P A b c=.jd)&&(((y (aC P A b a=.pure)||y (aC P A b a=.rd))&&e f g)||(y (aC P A b a=.box)&&a.guard.isNone&&J5 c)))
def Qn(P:Program)(A:bS)(g:Oper->Bool)(a:Array Oper)(f:Nat->Nat->Bool)(b c:Nat):Prop:=∀d e,a[b]?=aa d->a[c]?=aa e->Db P A g a f b c d e=ad
def Dc(P:Program)(G:Nat->Option (List AV))(An:Nat->bS)(X:fu)(A:bS)(d:Oper->Bool)(f:Array Oper)(i:Nat->Nat->Bool)(j:Nat)(a:Oper)(g k:AS)(l:Tr):Prop:=
 (aC P A d a=.pure\/aC P A d a=.rd)->∃h,k=et a.dst h g/\∀c∈l,i j c.1=ad->∀b,Ag f a g b->b.hp=c.2.1->(∀e,o6 f a g e->look e b.bx=look e c.2.2)->er P G An X d A f a b (et a.dst h b)
theorem Ag.trans(h:Ag o B L n)(c:Ag o B n ki):Ag o B L ki:=λb a=>(c b a).trans (h b a)
theorem Qo(h:er P G An X cH A o B L n)(a:aC P A cH B=.pure\/aC P A cH B=.rd):n.hp=L.hp/\n.bx=L.bx:=by
 obtain⟨b,rfl,_⟩:=pP h a;grind[rQ,rR]
theorem acL{a:Oper}(h:Db P A cH o rG U N B a=ad)(v:er P G An X cH A o B L n)(k:er P G An X cH A o a n ki)(s:zr P A cH B L)(z:zr P A cH a L)
 (g:Dc P G An X A cH o rG U B L n rF)(V:aC P A cH a=.jd->(N,ki.hp,ki.bx)∈rF):
 ∃i,er P G An X cH A o a L i/\er P G An X cH A o B i ki/\
  (aC P A cH a=.jd->i.hp=ki.hp/\∀c,¬(aC P A cH B=.box/\B.dst=aa c)->look c i.bx=look c ki.bx)/\(aC P A cH B=.jd->ki.hp=n.hp/\ki.bx=n.bx):=by
 unfold Db at h;rw[h5]at h;rcases h with d|h
 ·let⟨i,C,l⟩:=swap v k d s z
  refine⟨i,C,l,λq=>?_,λq=>?_⟩;have hp:aC P A cH B=.pure:=by
   unfold wk at d;rw[ba]at d;have:=d.2;rw[q]at this;cases F:aC P A cH B<;>simp[F]at this⊢
  grind[Qo];have hp:aC P A cH a=.pure:=by
   unfold wk at d;rw[ba]at d;have:=d.2;rw[q]at this;cases H:aC P A cH a<;>simp[H]at this⊢
  grind[Qo]
 simp only[ba,h5,decide_eq_true_eq]at h;let⟨⟨D,I⟩,S⟩:=h;let⟨x,Z,ac⟩:=Oper.apart_spec D;rcases S with⟨T,p⟩|⟨⟨t,J⟩,E⟩;obtain⟨Y,rfl,M⟩:=g T;obtain⟨j,f,y,rfl,m⟩:=FN k (by grind);have u:=V I;rw[rQ,rR]at u;refine⟨_,m L (FO x Y L).symm (by rw[rQ]) (by rw[rR]),?_,by grind[rQ,rR],by grind⟩;have:=M _ u p (et a.dst j {L with hp:=f,bx:=y}) (λc g=>by grind[wj]) (by rw[rQ]) (by grind[rR]);grind[FM,J0]
 have K:B.guard=none:=by simpa using J
 obtain⟨b,w,p,rfl,l⟩:=zq v t K;have r:=s t b p;rw[qF r]at k;obtain⟨j,f,rfl,Q,m⟩:=acK k E;have O:∀c∈a.looksAt o,look c (put b (AV.lp b 0) L.env)=look c L.env:=by grind[fQ]
 refine⟨_,m L (λc g=>(O c g).symm) rfl,?_,λ_=>⟨by simp[rQ],λc g=>?_⟩,by grind⟩;have:=l (et a.dst j {L with hp:=f}) (λc g=>by grind[wj]);have R:jf b (et a.dst j {L with hp:=f}).env=true:=by
  rcases W:a.dst with _|e;exact r;exact xV (Q b) r
 rw[qF R,rR,rQ]at this;have e:({env:=put b (.lp b 0) (et a.dst j {L with hp:=f}).env,bx:=put b w L.bx,hp:=f}:AS)=et a.dst j {env:=put b (.lp b 0) L.env,bx:=put b w L.bx,hp:=f}:=by
  rcases W:a.dst with _|e;rfl;grind[et,gn,Bb]
 grind;simp only[rR];grind[fQ]
variable{bu:List Nat}{rF:Tr}
theorem acM{d:Option Tmp}{e c:AV}(h:et d e L=et d c L)(b:AS):et d e b=et d c b:=by
 rcases d with _|d;rfl;have a:=congrArg (λL:AS=>look d L.env) h;simp only[et,gn,fQ,if_true,e7]at a;rw[a]
theorem Qp(h:er P G An X cH A o B L n)(e:aC P A cH B=.box->B.guard=ae)(d:zr P A cH B L)(g:B.dst≠aa U):look U n.env=look U L.env:=by
 by_cases a:aC P A cH B=.box;obtain⟨b,k,c,rfl,_⟩:=zq h a (e a);rw[qF (d a b c)];grind[fQ];obtain⟨j,i,f,rfl,_⟩:=FN h a;grind[wj]
theorem J7(z:zs P A cH o)(w:o[U]?=aa B):∀{m t:List Nat}{l:Tr}{n e r:AS},U∉m->m.Nodup->(∀a∈m,Qn P A cH o rG U a)->ma P A cH o (U::m) n->er P G An X cH A o B n e->Dc P G An X A cH o rG U B n e l->
 qH P G An X A cH o (m++t) l e r->∃p,qH P G An X A cH o (m++U::t) p n r/\nA (λk=>aC P A cH B=.box/\B.dst=aa k) (if aC P A cH B=.jd then(U,e.hp,e.bx)::l else l) p
 |[],t,l,n,e,r,_,_,_,_,D,_,j=>by
  by_cases C:aC P A cH B=.jd;exact⟨_,.zu U B t l n e r w D C j,by simp_all[nA.refl]⟩;exact⟨_,.still U B t l n e r w D C j,by simp_all[nA.refl]⟩
 |a::m,t,l,n,e,r,T,a3,S,L,D,V,j=>by
  have a4:=k0.1 a3;have cb:a≠U:=λc=>T (by simp[c]);have core:∀(b:Oper)(g:AS)(s:Tr),o[a]?=aa b->er P G An X cH A o b e g->(∀c∈s,c∈l)->(aC P A cH b=.jd->(a,g.hp,g.bx)∈l)->qH P G An X A cH o (m++t) s g r->
   ∃f p,er P G An X cH A o b n f/\qH P G An X A cH o (m++U::t) p f r/\nA (λk=>aC P A cH B=.box/\B.dst=aa k) (if aC P A cH B=.jd then(U,e.hp,e.bx)::s else s) p/\
    (aC P A cH b=.jd->f.hp=g.hp/\∀k,¬(aC P A cH B=.box/\B.dst=aa k)->look k f.bx=look k g.bx):=by
   intro b g s i x a5 a9 j;have ai:=L U (by simp) B w;have J:=L a (by simp) b i;have H:=S a (by simp) B b w i;let⟨f,u,v,y,Q⟩:=acL H D x ai J V a9;have aj:Oper.apart o B b=true:=by
    unfold Db wk at H;simp only[h5,ba]at H;rcases H with h|h;exact h.1;exact h.1.1
   let⟨br,Y,Z⟩:=Oper.apart_spec aj;have R:Ag o B n f:=λk a0=>Qp u (z.guard a b i) J (λc=>Z k c a0);have ax:ma P A cH o (U::m) f:=ma.step z (bu:=U::m) (U:=a) (by grind) i u (λI M=>L I (by
    grind))
   have aF:Dc P G An X A cH o rG U B f g s:=by
    intro q;let⟨W,af,ah⟩:=V q;let⟨v2,O,_⟩:=pP v q;have az:zr P A cH b e:=λam d F=>by
     refine Qi D (z.guard U B w) ?_ (J am d F);grind
    have bb:∀E,et B.dst v2 E=et B.dst W E:=by
     intro E;rcases F:B.dst with _|d;rfl;have N:=Qp x (z.guard a b i) az (λc=>Y d F c);rw[O,af,F]at N;simp only[et,gn,fQ,if_true,e7]at N;rw[N]
    refine⟨W,by rw[O,bb],λc C au E a6 aA ak=>?_⟩;refine ah c (a5 c C) au E (R.trans a6) aA λk aR=>ak k ?_;let⟨I,M,off,a2⟩:=aR;exact⟨I,M,off,by rw[R I M];exact a2⟩
   let⟨p,bi,cl⟩:=J7 z w (λc=>T (by simp[c])) a4.2 (λbm be=>S bm (by simp[be])) ax v aF j;refine⟨f,p,u,bi,?_,y⟩;by_cases C:aC P A cH B=.jd;grind;grind
  rw[hG]at j;cases j with
  |still _ b _ _ _ g _ i x q j=>
   let⟨f,p,u,v,y,_⟩:=core b g l i x (λ_ h=>h) (λc=>absurd c q) j;exact⟨p,.still a b _ _ _ f _ i u q v,y⟩
  |zu _ b _ s _ g _ i x q j=>
   let⟨f,p,u,v,y,Q⟩:=core b g s i x (λc h=>by simp[h]) (λ_=>by simp) j;refine⟨_,.zu a b _ _ _ f _ i u q v,?_⟩;let⟨ce,ci⟩:=Q q;intro ac K;rcases b6.1 K with rfl|K;grind;let⟨c,bv,bD⟩:=y ac K;grind
theorem J8(g:zs P A cH o):∀{c E:List Nat}{q:Tr}{j z:AS},pQ (Qn P A cH o rG) c E->E.Nodup->c.Nodup->ma P A cH o c j->wm P G An X A cH o rG c q j z->
 ∃l,qH P G An X A cH o E l j z/\nA (FR P A cH o c) q l
 |_,_,_,_,_,.nil,_,_,_,h=>by
  cases h
  exact⟨[],.nil _,nA.refl _ _⟩
 |_,_,q,j,z,.cons e c D a2 J x,u,am,m,h=>by
  have r:=k0.1 am;have K:(D++a2).Nodup:=by
   have:=u;rw[tQ]at this⊢;let⟨T,U,V⟩:=this;exact⟨T,(k0.1 U).2,λM W N g=>V M W N (by simp[g])⟩
  have H:e∉D:=by
   rw[tQ]at u;exactλak=>u.2.2 e ak e (by simp) rfl
  have F:ma P A cH o (e::D) j:=λf d=>by
   rcases b6.1 d with rfl|d;exact m _ (by simp);exact m f (by simp[(pQ.mem x f).1 (by simp[d])])
  have sub:∀a,FR P A cH o c a->FR P A cH o (e::c) a:=by
   rintro a ⟨f,d,h⟩;exact⟨f,by simp[d],h⟩
  have L:∀(b:Oper),o[e]?=aa b->∀a,(aC P A cH b=.box/\b.dst=aa a)->FR P A cH o (e::c) a:=λb i a h=>⟨e,by simp,b,i,h⟩;cases h with
  |still _ b _ q _ p _ k i w B az=>
   have t:ma P A cH o c p:=ma.step g r.1 k i (λf d=>m f (by simp[d]));let⟨C,y,s⟩:=J8 g x K r.2 t B;have n:Dc P G An X A cH o rG e b j p C:=by
    intro v;let⟨v0,e0,_⟩:=pP i v;refine⟨v0,e0,λQ ah a5 a0 aA a6 Y=>?_⟩;let⟨O,af,bb,be,aR⟩:=s Q ah;let⟨bi,a3,R⟩:=az O af (by grind);let⟨v2,a4,S,_⟩:=pP R v;have:=S a0 (λa n=>aA a n) (.inr ⟨by grind,λa ai=>?_⟩);grind[acM];have I:o6 o b j a:=ai;rw[Y a I,<-aR a];rintro⟨f,d,aF,ax,Z,ac⟩;have au:=m f (by simp[d]) aF ax Z a ac;let⟨a9,_,off,aj⟩:=I;exact Bc au aj
   let⟨l,r3,r4⟩:=J7 g k H (by grind) J F i n y;rw[if_neg w]at r4;exact⟨l,r3,(s.mono sub).trans (r4.mono (L b k))⟩
  |zu _ b _ q _ p _ k i w B=>
   have t:ma P A cH o c p:=ma.step g r.1 k i (λf d=>m f (by simp[d]));let⟨C,y,s⟩:=J8 g x K r.2 t B;have n:Dc P G An X A cH o rG e b j p C:=λv=>by grind
   let⟨l,r3,r4⟩:=J7 g k H (by grind) J F i n y;rw[if_pos w]at r4;exact⟨l,r3,((s.mono sub).cons _).trans (r4.mono (L b k))⟩
theorem Qq{q:Nat->Nat->Prop}:∀(c d:List Nat),c.Nodup->d.Nodup->(∀a,a∈d<->a∈c)->c.Pairwise (λi a=>q i a\/List.Sublist [i,a] d)->pQ q c d
 |[],d,_,_,j,_=>by
  have:d=[]:=aaR.2 λa p=>by simpa using(j a).1 p
  subst this;exact .nil
 |i::c,d,u,E,j,C=>by
  have x:i∈d:=(j i).2 (by simp);obtain⟨f,k,rfl⟩:=E9 x;have n:=k0.1 u;have t:=AR.1 C;have g:=tQ.1 E;have y:=k0.1 g.2.1;have I:i∉f:=λh=>g.2.2 i h i (by simp) rfl;have D:(f++k).Nodup:=by
   rw[tQ];exact⟨g.1,y.2,λe o b w=>g.2.2 e o b (by simp[w])⟩
  have s:∀a,a∈f++k<->a∈c:=by
   intro a;have:=j a;simp only[dt,b6]at this⊢;constructor;grind;grind
  refine .cons i c f k (λe o=>?_) (Qq c (f++k) n.2 D s ?_);have v:e∈c:=(s e).1 (by simp[o]);rcases t.1 e v with h|h;exact h;exfalso;let⟨G,K,l,r,m⟩:=List.sublist_append_iff.1 h
  match G,l,r with
  |[],l,_=>
   grind
  |b::J,l,r=>
   grind
  refine t.2.imp_of_mem ?_;intro a F p A h;rcases h with h|h;exact .inl h;have z:a≠i:=by rintro rfl;exact n.1 p
  have B:F≠i:=by rintro rfl;exact n.1 A
  have m:=h.filter (λH=>H≠i);simp only[Fa,List.filter_nil,ne_eq,z,B,not_false_eq_true,decide_true,if_true,y7,decide_false,not_true,e6,if_false]at m;exact .inr (m.trans (avK I8 I8))
def FT(a:Nat->Nat->Bool):List Nat->Bool
 |[]=>ad
 |i::b=>b.all (a i)&&FT a b
theorem Qr:∀{a:List Nat},FT rG a=ad->a.Pairwise (λi b=>rG i b=ad)
 |[],_=>.nil
 |i::a,h=>by
  simp only[FT,ba,eQ]at h;exact AR.2 ⟨h.1,Qr h.2⟩
def Bd(P:Program)(A:bS)(b:Oper->Bool)(a:Array Oper)(c d:Nat):Bool:=
 match a[c]?,a[d]? with
 |aa e,aa f=>y (aC P A b e=.rd)&&y (aC P A b f=.jd)&& !((zt a.toList #[]).getD d 0).testBit c
 |_,_=>ab
def Qs(a d:Oper)(b c:Nat):Bool:=a.guard.isNone&&(y (b=c)||a.dst.isNone||a.dst !=d.dst)
def Dd(P:Program)(A:bS)(f:Oper->Bool)(a:Array Oper)(d:List Nat):Bool:=
 decide d.Nodup&&d.all (· <a.size)&&(ay a.size).all (· ∈d)&&
 FT (λb c=>match a[b]?,a[c]? with|aa e,aa g=>((zt a.toList #[]).getD c 0).testBit b||Db P A f a (Bd P A f a) b c e g|_,_=>ad) d&&
 (ay a.size).all λc=>(ay a.size).all λb=>
  match a[b]?,a[c]? with
  |aa e,aa g=> !y (aC P A f e=.box)||Qs e g b c
  |_,_=>ad
theorem acN(q:Dd P A cH o bu=ad)(F:ma P A cH o bu L)(h:wm P G An X A cH o (Bd P A cH o) bu rF L n):∀k,pL o [] k->n4 P G An X A o (gJ o k) L n:=by
 intro k r;unfold Dd at q;simp only[ba,decide_eq_true_eq]at q;let⟨⟨⟨⟨s,d⟩,t⟩,I⟩,u⟩:=q;simp only[eQ,iz,decide_eq_true_eq]at d t;let⟨B,R,N⟩:=J4 r;have w:∀a,a∈k<->a∈bu:=λa=>⟨λh=>t a (C8 r a h),λh=>(N a (d a h)).resolve_left (by simp)⟩;have D:zs P A cH o:=by
  have key:∀(b a:Nat)(c e:Oper),o[b]?=aa c->o[a]?=aa e->aC P A cH c=.box->c.guard=ae/\(b≠a->c.dst=ae\/c.dst≠e.dst):=by
   intro b a c e m p f;have l:b<o.size:=(kZ.1 m).1;have g:a<o.size:=(kZ.1 p).1;simp only[eQ]at u;have:=u a (iz.2 g) b (iz.2 l);simp only[m,p,f,Qs,decide_true,rf,l4,ba,h5,decide_eq_true_eq,I5,bne_iff_ne,ne_eq]at this;refine⟨this.1,λx=>?_⟩;rcases this.2 with(h|h)|h;omega;exact .inl h;exact .inr h
  exact{
   guard:=λb j i f=>(key b b j j i i f).1
   slot:=λb a j z i y x f O v=>by
    rcases(key b a j z i y f).2 x with h|h;rw[v]at h;cases h;rw[v]at h;exactλC=>h C.symm}
 refine(J8 D (Qq bu k s B w ?_) B s F h).elim λS h=>h.1.ops;apply(Qr I).imp_of_mem;intro b a l g hp;let⟨c,m⟩:∃c,o[b]?=aa c:=⟨o[b]'(d b l),by simp[d b l]⟩;let⟨e,p⟩:∃e,o[a]?=aa e:=⟨o[a]'(d a g),by simp[d a g]⟩;simp only[m,p,h5]at hp;rcases hp with hp|hp
 right
 have E:=J2 (d:=o) o.toList #[] (λJ=>by simp) (λJ b h=>by simp at h) a b hp;have H:=(w a).2 g;obtain⟨K,M,rfl⟩:=E9 H;have Q:=(J3 r (by simp) K a M rfl b E).resolve_left (by simp);grind
 left
 intro j z i y;grind
end
variable{bu:List Nat}{rF:Tr}
abbrev I(a:Int):AV:=.int .i64 a
abbrev tt:AV:=.bool ad
abbrev ff:AV:=.bool ab
def pS(b:List Nat)(a:Oper):Bool:=match a.op with|.call _=>a.dst.any (· ∈b)|_=>ab
inductive EV where
 |av(v:AV)
 |lp(k off:Nat)
 |sk
def EV.val:EV->AV
 |.av b=>b.pl
 |.lp a off=>.lp a off
 |.sk=>.aB []
def EV.v:EV->AV
 |.av a=>a
 |.lp _ _=>.undef
 |.sk=>.aB []
structure WS where
 env:List (Nat×EV)
 bx:List (Nat×List AV)
 hp:List Obj
def fR(b:List (Nat×EV)):List (Nat×AV):=b.map λa=>(a.1,a.2.val)
def WS.as(a:WS):AS:={env:=fR a.env,bx:=a.bx,hp:=a.hp}
variable{K:Type}
def bd(c:Option K)(a:K->Prop):Prop:=match c with|aa b=>a b|ae=>False
variable{b0:Type}
def cq(c:Option (K×b0))(b:K->b0->Prop):Prop:=match c with|aa a=>b a.1 a.2|ae=>False
def ez(c:AV)(a b:Prop):Prop:=match c.pl with|.bool ad=>a|.bool ab=>b|_=>False
def ob(a b:AV):Prop:=a=b
def jn(a:(List AV->List Obj->Prop)->Prop)(b:List AV->List Obj->Prop):Prop:=a b
def jB(c:List AV->List Obj->(List AV->List Obj->Prop)->Prop)(b:List AV)(a:List Obj):Prop:=
 ∀I:List AV->List Obj->Prop,(∀b a,c b a I->I b a)->I b a
def g(a:List AV)(b:Nat):AV:=a.getD b .undef
def ua(a:List AV):Nat->Nat->List AV
 |0,_=>[]
 |n+1,b=>g a b::ua a n (b+1)
def dO(b:Nat)(a:AV):Option (List AV):=if Z a.pl.cells=b/\a.pl.cells.all AV.bU=ad then aa a.pl.cells else ae
def nB(a:AV):Option AV:=if a.pl.bU=ad then aa a.pl else ae
def fh(b:Nat)(a:List Obj):Option (AV×List Obj):=aa (.q (Z a) 0 0 0,a++[.arr 0 b []])
def lB(b:Nat)(c:List AV)(a:List Obj):Option (AV×List Obj):=aa (.ptr (Z a) 0 0 0,a++[.arr 0 b [c]])
def j2(b:Nat)(c:AV):Option AV:=(dO b c).map λa=>.aH ab a 0
def nC(b:Nat)(d:AV)(a:List Obj):Option (AV×List Obj):=(dO b d).map λc=>(.ptr (Z a) 0 0 0,a++[.arr 0 b [c]])
def Qt(c a b:AV):Option AV:=match c.pl with|.bool d=>aa (if d then a else b)|_=>ae
def mb(cells:List AV):List (Nat×Nat×AV)->Option (List AV)
 |[]=>aa cells
 |(off,size,a)::b=>if Z a.pl.cells=size/\off+size<=Z cells/\a.pl.cells.all AV.bU=ad then mb (e3 cells off a.pl.cells) b else ae
def fS(c:Nat)(d:List AV)(b:Nat)(parts:List (Nat×AV)):Option AV:=(lI c (dh b d) parts).map λa=>.sl ab a
def FU(c:Nat)(e:List AV)(b:Nat)(parts:List (Nat×AV))(a:List Obj):Option (AV×List Obj):=(lI c (dh b e) parts).map λd=>(.q (Z a) 0 0 b,a++[.arr 0 c d])
def wo(b:List Obj):AV->Option (List AV×Nat)
 |.aH _ a off=>aa (a,off)
 |.ptr id g e off=>
  match b[id]? with
  |aa (.arr d _ c)=>if d=g then(c[e]?).map λa=>(a,off)else ae
  |_=>ae
 |_=>ae
def aQ(b:Nat)(d:Bool)(e:AV)(c:List Obj):Option AV:=
 match wo c e with
 |aa (a,off)=>if off+b<=Z a then aa (qv d ((a.drop off).take b))else ae
 |ae=>ae
def du(a:Nat)(h i:AV)(b:List Obj):Option (List Obj):=
 let new:=i.pl.cells
 if Z new=a/\new.all AV.bU=ad then
  match h with
  |.ptr id g f off=>
   match b[id]? with
   |aa (.arr e a d)=>
    if e=g then
     match d[f]? with
     |aa c=>if off+Z new<=Z c then aa (b.set id (.arr e a (d.set f (e3 c off new))))else ae
     |ae=>ae
    else ae
   |_=>ae
  |_=>ae
 else ae
def dK(a:Nat)(h:AV)(b:List Obj):Option AV:=
 match h with
 |.aH c d off=>aa (.aH c d (off+a))
 |.ptr id g f off=>
  match b[id]? with
  |aa (.arr e _ _)=>if e=g then aa (.ptr id g f (off+a))else ae
  |_=>ae
 |_=>ae
def iL(v:AV)(a:List Obj):Option AV:=match v with|.fn d b c=>aa (.fn d b c)|v=>dK 0 v a
def pT(len d:Nat)(e c:AV)(b:List Obj):Option AV:=
 match c.pl with
 |.int _ a=>if 0<=a/\a<len then dK (a.toNat*d) e b else ae
 |_=>ae
def bP(c:Nat)(k i:AV)(d:List Obj):Option AV:=
 match i.pl with
 |.int _ a=>
  match k with
  |.sl e f=>
   if 0<=a then
    match f[a.toNat]? with
    |aa b=>if Z b=c then aa (.aH e b 0)else ae
    |ae=>ae
   else ae
  |.q id g off len=>
   if 0<=a/\a<len then
    match d[id]? with
    |aa (.arr h j _)=>if h=g/\j=c then aa (.ptr id g (off+a.toNat) 0)else ae
    |_=>ae
   else ae
  |_=>ae
 |_=>ae
def De(off b:Nat)(c:Bool)(d:AV):Option AV:=
 match d with
 |.agg a=>if off+b<=Z a then aa (qv c ((a.drop off).take b))else ae
 |_=>ae
def mc(e c:AV):Option AV:=
 match e,c.pl with
 |.str d,.int _ a=>if 0<=a then(d[a.toNat]?).map λb=>.int .u8 b.toNat else ae
 |_,_=>ae
inductive BK where
 |s
 |b
 |n
 |a(n:Nat)(ks:List Nat)
def aT(bk:BK)(op:BinOp)(x j:AV):Option AV:=
 match x,j with
 |.int e d,.int h c=>
  match op with
  |.shl=>if c<0 then ae else aa (.int e (e.wrap (d*2^(min c.toNat e.bits))))
  |.shr=>if c<0 then ae else aa (.int e (d.fdiv (2^(min c.toNat e.bits))))
  |_=>if e=h then kp op e d c else ae
 |.str d,.str c=>v8 op d c
 |.bool d,.bool c=>
  match bk,op with
  |.b,.eql=>aa (.bool (d==c))
  |.b,.neq=>aa (.bool (!(d==c)))
  |_,_=>ae
 |.agg f,.agg bs=>
  match bk with
  |.a g i=>
   if Z f=g/\Z bs=g then
    match op,gb i f bs with
    |.eql,aa r=>aa (.bool r)
    |.neq,aa r=>aa (.bool (!r))
    |_,_=>ae
   else ae
  |_=>ae
 |x,.aq=>
  match bk,op,x.CM with
  |.n,.eql,aa c=>aa (.bool c)
  |_,_,_=>ae
 |_,_=>ae
inductive CK where
 |int(k:IntKind)
 |str
 |bytes
 |no
def pU(d:CK)(f:AV):Option AV:=
 match d,f with
 |.int b,.int _ e=>aa (.int b (b.wrap e))
 |.str,.str a=>aa (.str a)
 |.bytes,.str a=>aa (.sl ab (a.map λc=>[.int .u8 c.toNat]))
 |_,_=>ae
def u4(f:Nat)(g:List AV)(bytes:Nat)(d c:AV)(b:List Obj):Option (AV×List Obj):=
 match d,c with
 |.int _ a,.int _ e=>if a=e/\0<=a/\a*bytes<=2^47/\a<2^47 then aa (.q (Z b) 0 0 a.toNat,b++[.arr 0 f (dh a.toNat g)])else ae
 |_,_=>ae
inductive SK where
 |str
 |sl(sz:Nat)
 |arr(n:Nat)
def fA(o:SK)(r:AV)(c a:Option AV)(j:List Obj):Option AV:=
 match o,r with
 |.arr n,.aH d e 0=>if c.isNone&&a.isNone&&y (Z e=n)then aa (.sl d (e.map λl=>[l]))else ae
 |.sl _,.aq=>match eT 0 0 a,eT 0 0 c with|aa _,aa _=>aa .aq|_,_=>ae
 |.sl _,.dL=>match eT 0 0 a,eT 0 0 c with|aa _,aa _=>aa .dL|_,_=>ae
 |.str,.str d=>
  match eT (Z d) (Z d) a with
  |aa h=>
   match eT h 0 c with
   |aa b=>aa (.str ((d.take h).drop b))
   |ae=>ae
  |ae=>ae
 |.sl i,.sl k f=>
  match eT (Z f) (Z f) a with
  |aa h=>
   match eT h 0 c with
   |aa b=>if f.all (λe=>Z e==i)then aa (.sl k ((f.take h).drop b))else ae
   |ae=>ae
  |ae=>ae
 |.sl i,.q id g off len=>
  match eT len len a with
  |aa h=>
   match eT h 0 c,j[id]? with
   |aa b,aa (.arr m p _)=>if m=g/\p=i then aa (.q id g (off+b) (h -b))else ae
   |_,_=>ae
  |ae=>ae
 |_,_=>ae
structure KD where
 ag:Bool
 n:Nat
 ks:List Nat
def KD.eq(a:KD):AV->AV->Option Bool
 |.int d b,.int e c=>if d=e/\a.ks=[0]/\a.ag=ab/\a.n=1 then aa (b==c)else ae
 |.str b,.str c=>if a.ks=[1]/\a.ag=ab/\a.n=1 then aa (b==c)else ae
 |.agg b,.agg c=>if a.ag=ad/\Z b=a.n/\Z c=a.n then gb a.ks b c else ae
 |_,_=>ae
def KD.find(a:KD)(c:AV):List AV->Nat->Option (Option Nat)
 |[],_=>aa ae
 |x::d,b=>
  match a.eq c x with
  |aa ad=>aa (aa b)
  |aa ab=>KD.find a c d (b+1)
  |ae=>ae
def mf(b:List Obj):AV->Option (List AV×List AV)
 |.il a vs=>aa (a,vs)
 |.b8 id=>match b[id]? with|aa (.mp _ a vs)=>aa (a,vs)|_=>ae
 |_=>ae
def J9(a:KD)(f:AV)(ok:Bool)(e c:AV)(b:List Obj):Option AV:=
 match zh b e,a.ks,a.ag,f with
 |aa d,[0],ab,.int .i64 0=>CP d c ok
 |_,_,_,_=>ae
def iM(b:KD)(c:AV)(ok:Bool)(e a:AV)(d:List Obj):Option AV:=
 match mf d e with
 |aa (h,vs)=>
  if(b.eq a a).isSome then
   match b.find a h 0 with
   |aa (aa g)=>match vs[g]? with|aa f=>aa (if ok then .aB [f,.bool ad]else f)|ae=>ae
   |aa ae=>aa (if ok then .aB [c,.bool ab]else c)
   |ae=>ae
  else ae
 |ae=>J9 b c ok e a d
def jP(d:KD)(h a f:AV)(b:List Obj):Option (List Obj):=
 match h with
 |.b8 id=>
  match b[id]? with
  |aa (.mp e c vs)=>
   if(d.eq a.pl a.pl).isSome then
    match d.find a.pl c 0 with
    |aa (aa g)=>aa (b.set id (.mp e c (vs.set g f.pl)))
    |aa ae=>aa (b.set id (.mp e (c++[a.pl]) (vs++[f.pl])))
    |ae=>ae
   else ae
  |_=>ae
 |_=>ae
def Be(d:KD)(f:AV)(g a:AV)(b:List Obj):Option (AV×List Obj):=
 match g with
 |.b8 id=>
  match b[id]? with
  |aa (.mp ad c vs)=>
   if(d.eq a.pl a.pl).isSome then
    match d.find a.pl c 0 with
    |aa (aa e)=>match vs[e]? with|aa h=>aa (.aB [h,.int .i64 e],b)|ae=>ae
    |aa ae=>aa (.aB [f,.int .i64 (Z c)],b.set id (.mp ad (c++[a.pl]) (vs++[f])))
    |ae=>ae
   else ae
  |_=>ae
 |_=>ae
def Bf(d e f:AV)(a:List Obj):Option (List Obj):=
 match d,e with
 |.b8 id,.int _ (.ofNat c)=>
  match a[id]? with
  |aa (.mp ad b vs)=>if c<Z b then aa (a.set id (.mp ad b (vs.set c f.pl)))else ae
  |_=>ae
 |_,_=>ae
def Bg(c:KD)(f b:AV)(a:List Obj):Option (List Obj):=
 match f with
 |.b8 id=>
  match a[id]? with
  |aa (.mp g e vs)=>
   if(c.eq b.pl b.pl).isSome then
    match c.find b.pl e 0 with
    |aa (aa d)=>aa (a.set id (.mp ab (e.eraseIdx d) (vs.eraseIdx d)))
    |aa ae=>aa a
    |ae=>ae
   else ae
  |_=>ae
 |_=>ae
def FV:AV->Option AV
 |.aq=>aa (.int .i64 0)
 |_=>ae
def Ka(b:AV)(a:List Obj):Option (AV×List Obj):=
 match b with
 |.int .i64 _=>aa (.b8 (Z a),a++[.mp ad [] []])
 |_=>ae
def Df(d e:Nat)(g:List AV)(c f:AV)(b:List Obj):Option (AV×List Obj):=
 match c,f with
 |.aq,.int .i64 a=>if 0<a/\a*e<=2^47 then aa (.q (Z b) 0 0 a.toNat,b++[.arr 0 d (dh a.toNat g)])else ae
 |_,_=>ae
def Dg(c:Nat)(h:List AV)(f:AV)(a:List Obj):Option (List Obj):=
 match f with
 |.q id g off len=>
  match a[id]? with
  |aa (.arr d e b)=>if d=g/\e=c then aa (a.set id (.arr g c (b.take off++(dh len h++b.drop (off+len)))))else ae
  |_=>ae
 |_=>ae
inductive LK where
 |str|sl|map
 |arr(n:Nat)
def gu(e:LK)(g:AV)(b:List Obj):Option AV:=
 match e,g with
 |.str,.str c=>aa (.int .i64 (Z c))
 |.sl,.aq=>aa (.int .i64 0)
 |.sl,.dL=>aa (.int .i64 0)
 |.sl,.sl _ d=>aa (.int .i64 (Z d))
 |.sl,.q _ _ _ len=>aa (.int .i64 len)
 |.arr f,_=>aa (.int .i64 f)
 |.map,.b8 id=>match b[id]? with|aa (.mp _ a _)=>aa (.int .i64 (Z a))|_=>ae
 |.map,.il a _=>aa (.int .i64 (Z a))
 |_,_=>ae
def h6(c:List Obj)(b:Nat):AV->Option (List (List AV))
 |.aq=>aa []
 |.dL=>aa []
 |.sl _ a=>if a.all (λf=>Z f==b)then aa a else ae
 |.q id g off len=>
  match c[id]? with
  |aa (.arr h i a)=>if h=g/\i=b/\off+len<=Z a then aa ((a.drop off).take len)else ae
  |_=>ae
 |.str d=>if b=1 then aa (d.map λe=>[.int .u8 e.toNat])else ae
 |_=>ae
def cJ(c bytes:Nat)(d i:AV)(b:List Obj):Option (AV×List Obj):=
 match h6 b c i with
 |aa a=>
  if d.isNil=ad then if Z a*bytes<=2^47 then aa (.q (Z b) 0 0 (Z a),b++[.arr 0 c a])else ae else
  match d with
  |.q id g 0 len=>
   match b[id]? with
   |aa (.arr f h e)=>
    if f=g/\len<=Z e/\h=c/\(len+Z a)*bytes<=2^47 then
     aa (.q id (g+1) 0 (len+Z a),b.set id (.arr (g+1) c (e.take len++a)))
    else ae
   |_=>ae
  |_=>ae
 |ae=>ae
def fK(a:Nat)(b:AV):Option AV:=match b with|.aB vs=>vs[a]?|_=>ae
def Bh(a:Nat)(d:AV):Option AV:=match d with|.iface b c=>if b=a then aa c else ae|_=>ae
def PR(C:fu)(c:Nat)(args:List AV)(r:AV):Prop:=∃b a,C c args [] b a/\aM a .res b r
def cp(C:fu)(e:Nat)(args:List AV)(c:List Obj)(d:AV->Prop):Prop:=
 ∃a b r,a≠Md.res/\b7 c a (args.map AV.pl) b/\PR C e b r/\(a=.cd->NB r)/\d r
def ch(C:fu)(d:Nat)(args:List AV)(b:List Obj)(c:AV->List Obj->Prop):Prop:=
 ∃r a,C d (args.map AV.pl) b r a/\c r a
def lL(b:AV)(args:List AV):Option (Nat×List AV):=match b with|.fn a first cap=>aa (a,first.map AV.pl++args++cap.map AV.pl)|_=>ae
def rS(g:List (Nat×Nat×Option (Nat×Bool)))(i:AV)(args:List AV)(c:List Obj):Option (Nat×List AV):=
 match i with
 |.iface f b=>
  match look f g with
  |aa (a,ae)=>aa (a,b.pl::args)
  |aa (a,aa (e,d))=>(aQ e d b c).map λh=>(a,h.pl::args)
  |ae=>ae
 |_=>ae
section
variable(P:Program)(G:Nat->Option (List AV))(C:fu)(A:bS)(hc:Oper->Bool)
def gv(b:Nat):AV:=match G b with|aa a=>.aH ab a 0|ae=>.undef
def qI(a:WS):Operand->EV
 |.tmp d=>(look d a.env).getD (.av .undef)
 |.const e=>.av ((rM e).getD .undef)
 |.global c=>.av (gv G c)
 |.func b=>.av (.fn b [] [])
def bX(a:WS)(b:Operand):AV:=(qI G a b).v
def u5(a:Nat):List (Nat×EV)->Bool
 |[]=>ad
 |(_,.lp c _)::b=>c !=a&&u5 a b
 |_::b=>u5 a b
def nD(c:Option Tmp)(d:EV)(a:WS):WS:=
 match c with
 |aa b=>{a with env:=put b d a.env}
 |ae=>a
def Bi(place:Nat->Option (Nat×Nat)):List (Nat×AV)->Option (List (Nat×Nat×AV))
 |[]=>aa []
 |(a,e)::r=>match place a,Bi place r with|aa (c,d),aa b=>aa ((c,d,e)::b)|_,_=>ae
def Kb(g:TypeId)(parts:List (Nat×AV)):Option (List AV×List (Nat×Nat×AV)):=
 match P.underlying g,qw P g with
 |aa (.struct f),aa e=>if f.all λa=>(P.info? a.type).isSome then(Bi (λc=>(f[c]?).map λa=>(a.offset,bj P a.type)) parts).map λd=>(e,d)else ae
 |aa (.array _ b),aa e=>if 0<bj P b then(Bi (λc=>aa (c*bj P b,bj P b)) parts).map λd=>(e,d)else ae
 |_,_=>ae
def xX(a:TypeId):Bool:=(ft P a||bj P a==1)&&(P.underlying a).isSome
def Bj(c:TypeId):BK:=
 match P.underlying c with
 |aa .bool=>.b
 |aa (.slice _)=>.n
 |_=>
  if P.eqGuardType P.depth c=ab/\ft P c=ad then
   match nu P 100 c with
   |aa d=>.a (bj P c) d
   |ae=>.s
  else .s
def Dh(d b:TypeId):CK:=
 match P.underlying d,P.underlying b with
 |aa (.int _),aa (.int c)=>.int c
 |aa .string,aa .string=>.str
 |aa .string,aa (.slice a)=>
  match P.underlying a with
  |aa (.int .u8)=>if bj P a=1 then .bytes else .no
  |_=>.no
 |_,_=>.no
def Kc(c:TypeId):Option SK:=
 match P.underlying c with
 |aa .string=>aa .str
 |aa (.slice a)=>if 0<bj P a then aa (.sl (bj P a))else ae
 |aa (.array b a)=>if bj P a=1 then aa (.arr b)else ae
 |_=>ae
def qJ(a:TypeId):Option KD:=(nY P a).map λks=>{ag:=ft P a,n:=bj P a,ks:=ks}
def Kd(b:TypeId):Option LK:=
 match P.underlying b with
 |aa .string=>aa .str
 |aa (.slice _)=>aa .sl
 |aa (.array a _)=>aa (.arr a)
 |aa (.map _ _)=>aa .map
 |_=>ae
def qK(c:TypeId):Option (Nat×List AV×Nat):=
 match P.underlying c with
 |aa (.slice a)=>match qw P a with|aa b=>if Z b=bj P a/\0<bj P a then aa (bj P a,b,uT P a)else ae|ae=>ae
 |_=>ae
def Kf(a:WS)(m:Builtin)(r:List TypeId)(args:List AV)(d:EV->WS->Prop):Prop:=
 match m,r,args with
 |.len,[c],[e]=>match Kd P c with|aa p=>bd (gu p e a.hp) λb=>d (.av b) a|ae=>False
 |.append,[c,l],[i,e]=>
  if qx P l then
   match qK P c with
   |aa (h,_,g)=>if 0<g then cq (cJ h g i e a.hp) λb f=>d (.av b) {a with hp:=f}else False
   |ae=>False
  else
   match qK P c,P.underlying l with
   |aa (h,k,g),aa (.int .i64)=>if 0<g then cq (Df h g k i e a.hp) λb f=>d (.av b) {a with hp:=f}else False
   |_,_=>False
 |.cap,[c],[e]=>match P.underlying c with|aa (.slice _)=>bd (FV e) λb=>d (.av b) a|_=>False
 |.clear,[c],[e]=>match qK P c with|aa (h,k,_)=>bd (Dg h k e a.hp) λf=>d (.av (.aB [])) {a with hp:=f}|ae=>False
 |.delete,[c,_],[q,n]=>
  match P.underlying c with
  |aa (.map o _)=>match qJ P o with|aa i=>bd (Bg i q n a.hp) λf=>d (.av (.aB [])) {a with hp:=f}|ae=>False
  |_=>False
 |.min,_,j=>bd (tW j) λb=>d (.av b) a
 |.max,_,j=>bd (sT j) λb=>d (.av b) a
 |_,_,_=>False
def Di(a:WS)(y:Option Tmp)(op:Op)(c:EV->WS->Prop):Prop:=
 match op with
 |.move e=>c (.av (bX G a e)) a
 |.assign e=>
  match e,y with
  |.const (.slice ae 0 0),aa g=>match look g A.acc with|aa u=>cq (fh u a.hp) λd f=>c (.av d) {a with hp:=f}|ae=>c (.av .aq) a
  |_,_=>c (.av (bX G a e)) a
 |.pick k q r=>bd (Qt (bX G a k) (bX G a q) (bX G a r)) λd=>c (.av d) a
 |.alloc i=>
  match qw P i,y with
  |aa j,aa g=>
   if Z j=bj P i then
    if g∈A.lb then if u5 g a.env then c (.lp g 0) {a with bx:=put g j a.bx}else False
    else cq (lB (bj P i) j a.hp) λd f=>c (.av d) {a with hp:=f}
   else False
  |_,_=>False
 |.box i e=>
  match y with
  |aa g=>
   if g∈A.lb then
    if u5 g a.env then
     if ft P i then bd (dO (bj P i) (bX G a e)) λl=>c (.lp g 0) {a with bx:=put g (ua l (bj P i) 0) a.bx}
     else if bj P i=1 then bd (nB (bX G a e)) λk=>c (.lp g 0) {a with bx:=put g [k] a.bx}else False
    else False
   else if g∈A.own then cq (nC (bj P i) (bX G a e) a.hp) λd f=>c (.av d) {a with hp:=f}
   else bd (j2 (bj P i) (bX G a e)) λd=>c (.av d) a
  |ae=>False
 |.build b x=>
  match Kb P b (x.toList.map λm=>(m.1,bX G a m.2))with
  |some (j,C)=>bd (mb j C) λl=>c (.av (.agg l)) a
  |none=>False
 |.buildSlice b p x=>
  match qK P b with
  |aa (u,j,_)=>
   if p*u<=2^24 then
    if p==0 then if x.isEmpty then c (.av .dL) a else False
    else if y.any (· ∈A.own)then cq (FU u j p (x.toList.map λm=>(m.1,bX G a m.2)) a.hp) λd f=>c (.av d) {a with hp:=f}
    else bd (fS u j p (x.toList.map λm=>(m.1,bX G a m.2))) λd=>c (.av d) a
   else False
  |ae=>False
 |.load b q=>
  if xX P b then
   match qI G a q with
   |.lp h off=>
    match look h a.bx with
    |aa l=>if off+bj P b<=Z l then c (.av (qv (ft P b) ((l.drop off).take (bj P b)))) a else False
    |ae=>False
   |.av d=>bd (aQ (bj P b) (ft P b) d a.hp) λw=>c (.av w) a
   |.sk=>False
  else False
 |.store b q d=>
  if(P.info? b).isSome then
   match qI G a q with
   |.lp h off=>
    match look h a.bx with
    |aa l=>
     if off+bj P b<=Z l then
      if ft P b then bd (dO (bj P b) (bX G a d)) λF=>c (.av .undef) {a with bx:=put h (e3 l off (ua F (bj P b) 0)) a.bx}
      else if bj P b=1 then bd (nB (bX G a d)) λk=>c (.av .undef) {a with bx:=put h (e3 l off [k]) a.bx}else False
     else False
    |ae=>False
   |.av m=>bd (du (bj P b) m (bX G a d) a.hp) λf=>c (.av .undef) {a with hp:=f}
   |.sk=>False
  else False
 |.nilCheck e=>
  match qI G a e with
  |.lp h off=>c (.lp h off) a
  |.av d=>bd (iL d a.hp) λw=>c (.av w) a
  |.sk=>False
 |.binOp op b e M _=>bd (aT (Bj P b) op (bX G a e) (bX G a M)) λw=>c (.av w) a
 |.unOp op _ e=>bd (nw op (bX G a e)) λw=>c (.av w) a
 |.convert q r e=>bd (pU (Dh P q r) (bX G a e)) λw=>c (.av w) a
 |.makeInterface b e=>match P.underlying b with|aa (.interface _)=>False|aa _=>c (.av (.iface b (bX G a e).pl)) a|ae=>False
 |.makeFunc s first cap=>match s with|.func s=>c (.av (.fn s (first.toList.map λe=>(bX G a e).pl) (cap.toList.map λe=>(bX G a e).pl))) a|_=>False
 |.makeMap b (aa e)=>match P.underlying b with|aa (.map _ _)=>cq (Ka (bX G a e) a.hp) λd f=>c (.av d) {a with hp:=f}|_=>False
 |.makeMap _ ae=>cq (aa (AV.b8 (Z a.hp),a.hp++[.mp ad [] []])) λd f=>c (.av d) {a with hp:=f}
 |.makeSlice b C k=>
  match qK P b with
  |aa (u,j,E)=>cq (u4 u j E (bX G a C) (bX G a k) a.hp) λd f=>c (.av d) {a with hp:=f}
  |ae=>False
 |.range b e=>match P.underlying b with|aa .string=>cq (wb (bX G a e) a.hp) λd f=>c (.av d) {a with hp:=f}|_=>False
 |.next e r=>if r then cq (tX (bX G a e) a.hp) λd f=>c (.av d) {a with hp:=f}else False
 |.slice b e I H J=>
  match Kc P b,J with
  |aa K,ae=>bd (fA K (bX G a e) (I.map (bX G a)) (H.map (bX G a)) a.hp) λd=>c (.av d) a
  |_,_=>False
 |.fieldAddr b e s=>
  match P.underlying b with
  |aa (.struct B)=>
   match B[s]? with
   |aa n=>
    if 0<bj P n.type then
     match qI G a e with
     |.lp h D=>c (.lp h (D+n.offset)) a
     |.av d=>bd (dK n.offset d a.hp) λw=>c (.av w) a
     |.sk=>False
    else False
   |ae=>False
  |_=>False
 |.field b e s=>
  match P.underlying b with
  |aa (.struct B)=>match B[s]? with|aa n=>if xX P n.type then bd (De n.offset (bj P n.type) (ft P n.type) (bX G a e)) λw=>c (.av w) a else False|ae=>False
  |_=>False
 |.indexAddr b e t=>
  match P.underlying b with
  |aa (.array len i)=>
   if 0<bj P i then
    match qI G a e with
    |.lp h D=>match bX G a t with|.int _ p=>if 0<=p/\p<len then c (.lp h (D+p.toNat*bj P i)) a else False|_=>False
    |.av d=>bd (pT len (bj P i) d (bX G a t) a.hp) λw=>c (.av w) a
    |.sk=>False
   else False
  |aa (.slice i)=>if 0<bj P i then bd (bP (bj P i) (bX G a e) (bX G a t) a.hp) λw=>c (.av w) a else False
  |_=>False
 |.index b e t=>
  match P.underlying b with
  |aa .string=>bd (mc (bX G a e) (bX G a t)) λw=>c (.av w) a
  |_=>False
 |.lookup b o h ok=>
  match P.underlying b with
  |aa (.map v z)=>
   match qJ P v,sR P z with
   |aa g,aa j=>bd (iM g j ok (bX G a o) (bX G a h) a.hp) λw=>c (.av w) a
   |_,_=>False
  |_=>False
 |.mapEntry b o h=>
  match P.underlying b with
  |aa (.map v z)=>
   match qJ P v,sR P z with
   |aa g,aa j=>cq (Be g j (bX G a o) (bX G a h) a.hp) λd f=>c (.av d) {a with hp:=f}
   |_,_=>False
  |_=>False
 |.entryStore _ o L d=>bd (Bf (bX G a o) (bX G a L) (bX G a d) a.hp) λf=>c (.av .undef) {a with hp:=f}
 |.mapUpdate b o h d|.insert b o h d=>
  match P.underlying b with
  |aa (.map v _)=>match qJ P v with|aa g=>bd (jP g (bX G a o) (bX G a h) (bX G a d) a.hp) λf=>c (.av .undef) {a with hp:=f}|ae=>False
  |_=>False
 |.extract e t=>bd (fK t (bX G a e)) λw=>c (.av w) a
 |.typeAssert e _ b ok=>match P.underlying b with|aa (.interface _)=>False|aa _=>if ok then False else bd (Bh b (bX G a e)) λw=>c (.av w) a|ae=>False
 |.call k=>match k.callee with|.builtin r=>Kf P a r k.argTypes.toList (k.args.toList.map (bX G a)) c|_=>False
 |_=>False
def Bk(name:String)(d:TypeId):Option (Nat×Option (Nat×Bool)):=
 match(P.info? d).bind λe=>e.methods.find? (·.name==name)with
 |some c=>
  match c.path.toList,c.func,P.underlying d with
  |[],aa (b,ad),aa (.pointer _)=>aa (b,ae)
  |[],aa (b,ab),aa (.pointer a)=>if xX P a then aa (b,aa (bj P a,ft P a))else ae
  |_,_,_=>ae
 |none=>ae
def Kg(name:String):List (Nat×Nat×Option (Nat×Bool)):=(ay P.types.size).filterMap λa=>(Bk P name a).map λb=>(a,b)
def Kh(a:WS)(h:Bool)(e:Call)(c:EV->WS->Prop):Prop:=
 match e.callee with
 |.value (.func b)=>
  if h then ch C b (e.args.toList.map (bX G a)) a.hp λr d=>c (.av r) {a with hp:=d}
  else cp C b (e.args.toList.map (bX G a)) a.hp λr=>c (.av r) a
 |.value g=>
  cq (lL (bX G a g) (e.args.toList.map λf=>(bX G a f).pl)) λb args=>
   if h then ch C b args a.hp λr d=>c (.av r) {a with hp:=d}
   else cp C b args a.hp λr=>c (.av r) a
 |.invoke r name=>
  cq (rS (Kg P name) (bX G a r) (e.args.toList.map λf=>(bX G a f).pl) a.hp) λb args=>
   if h then ch C b args a.hp λr d=>c (.av r) {a with hp:=d}
   else cp C b args a.hp λr=>c (.av r) a
 |_=>False
def FW(e:WS)(a:Oper)(d:WS->Prop):Prop:=
 match a.op with
 |.call f=>
  match f.callee with
  |.builtin _=>Di P G A e a.dst a.op λc b=>d (nD a.dst c b)
  |_=>Kh P G C e (hc a) f λc b=>d (nD a.dst c b)
 |_=>Di P G A e a.dst a.op λc b=>d (nD a.dst c b)
def wq(d:Nat)(b:EV):List (Nat×EV)->List (Nat×EV)
 |[]=>[]
 |(a,e)::c=>if a=d then(a,b)::c else(a,e)::wq d b c
def gd(c:AV)(d:Bool)(A a:Prop):Prop:=match c.pl with|.bool b=>if b=d then A else a|_=>False
def qL(c:Array Oper):List Oper->WS->(WS->Prop)->Prop
 |[],a,b=>b a
 |o::d,a,b=>
  match o.guard with
  |ae=>FW P G C A hc a o λe=>qL c d e b
  |aa (h,g)=>
   match(c[h]?).bind (·.dst)with
   |aa f=>
    match look f a.env with
    |aa (.av i)=>
     gd i g (FW P G C A hc {a with env:=wq f (.av (.bool g)) a.env} o λe=>qL c d e b)
      (qL c d (nD o.dst .sk {a with env:=wq f (.av (.bool (!g))) a.env}) b)
    |aa .sk=>qL c d (nD o.dst .sk a) b
    |_=>False
   |ae=>False
def FX(b:WS)(a:Oper):Prop:=
 match a.dst,a.guard with
 |aa e,ae=>
  match look e b.env with
  |aa k=>Di P G A b a.dst a.op λf _=>match f,k with|.av c,.av d=>ob c d|.lp g i,.lp h j=>if g=h/\i=j then True else False|_,_=>False
  |ae=>False
 |_,_=>False
def FY(d:Array Oper)(c:List Nat)(b:WS)(a:Prop):List Nat->Prop
 |[]=>a
 |i::e=>if i∈c then match d[i]? with|aa f=>FX P G A b f/\FY d c b a e|ae=>False else False
def FZ(b:Array Oper)(a:Oper)(f:List Nat):List Nat:=
 f.filter λd=>match b[d]? with|aa c=>a.dst.isNone||(a.dst !=c.dst&&(c.looksAt b).all λe=>a.dst !=aa e)|ae=>ab
def Dj(b:Array Oper)(g:Nat->Nat->Bool):List Nat->List Nat->List Nat->WS->(WS->Prop)->Prop
 |[],_,_,d,c=>c d
 |i::j,done,l,d,c=>
  match b[i]? with
  |ae=>False
  |aa a=>
   qL P G C A hc b [a] d λf=>
    let e:=FZ b a l
    let h:=y (aC P A hc a=.pure)||y (aC P A hc a=.rd)
    let add:=h&&a.dst.isSome&&(a.looksAt b).all λk=>a.dst !=aa k
    let go:=Dj b g j (if h then i::done else done) (if add then i::e else e) f c
    if aC P A hc a=.jd then FY P G A b e f go (done.filter (g · i))else go
def u6(a:WS):WS:={env:=k1 A.mL a.env,bx:=k1 A.mL a.bx,hp:=a.hp}
def Dk(c:Operand)(a:WS):WS:=
 match c with
 |.tmp b=>if b∈A.cs then{a with env:=lA b a.env}else a
 |_=>a
def acO(b:Array Oper):Bool:=b.toList.any λa=>a.guard.isSome
def xY(id:Nat):Code->Nat
 |.exit c=>if c=id then 1 else 0
 |.seq a b=>xY id a+xY id b
 |.cond _ a b=>xY id a+xY id b
 |.block _ a=>xY id a
 |.loop a=>xY id a
 |.scope a=>xY id a
 |_=>0
def zv:Code->Nat
 |.region _ c _=>if acO c then 2 else 1
 |.seq a b=>if zv a=0 then 0 else zv b
 |.cond _ a b=>zv a+zv b
 |.block id a=>zv a+xY id a
 |.loop _=>0
 |.scope a=>zv a
 |.exit _=>0
 |.ret=>0
 |_=>1
def sZ(a:List Oper):List Nat:=a.filterMap (·.dst)
def h7:Code->List Nat
 |.region _ c _=>sZ c.toList
 |.seq a b=>h7 a++h7 b
 |.cond _ a b=>h7 a++h7 b
 |.block _ a=>h7 a
 |.loop a=>h7 a
 |.scope a=>h7 a
 |_=>[]
def mO(dc:List Nat)(b:List AV):Nat->List (Nat×EV)->List (Nat×EV)
 |_,[]=>[]
 |i,(a,.lp e f)::c=>(a,.lp e f)::mO dc b i c
 |i,(a,d)::c=>if a∈dc then(a,.av (g b i))::mO dc b (i+1) c else(a,d)::mO dc b i c
def u7(dc:List Nat):List (Nat×EV)->Nat
 |[]=>0
 |(_,.lp _ _)::a=>u7 dc a
 |(b,_)::a=>if b∈dc then u7 dc a+1 else u7 dc a
def zw(b:List AV):Nat->List (Nat×List AV)->List (Nat×List AV)
 |_,[]=>[]
 |i,(c,a)::d=>(c,ua b (Z a) i)::zw b (i+Z a) d
def WS.fill(T:WS)(dc:List Nat)(a:List AV)(b:List Obj):WS:=
 {env:=mO dc a 0 T.env,bx:=zw a (u7 dc T.env) T.bx,hp:=b}
def rT(dc:List Nat)(env:List (Nat×EV)):List (Nat×EV)->Option (List AV)
 |[]=>aa []
 |(a,.lp d f)::b=>match look a env with|aa (.lp e g)=>if d=e/\f=g then rT dc env b else ae|_=>ae
 |(a,_)::b=>
  match look a env with
  |aa (.lp _ _)|ae=>ae
  |aa c=>if a∈dc then(rT dc env b).map λr=>c.v::r else rT dc env b
def F0(a:List (Nat×List AV)):List (Nat×List AV)->Option (List AV)
 |[]=>aa []
 |(d,c)::e=>match look d a with|aa b=>if Z c=Z b then(F0 a e).map λr=>b++r else ae|ae=>ae
def Dl(dc:List Nat)(T a:WS):Option (List AV):=
 match rT dc a.env T.env,F0 a.bx T.bx with
 |aa b,aa c=>aa (b++c)
 |_,_=>ae
def zx:List Oper->WS->WS
 |[],a=>a
 |o::r,a=>
  match o.dst with
  |aa b=>
   match o.op with
   |.alloc c|.box c _=>if b∈A.lb then zx r {a with env:=put b (.lp b 0) a.env,bx:=put b (dh (bj P c) .undef) a.bx}else zx r {a with env:=put b (.av .undef) a.env}
   |_=>zx r {a with env:=put b (.av .undef) a.env}
  |ae=>zx r a
def F1:Option (List Nat)->Option (List Nat)->Option (List Nat)
 |ae,b=>b
 |a,ae=>a
 |aa a,aa b=>aa (a.filter (· ∈b))
def Qu:Option (List Nat)->Option (List Nat)->Option (List Nat)
 |aa a,aa b=>aa (a++b)
 |_,_=>ae
mutual
def dN:Code->Option (List Nat)
 |.skip=>aa []
 |.label _=>aa []
 |.region _ d _=>aa (sZ d.toList)
 |.seq a b=>Qu (dN a) (dN b)
 |.cond _ a b=>F1 (dN a) (dN b)
 |.block id a=>F1 (dN a) (dE id a)
 |.scope a=>dN a
 |_=>ae
def dE (id:Nat):Code->Option (List Nat)
 |.seq a b=>F1 (dE id a) (Qu (dN a) (dE id b))
 |.cond _ a b=>F1 (dE id a) (dE id b)
 |.block _ a=>dE id a
 |.loop a=>dE id a
 |.scope a=>dE id a
 |.exit c=>if c=id then aa []else ae
 |_=>ae
end
def F2:List Nat->List (Nat×EV)->List (Nat×EV)
 |[],a=>a
 |k::r,a=>F2 r (match look k a with|aa _=>a|ae=>put k (.av .undef) a)
def Dm(c:Code)(a:WS):WS:=
 match c with
 |.region _ d _=>u6 A (zx P A d.toList a)
 |_=>{a with env:=F2 (((dN c).getD []).filter λb=>y (b∈A.mL)&& !y (b∈A.cs)&& !y (b∈A.lb)&&y (b∈h7 c)) (k1 (A.mL.filter (· ∉A.cs)) a.env),bx:=k1 A.mL a.bx}
def meet(dc:List Nat)(T:WS)(Q:fg->WS->Prop)(R:List AV->List Obj->Prop)(o:fg)(a:WS):Prop:=
 match o with
 |.norm=>match Dl dc T a with|aa b=>R b a.hp|ae=>False
 |o=>Q o a
def acP(id:Nat)(a:Array Oper):List Nat:=(look id A.ord).getD (ay a.size)
def jg:Code->WS->(fg->WS->Prop)->Prop
 |.skip,a,Q=>Q .norm a
 |.label _,a,Q=>Q .norm a
 |.region id d j,a,Q=>
  if j then
   if d.toList.all (λo=>y (aC P A hc o≠.box)||o.dst.all λj=>u5 j a.env)then
    if FP P A hc d then qL P G C A hc d d.toList a (λc=>Q .norm (u6 A c))
    else
     let k:=acP A id d
     if Dd P A hc d k then Dj P G C A hc d (Bd P A hc d) k [] [] a (λc=>Q .norm (u6 A c))else False
   else False
  else qL P G C A hc d d.toList a (λc=>Q .norm (u6 A c))
 |.seq b f,a,Q=>
  match CQ P (.seq b f)with
  |aa (n,g,m)=>bd (xH (bX G a n) (bX G a g) a.hp) λe=>Q .norm {a with env:=lJ m a.env,hp:=e}
  |ae=>
  if zv b<=1 then jg b a (λo c=>match o with|.norm=>jg f c Q|o=>Q o c)
  else jn (λR=>jg b a (meet (h7 b) (Dm P A b a) Q R)) (λh e=>jg f ((Dm P A b a).fill (h7 b) h e) Q)
 |.cond i b f,a,Q=>ez (bX G a i) (jg b (Dk A i a) Q) (jg f (Dk A i a) Q)
 |.block id b,a,Q=>jg b a (λo c=>match o with|.exit l=>if l=id then Q .norm c else Q (.exit l) c|o=>Q o c)
 |.loop b,a,Q=>
  match Dl (h7 b) a a with
  |aa h=>jB (λh e R=>jg b (a.fill (h7 b) h e) (meet (h7 b) a Q R)) h a.hp
  |ae=>False
 |.exit id,a,Q=>Q (.exit id) a
 |.ret,a,Q=>Q .ret a
 |.scope b,a,Q=>jg b a Q
 |_,_,_=>False
def F3(b:WS):ResultVar->Option AV
 |.tmp a=>aa (((look a b.env).getD (.av .undef)).v.pl)
 |.cell d a=>
  match(look d b.env).getD (.av .undef)with
  |.lp e off=>
   match look e b.bx with
   |aa c=>if xX P a&&y (off+bj P a<=Z c)then aa (qv (ft P a) ((c.drop off).take (bj P a))).pl else ae
   |ae=>ae
  |_=>ae
def Dn(a:WS):List ResultVar->Option (List AV)
 |[]=>aa []
 |r::rs=>
  match F3 P a r,Dn a rs with
  |aa b,aa vs=>aa (b::vs)
  |_,_=>ae
def Dp(rs:List ResultVar)(a:WS)(Q:AV->List Obj->Prop):Prop:=
 match Dn P a rs with
 |aa [b]=>Q b a.hp
 |aa vs=>Q (.aB vs) a.hp
 |ae=>False
def o7:Nat->List AV->List (Nat×EV)
 |_,[]=>[]
 |k,a::vs=>(k,.av a)::o7 (k+1) vs
def F4(c:Code)(rs:List ResultVar)(args:List AV)(a:List Obj)(Q:AV->List Obj->Prop):Prop:=
 jg P G C A hc c {env:=o7 0 args,bx:=[],hp:=a} λd b=>match d with|.exit _=>False|_=>Dp P rs b Q
end
abbrev d:=List UInt8
structure aG where
 ty:Int
 n:Int
 s:d
 deriving DecidableEq,Inhabited
structure bQ where
 au:d
 az:List d
 eK:List (Int×Int)
 bb:Int
 deriving DecidableEq,Inhabited
structure Fn where
 au:d
 aN:d
 of:Int
 src:List d
 dst:List d
 gU:List Int
 bb:Int
 deriving DecidableEq,Inhabited
structure cO where
 au:d
 a6:List Int
 aN:d
 of:Int
 ek:Bool
 fy:Int
 bb:Int
 deriving DecidableEq,Inhabited
structure aK where
 aF:d
 const:aG
 deriving DecidableEq,Inhabited
structure Lit where
 ax:Int
 au:d
 ah:Int
 af:List aK
 bind:d
 aj:d
 iG:Int
 op:Int
 bb:Int
 deriving DecidableEq,Inhabited
structure pV where
 ax:Int
 au:d
 aF:d
 aR:Int
 deriving DecidableEq,Inhabited
structure aD where
 au:d
 ah:Int
 af:List aK
 aj:pV
 ai:List Lit
 bb:Int
 deriving DecidableEq,Inhabited
structure D where
 aw:List bQ
 aO:List Fn
 Q:List cO
 ak:List aD
 deriving DecidableEq,Inhabited
structure S where
 ah:Int
 af:List aG
 aj:Int
 deriving DecidableEq,Inhabited
structure bc where
 aA:List d
 bH:List aG
 aw:List d
 az:List Int
 deriving DecidableEq,Inhabited
def eS(a:Bool)(b:K->List AV)(c:List K):AV:=.sl a (c.map b)
def cI(a:Int):List AV:=[I a]
def cB(a:Bool):List AV:=[.bool a]
def cS(a:d):List AV:=[.str a]
def b3(a:Int×Int):List AV:=[I a.1,I a.2]
def cV(a:aG):List AV:=[I a.ty,I a.n,.str a.s]
def cT(a:aK):List AV:=[.str a.aF,I a.const.ty,I a.const.n,.str a.const.s]
def bp(b:Bool)(a:bQ):List AV:=[.str a.au,eS b cS a.az,eS b b3 a.eK,I a.bb]
def cm(b:Bool)(a:Fn):List AV:=[.str a.au,.str a.aN,I a.of,eS b cS a.src,eS b cS a.dst,eS b cI a.gU,I a.bb]
def bO(b:Bool)(a:cO):List AV:=[.str a.au,eS b cI a.a6,.str a.aN,I a.of,.bool a.ek,I a.fy,I a.bb]
def bg(b:Bool)(a:Lit):List AV:=[I a.ax,.str a.au,I a.ah,eS b cT a.af,.str a.bind,.str a.aj,I a.iG,I a.op,I a.bb]
def n9(a:pV):List AV:=[I a.ax,.str a.au,.str a.aF,I a.aR]
def aS(a:Bool)(r:aD):List AV:=[.str r.au,I r.ah,eS a cT r.af,I r.aj.ax,.str r.aj.au,.str r.aj.aF,I r.aj.aR,eS a (bg a) r.ai,I r.bb]
def cP(a c:Bool)(b:D):List AV:=[eS a (bp a) b.aw,eS a (cm a) b.aO,eS a (bO a) b.Q,eS c (aS a) b.ak]
def cF(b:Bool)(a:S):List AV:=[I a.ah,eS b cV a.af,I a.aj]
def cE(a:Bool)(b:bc):List AV:=[eS a cS b.aA,eS a cV b.bH,eS a cS b.aw,eS a cI b.az]
mutual
inductive Im:AV->Prop
 |int (g:IntKind) (i:Int):Im (.int g i)
 |bool (b:Bool):Im (.bool b)
 |str (j:List UInt8):Im (.str j)
 |gH:Im .gH
 |fP:Im .fP
 |jZ:Im .jZ
 |undef:Im .undef
 |agg (a:List AV) (h:bT a):Im (.agg a)
 |aB (a:List AV) (h:bT a):Im (.aB a)
 |sl (b:Bool) (e:List (List AV)) (h:pW e):Im (.sl b e)
 |aH (b:Bool) (a:List AV) (off:Nat) (h:bT a):Im (.aH b a off)
 |fn (f:Nat) (d a:List AV) (h:bT d) (l:bT a):Im (.fn f d a)
inductive bT:List AV->Prop
 |nil:bT []
 |cons (c:AV) (vs:List AV) (h:Im c) (k:bT vs):bT (c::vs)
inductive pW:List (List AV)->Prop
 |nil:pW []
 |cons (c:List AV) (vs:List (List AV)) (h:bT c) (k:pW vs):pW (c::vs)
end
mutual
theorem Im.snap{e:List Obj}:∀{m:Md}{b:AV},Im b->aM e m b b
 |m,_,.int k l=>.int m k l
 |m,_,.bool c=>.bool m c
 |m,_,.str n=>.str m n
 |m,_,.gH=>.gH m
 |m,_,.fP=>.fP m
 |m,_,.jZ=>.jZ m
 |m,_,.undef=>.undef m _
 |m,_,.agg a h=>.agg m a a (bT.snap h)
 |m,_,.aB a h=>.aB m a a (bT.snap h)
 |.dm,_,.sl c d h=>.xN _ (by decide) c d d (pW.snap h)
 |.cd,_,.sl c d h=>.xN _ (by decide) c d d (pW.snap h)
 |.res,_,.sl c d h=>.CS c d d (pW.snap h)
 |.dm,_,.aH c a off h=>.uV _ (by decide) c a a off (bT.snap h)
 |.cd,_,.aH c a off h=>.uV _ (by decide) c a a off (bT.snap h)
 |.res,_,.aH c a off h=>.CT c a a off (bT.snap h)
 |m,_,.fn i g a h j=>.fn m i g g a a (bT.snap h) (bT.snap j)
theorem bT.snap {e:List Obj}:∀{m:Md}{b:List AV},bT b->b7 e m b b
 |m,_,.nil=>.nil m
 |m,_,.cons b vs h f=>.cons m b b vs vs (Im.snap h) (bT.snap f)
theorem pW.snap {e:List Obj}:∀{m:Md}{b:List (List AV)},pW b->fJ e m b b
 |m,_,.nil=>.nil m
 |m,_,.cons b vs h f=>.cons m b b vs vs (bT.snap h) (pW.snap f)
end
variable{M:List Obj}{dd:Md}{E:AV}
theorem eu(h:Im E:=by simp):aM M dd E E:=h.snap
theorem Im.pl(h:Im E):E.pl=E:=by cases h<;>rfl
theorem bT.pl:∀{a:List AV},bT a->a.map AV.pl=a
 |_,.nil=>rfl
 |_,.cons c vs h b=>by rw[ej,h.pl,b.pl]
@[simp] theorem acQ(a:IntKind)(b:Int):Im (.int a b):=.int a b
@[simp] theorem asp(a:Bool):Im (.bool a):=.bool a
@[simp] theorem Qv(a:List UInt8):Im (.str a):=.str a
@[simp] theorem asq(c:Nat)(a b:List AV):Im (.fn c a b)<->bT a/\bT b:=⟨λh=>by cases h with|fn _ _ _ h d=>exact⟨h,d⟩,λh=>.fn c a b h.1 h.2⟩
@[simp] theorem asr:bT []:=.nil
@[simp] theorem ass(a:AV)(vs:List AV):bT (a::vs)<->Im a/\bT vs:=⟨λh=>by cases h with|cons _ _ h b=>exact⟨h,b⟩,λh=>.cons a vs h.1 h.2⟩
@[simp] theorem ast(a:List AV):Im (.agg a)<->bT a:=⟨λh=>by cases h with|agg _ h=>exact h,.agg a⟩
@[simp] theorem asu(a:List AV):Im (.aB a)<->bT a:=⟨λh=>by cases h with|aB _ h=>exact h,.aB a⟩
@[simp] theorem asv(b:Bool)(a:List AV)(off:Nat):Im (.aH b a off)<->bT a:=⟨λh=>by cases h with|aH _ _ _ h=>exact h,.aH b a off⟩
variable{a7:K -> List AV}
theorem Ki(b:∀x,bT (a7 x)):∀a:List K,pW (a.map a7)
 |[]=>.nil
 |x::a=>.cons _ _ (b x) (Ki b a)
theorem nE(c:∀d,bT (a7 d))(a:Bool)(b:List K):Im (eS a a7 b):=.sl a _ (Ki c b)
@[simp] theorem Qw(a:Int):bT (cI a):=by simp[cI]
@[simp] theorem acR(a:Bool):bT (cB a):=by simp[cB]
@[simp] theorem Qx(a:d):bT (cS a):=by simp[cS]
@[simp] theorem Qy(a:Int×Int):bT (b3 a):=by simp[b3]
@[simp] theorem Qz(a:aG):bT (cV a):=by simp[cV]
@[simp] theorem QA(a:aK):bT (cT a):=by simp[cT]
@[simp] theorem Kj(a:Bool)(b:List Int):Im (eS a cI b):=nE Qw a b
@[simp] theorem F5(a:Bool)(b:List d):Im (eS a cS b):=nE Qx a b
@[simp] theorem asw(a:Bool)(b:List (Int×Int)):Im (eS a b3 b):=nE Qy a b
@[simp] theorem asx(a:Bool)(b:List aG):Im (eS a cV b):=nE Qz a b
@[simp] theorem QB(a:Bool)(b:List aK):Im (eS a cT b):=nE QA a b
@[simp] theorem acS(a:Bool)(b:bQ):bT (bp a b):=by simp[bp]
@[simp] theorem acT(a:Bool)(b:Fn):bT (cm a b):=by simp[cm]
@[simp] theorem acU(a:Bool)(b:cO):bT (bO a b):=by simp[bO]
@[simp] theorem acV(a:Bool)(b:Lit):bT (bg a b):=by simp[bg]
@[simp] theorem QC(a b:Bool)(c:List Lit):Im (eS a (bg b) c):=nE (acV b) a c
@[simp] theorem acW(a:Bool)(b:aD):bT (aS a b):=by simp[aS]
@[simp] theorem QD(a b:Bool)(c:List bQ):Im (eS a (bp b) c):=nE (acS b) a c
@[simp] theorem QE(a b:Bool)(c:List Fn):Im (eS a (cm b) c):=nE (acT b) a c
@[simp] theorem QF(a b:Bool)(c:List cO):Im (eS a (bO b) c):=nE (acU b) a c
@[simp] theorem QG(a b:Bool)(c:List aD):Im (eS a (aS b) c):=nE (acW b) a c
@[simp] theorem asy(a b:Bool)(c:D):bT (cP a b c):=by simp[cP]
@[simp] theorem QH(a:Bool)(b:S):bT (cF a b):=by simp[cF]
@[simp] theorem acX(a b:Bool)(c:List S):Im (eS a (cF b) c):=nE (QH b) a c
@[simp] theorem jh(a:Int):Z (cI a)=1:=rfl
@[simp] theorem acY(a:Bool):Z (cB a)=1:=rfl
@[simp] theorem iS(a:d):Z (cS a)=1:=rfl
@[simp] theorem ub(a:Int×Int):Z (b3 a)=2:=rfl
@[simp] theorem s4(a:aG):Z (cV a)=3:=rfl
@[simp] theorem kt(a:aK):Z (cT a)=4:=rfl
@[simp] theorem kK(a:Bool)(b:bQ):Z (bp a b)=4:=rfl
@[simp] theorem s5(a:Bool)(b:Fn):Z (cm a b)=7:=rfl
@[simp] theorem ji(a:Bool)(b:cO):Z (bO a b)=7:=rfl
@[simp] theorem jC(a:Bool)(b:Lit):Z (bg a b)=9:=rfl
@[simp] theorem asz(a:pV):Z (n9 a)=4:=rfl
@[simp] theorem mP(a:Bool)(b:aD):Z (aS a b)=9:=rfl
@[simp] theorem asA(a b:Bool)(c:D):Z (cP a b c)=4:=rfl
@[simp] theorem fB(a:Bool)(b:S):Z (cF a b)=3:=rfl
@[simp] theorem asB(a:Bool)(b:bc):Z (cE a b)=4:=rfl
@[simp] theorem asC(a:Bool)(b:K->List AV)(c:List K):(eS a b c).bU=true:=rfl
@[simp] theorem asD(a:IntKind)(b:Int):(AV.int a b).bU=true:=rfl
@[simp] theorem asE(a:Bool):(AV.bool a).bU=true:=rfl
@[simp] theorem asF(a:List UInt8):(AV.str a).bU=true:=rfl
@[simp] theorem asG(a b c d:Nat):(AV.q a b c d).bU=true:=rfl
@[simp] theorem asH:(AV.aq).bU=true:=rfl
@[simp] theorem asI(a:Bool)(b:List (List AV)):(AV.sl a b).bU=true:=rfl
@[simp] theorem asJ(a:Nat):(AV.b8 a).bU=true:=rfl
@[simp] theorem asK(a b c d:Nat):(AV.ptr a b c d).bU=true:=rfl
@[simp] theorem asL(a:Nat)(b c:List AV):(AV.fn a b c).bU=true:=rfl
@[simp] theorem asM(a:Int):(cI a).all AV.bU=true:=rfl
@[simp] theorem asN(a:Bool):(cB a).all AV.bU=true:=rfl
@[simp] theorem asO(a:d):(cS a).all AV.bU=true:=rfl
@[simp] theorem asP(a:Int×Int):(b3 a).all AV.bU=true:=rfl
@[simp] theorem asQ(a:aG):(cV a).all AV.bU=true:=rfl
@[simp] theorem asR(a:aK):(cT a).all AV.bU=true:=rfl
@[simp] theorem asS(a:Bool)(b:bQ):(bp a b).all AV.bU=true:=rfl
@[simp] theorem asT(a:Bool)(b:Fn):(cm a b).all AV.bU=true:=rfl
@[simp] theorem asU(a:Bool)(b:cO):(bO a b).all AV.bU=true:=rfl
@[simp] theorem asV(a:Bool)(b:Lit):(bg a b).all AV.bU=true:=rfl
@[simp] theorem asW(a:pV):(n9 a).all AV.bU=true:=rfl
@[simp] theorem asX(a:Bool)(b:aD):(aS a b).all AV.bU=true:=rfl
@[simp] theorem asY(a b:Bool)(c:D):(cP a b c).all AV.bU=true:=rfl
@[simp] theorem asZ(a:Bool)(b:S):(cF a b).all AV.bU=true:=rfl
@[simp] theorem as0(a:Bool)(b:bc):(cE a b).all AV.bU=true:=rfl
@[simp] theorem Bl(a:IntKind)(b:Int):(AV.int a b).pl=.int a b:=rfl
@[simp] theorem qM(a:Bool):(AV.bool a).pl=.bool a:=rfl
@[simp] theorem zy(a:List UInt8):(AV.str a).pl=.str a:=rfl
@[simp] theorem Bm(a:List AV):(AV.agg a).pl=.agg a:=rfl
@[simp] theorem as1(a:List AV):(AV.aB a).pl=.aB a:=rfl
@[simp] theorem as2(a:Bool)(b:List (List AV)):(AV.sl a b).pl=.sl a b:=rfl
@[simp] theorem as3(a:Bool)(b:K->List AV)(c:List K):(eS a b c).pl=eS a b c:=rfl
@[simp] theorem as4(a b c d:Nat):(AV.q a b c d).pl=.q a b c d:=rfl
@[simp] theorem as5:(AV.aq).pl=.aq:=rfl
@[simp] theorem zz(a b c d:Nat):(AV.ptr a b c d).pl=.ptr a b c d:=rfl
@[simp] theorem as6(a:Bool)(b:List AV)(c:Nat):(AV.aH a b c).pl=.aH a b c:=rfl
@[simp] theorem as7(a:Nat):(AV.b8 a).pl=.b8 a:=rfl
@[simp] theorem acZ(a:Nat)(b c:List AV):(AV.fn a b c).pl=.fn a b c:=rfl
@[simp] theorem as8:(AV.undef).pl=.undef:=rfl
@[simp] theorem as9(a:Nat)(b:AV):(AV.iface a b).pl=.iface a b:=rfl
@[simp] theorem ata(a:List AV):(AV.agg a).cells=a:=rfl
@[simp] theorem atb(a:IntKind)(b:Int):(AV.int a b).cells=[.int a b]:=rfl
@[simp] theorem atc(a:Bool):(AV.bool a).cells=[.bool a]:=rfl
@[simp] theorem atd(a:List UInt8):(AV.str a).cells=[.str a]:=rfl
@[simp] theorem ate(a:Bool)(b:K->List AV)(c:List K):(eS a b c).cells=[eS a b c]:=rfl
@[simp] theorem atf(a:Bool)(b:List (List AV)):(AV.sl a b).cells=[.sl a b]:=rfl
@[simp] theorem atg(a b c d:Nat):(AV.q a b c d).cells=[.q a b c d]:=rfl
@[simp] theorem ath:(AV.aq).cells=[.aq]:=rfl
@[simp] theorem ati(a:Nat):(AV.b8 a).cells=[.b8 a]:=rfl
@[simp] theorem atj(a b c d:Nat):(AV.ptr a b c d).cells=[.ptr a b c d]:=rfl
@[simp] theorem atk(a:Nat)(b c:List AV):(AV.fn a b c).cells=[.fn a b c]:=rfl
@[simp] theorem O(b:K)(a:K->Prop):bd (aa b) a=a b:=rfl
@[simp] theorem e4(a:K×b0)(b:K->b0->Prop):cq (aa a) b=b a.1 a.2:=rfl
@[simp] theorem c5(a:Bool)(b c:Prop):ez (.bool a) b c=if a=ad then b else c:=by cases a<;>rfl
@[simp] theorem jD(c w:Bool)(a b:Prop):gd (.bool c) w a b=if c=w then a else b:=rfl
@[simp] theorem G(a:AV)(b:List AV):g (a::b) 0=a:=rfl
@[simp] theorem i(c:AV)(a:List AV)(b:Nat):g (c::a) (b+1)=g a b:=rfl
theorem bz(a:(List AV->List Obj->Prop)->Prop)(b:List AV->List Obj->Prop):jn a b=a b:=rfl
@[simp] theorem mg(a:AV):ob a a=True:=by simp[ob]
@[simp] theorem aX(c:Bool)(d:K->List AV)(a:List K)(b:List Obj):gu .sl (eS c d a) b=aa (I (Z a)):=by simp[gu,eS]
@[simp] theorem zA(a:List UInt8)(b:List Obj):gu .str (.str a) b=aa (I (Z a)):=rfl
@[simp] theorem atl(c:Bool)(a:List (List AV))(b:List Obj):gu .sl (.sl c a) b=aa (I (Z a)):=rfl
@[simp] theorem oa(c d e a:Nat)(b:List Obj):gu .sl (.q c d e a) b=aa (I a):=rfl
@[simp] theorem atm(a:List Obj):gu .sl .aq a=aa (I 0):=rfl
variable{T:Bool}{x:List K}
theorem aE(h:U<Z x)(a:Z (a7 x[U])=N):bP N (eS T a7 x) (I U) M=aa (.aH T (a7 x[U]) 0):=by
 simp[bP,eS,h,a]
@[simp] theorem bh(c:Nat)(a:Bool)(b:List AV)(off:Nat)(d:List Obj):dK c (.aH a b off) d=aa (.aH a b (off+c)):=rfl
@[simp] theorem aJ(c:Bool)(a:List AV)(off:Nat)(b:List Obj):aQ 1 ab (.aH c a off) b=a[off]?:=by
 simp only[aQ,wo];by_cases h:off<Z a;rw[if_pos (by omega)];simp[qv,bq h,OG];rw[if_neg (by omega)];simp;omega
variable{bF:List AV}
theorem ac0(h:Z bF=U):aQ U ad (.aH T bF 0) M=aa (.agg bF):=by
 grind[aQ,wo,qv]
@[simp] theorem QI(c:Bool)(a:Int×Int)(b:List Obj):aQ 2 ad (.aH c (b3 a) 0) b=aa (.agg (b3 a)):=rfl
@[simp] theorem u9(c:Bool)(a:aG)(b:List Obj):aQ 3 ad (.aH c (cV a) 0) b=aa (.agg (cV a)):=rfl
@[simp] theorem lM(c:Bool)(a:aK)(b:List Obj):aQ 4 ad (.aH c (cT a) 0) b=aa (.agg (cT a)):=rfl
@[simp] theorem Kk(c:Bool)(a:aK)(b:List Obj):aQ 3 ad (.aH c (cT a) 1) b=aa (.agg (cV a.const)):=rfl
@[simp] theorem jj(d a:Bool)(b:bQ)(c:List Obj):aQ 4 ad (.aH d (bp a b) 0) c=aa (.agg (bp a b)):=rfl
@[simp] theorem Dq(d a:Bool)(b:Fn)(c:List Obj):aQ 7 ad (.aH d (cm a b) 0) c=aa (.agg (cm a b)):=rfl
@[simp] theorem wu(d a:Bool)(b:cO)(c:List Obj):aQ 7 ad (.aH d (bO a b) 0) c=aa (.agg (bO a b)):=rfl
@[simp] theorem o8(d a:Bool)(b:Lit)(c:List Obj):aQ 9 ad (.aH d (bg a b) 0) c=aa (.agg (bg a b)):=rfl
@[simp] theorem nF(d a:Bool)(b:aD)(c:List Obj):aQ 9 ad (.aH d (aS a b) 0) c=aa (.agg (aS a b)):=rfl
@[simp] theorem QJ(c d:Bool)(a:aD)(b:List Obj):aQ 4 ad (.aH c (aS d a) 3) b=aa (.agg (n9 a.aj)):=rfl
@[simp] theorem gy(e a b:Bool)(c:D)(d:List Obj):aQ 4 ad (.aH e (cP a b c) 0) d=aa (.agg (cP a b c)):=rfl
@[simp] theorem ku(d a:Bool)(b:S)(c:List Obj):aQ 3 ad (.aH d (cF a b) 0) c=aa (.agg (cF a b)):=rfl
@[simp] theorem atn(d a:Bool)(b:bc)(c:List Obj):aQ 4 ad (.aH d (cE a b) 0) c=aa (.agg (cE a b)):=rfl
theorem iT(h:Z bF=U)(a:bF.all AV.bU=ad):dO U (.agg bF)=aa bF:=by
 simp_all[dO]
theorem uc(h:Z bF=U)(a:bF.all AV.bU=ad):j2 U (.agg bF)=aa (.aH ab bF 0):=by
 simp[j2,iT h a]
@[simp] theorem xZ(a:aG):dO 3 (.agg (cV a))=aa (cV a):=iT rfl rfl
@[simp] theorem ya(a:aK):dO 4 (.agg (cT a))=aa (cT a):=iT rfl rfl
@[simp] theorem zB(a:Bool)(b:bQ):dO 4 (.agg (bp a b))=aa (bp a b):=iT rfl rfl
@[simp] theorem F6(a:Bool)(b:Fn):dO 7 (.agg (cm a b))=aa (cm a b):=iT rfl rfl
@[simp] theorem yb(a:Bool)(b:cO):dO 7 (.agg (bO a b))=aa (bO a b):=iT rfl rfl
@[simp] theorem yc(a:Bool)(b:Lit):dO 9 (.agg (bg a b))=aa (bg a b):=iT rfl rfl
@[simp] theorem yd(a:Bool)(b:aD):dO 9 (.agg (aS a b))=aa (aS a b):=iT rfl rfl
@[simp] theorem ac1(a:Bool)(b:S):dO 3 (.agg (cF a b))=aa (cF a b):=iT rfl rfl
@[simp] theorem Bn(a:aG):j2 3 (.agg (cV a))=aa (.aH ab (cV a) 0):=uc rfl rfl
@[simp] theorem zC(a:aK):j2 4 (.agg (cT a))=aa (.aH ab (cT a) 0):=uc rfl rfl
@[simp] theorem mQ(a:Bool)(b:bQ):j2 4 (.agg (bp a b))=aa (.aH ab (bp a b) 0):=uc rfl rfl
@[simp] theorem F7(a:Bool)(b:Fn):j2 7 (.agg (cm a b))=aa (.aH ab (cm a b) 0):=uc rfl rfl
@[simp] theorem F8(a:Bool)(b:cO):j2 7 (.agg (bO a b))=aa (.aH ab (bO a b) 0):=uc rfl rfl
@[simp] theorem rU(a:Bool)(b:Lit):j2 9 (.agg (bg a b))=aa (.aH ab (bg a b) 0):=uc rfl rfl
@[simp] theorem o9(a:Bool)(b:aD):j2 9 (.agg (aS a b))=aa (.aH ab (aS a b) 0):=uc rfl rfl
@[simp] theorem eE(a b:Bool)(c:D):j2 4 (.agg (cP a b c))=aa (.aH ab (cP a b c) 0):=uc rfl rfl
@[simp] theorem pX(a:Bool)(b:S):j2 3 (.agg (cF a b))=aa (.aH ab (cF a b) 0):=uc rfl rfl
@[simp] theorem lN(a:Int):(cI a)[0]?=aa (I a):=rfl
@[simp] theorem zD(a:Bool):(cB a)[0]?=aa (.bool a):=rfl
@[simp] theorem lO(a:d):(cS a)[0]?=aa (.str a):=rfl
@[simp] theorem F9(a:Int×Int):(b3 a)[0]?=aa (I a.1):=rfl
@[simp] theorem Ga(a:Int×Int):(b3 a)[1]?=aa (I a.2):=rfl
@[simp] theorem Dr(a:aG):(cV a)[0]?=aa (I a.ty):=rfl
@[simp] theorem Gb(a:aG):(cV a)[1]?=aa (I a.n):=rfl
@[simp] theorem Gc(a:aG):(cV a)[2]?=aa (.str a.s):=rfl
@[simp] theorem rV(a:aK):(cT a)[0]?=aa (.str a.aF):=rfl
@[simp] theorem Ds(a:aK):(cT a)[1]?=aa (I a.const.ty):=rfl
@[simp] theorem ato(a:aK):(cT a)[2]?=aa (I a.const.n):=rfl
@[simp] theorem atp(a:aK):(cT a)[3]?=aa (.str a.const.s):=rfl
@[simp] theorem QK(b:Bool)(a:bQ):(bp b a)[0]?=aa (.str a.au):=rfl
@[simp] theorem pa(a:Bool)(b:bQ):(bp a b)[1]?=aa (eS a cS b.az):=rfl
@[simp] theorem Gd(a:Bool)(b:bQ):(bp a b)[2]?=aa (eS a b3 b.eK):=rfl
@[simp] theorem ac2(b:Bool)(a:bQ):(bp b a)[3]?=aa (I a.bb):=rfl
@[simp] theorem QL(b:Bool)(a:Fn):(cm b a)[0]?=aa (.str a.au):=rfl
@[simp] theorem QM(b:Bool)(a:Fn):(cm b a)[1]?=aa (.str a.aN):=rfl
@[simp] theorem QN(b:Bool)(a:Fn):(cm b a)[2]?=aa (I a.of):=rfl
@[simp] theorem Dt(a:Bool)(b:Fn):(cm a b)[3]?=aa (eS a cS b.src):=rfl
@[simp] theorem Du(a:Bool)(b:Fn):(cm a b)[4]?=aa (eS a cS b.dst):=rfl
@[simp] theorem QO(a:Bool)(b:Fn):(cm a b)[5]?=aa (eS a cI b.gU):=rfl
@[simp] theorem QP(b:Bool)(a:Fn):(cm b a)[6]?=aa (I a.bb):=rfl
@[simp] theorem QQ(b:Bool)(a:cO):(bO b a)[0]?=aa (.str a.au):=rfl
@[simp] theorem wx(a:Bool)(b:cO):(bO a b)[1]?=aa (eS a cI b.a6):=rfl
@[simp] theorem QR(b:Bool)(a:cO):(bO b a)[2]?=aa (.str a.aN):=rfl
@[simp] theorem Dv(b:Bool)(a:cO):(bO b a)[3]?=aa (I a.of):=rfl
@[simp] theorem Ge(b:Bool)(a:cO):(bO b a)[4]?=aa (.bool a.ek):=rfl
@[simp] theorem QS(b:Bool)(a:cO):(bO b a)[5]?=aa (I a.fy):=rfl
@[simp] theorem QT(b:Bool)(a:cO):(bO b a)[6]?=aa (I a.bb):=rfl
@[simp] theorem ud(b:Bool)(a:Lit):(bg b a)[0]?=aa (I a.ax):=rfl
@[simp] theorem Kl(b:Bool)(a:Lit):(bg b a)[1]?=aa (.str a.au):=rfl
@[simp] theorem zE(b:Bool)(a:Lit):(bg b a)[2]?=aa (I a.ah):=rfl
@[simp] theorem s6(a:Bool)(b:Lit):(bg a b)[3]?=aa (eS a cT b.af):=rfl
@[simp] theorem Gg(b:Bool)(a:Lit):(bg b a)[4]?=aa (.str a.bind):=rfl
@[simp] theorem Km(b:Bool)(a:Lit):(bg b a)[5]?=aa (.str a.aj):=rfl
@[simp] theorem QU(b:Bool)(a:Lit):(bg b a)[6]?=aa (I a.iG):=rfl
@[simp] theorem Dw(b:Bool)(a:Lit):(bg b a)[7]?=aa (I a.op):=rfl
@[simp] theorem Gh(b:Bool)(a:Lit):(bg b a)[8]?=aa (I a.bb):=rfl
@[simp] theorem atq(a:pV):(n9 a)[0]?=aa (I a.ax):=rfl
@[simp] theorem atr(a:pV):(n9 a)[1]?=aa (.str a.au):=rfl
@[simp] theorem ats(a:pV):(n9 a)[2]?=aa (.str a.aF):=rfl
@[simp] theorem att(a:pV):(n9 a)[3]?=aa (I a.aR):=rfl
@[simp] theorem Kn(b:Bool)(a:aD):(aS b a)[0]?=aa (.str a.au):=rfl
@[simp] theorem Bo(b:Bool)(a:aD):(aS b a)[1]?=aa (I a.ah):=rfl
@[simp] theorem wy(a:Bool)(b:aD):(aS a b)[2]?=aa (eS a cT b.af):=rfl
@[simp] theorem Gi(b:Bool)(a:aD):(aS b a)[3]?=aa (I a.aj.ax):=rfl
@[simp] theorem QV(b:Bool)(a:aD):(aS b a)[4]?=aa (.str a.aj.au):=rfl
@[simp] theorem Gj(b:Bool)(a:aD):(aS b a)[5]?=aa (.str a.aj.aF):=rfl
@[simp] theorem atu(b:Bool)(a:aD):(aS b a)[6]?=aa (I a.aj.aR):=rfl
@[simp] theorem qN(a:Bool)(b:aD):(aS a b)[7]?=aa (eS a (bg a) b.ai):=rfl
@[simp] theorem Bp(b:Bool)(a:aD):(aS b a)[8]?=aa (I a.bb):=rfl
@[simp] theorem rW(a c:Bool)(b:D):(cP a c b)[0]?=aa (eS a (bp a) b.aw):=rfl
@[simp] theorem wz(a c:Bool)(b:D):(cP a c b)[1]?=aa (eS a (cm a) b.aO):=rfl
@[simp] theorem kv(a c:Bool)(b:D):(cP a c b)[2]?=aa (eS a (bO a) b.Q):=rfl
@[simp] theorem pb(a b:Bool)(c:D):(cP a b c)[3]?=aa (eS b (aS a) c.ak):=rfl
@[simp] theorem oc(b:Bool)(a:S):(cF b a)[0]?=aa (I a.ah):=rfl
@[simp] theorem s7(a:Bool)(b:S):(cF a b)[1]?=aa (eS a cV b.af):=rfl
@[simp] theorem s8(b:Bool)(a:S):(cF b a)[2]?=aa (I a.aj):=rfl
@[simp] theorem atv(a:Bool)(b:bc):(cE a b)[0]?=aa (eS a cS b.aA):=rfl
@[simp] theorem atw(a:Bool)(b:bc):(cE a b)[1]?=aa (eS a cV b.bH):=rfl
@[simp] theorem atx(a:Bool)(b:bc):(cE a b)[2]?=aa (eS a cS b.aw):=rfl
@[simp] theorem aty(a:Bool)(b:bc):(cE a b)[3]?=aa (eS a cI b.az):=rfl
variable{f:Int}
theorem wrap64(a: -9223372036854775808<=f)(b:f<9223372036854775808):IntKind.i64.wrap f=f:=by
 rw[IntKind.wrap_i64];omega
@[simp] theorem c6(bk:BK)(c:IntKind)(a b:Int):aT bk .eql (.int c a) (.int c b)=aa (.bool (a==b)):=by simp[aT,kp]
@[simp] theorem cv(bk:BK)(c:IntKind)(a b:Int):aT bk .neq (.int c a) (.int c b)=aa (.bool (a !=b)):=by simp[aT,kp]
@[simp] theorem A(bk:BK)(c:IntKind)(a b:Int):aT bk .lss (.int c a) (.int c b)=aa (.bool (y (a<b))):=by simp[aT,kp]
@[simp] theorem kL(bk:BK)(c:IntKind)(a b:Int):aT bk .leq (.int c a) (.int c b)=aa (.bool (y (a<=b))):=by simp[aT,kp]
@[simp] theorem eU(bk:BK)(c:IntKind)(a b:Int):aT bk .gtr (.int c a) (.int c b)=aa (.bool (y (b<a))):=by simp[aT,kp]
@[simp] theorem hz(bk:BK)(c:IntKind)(a b:Int):aT bk .geq (.int c a) (.int c b)=aa (.bool (y (b<=a))):=by simp[aT,kp]
variable{ca:Int}
theorem ye{bk:BK}(a: -9223372036854775808<=f+ca)(b:f+ca<9223372036854775808):aT bk .add (I f) (I ca)=aa (I (f+ca)):=by simp[aT,kp,wrap64 a b]
theorem nG{bk:BK}(a: -9223372036854775808<=f -ca)(b:f -ca<9223372036854775808):aT bk .sub (I f) (I ca)=aa (I (f -ca)):=by simp[aT,kp,wrap64 a b]
theorem QW{bk:BK}(a: -9223372036854775808<=f*ca)(b:f*ca<9223372036854775808):aT bk .mul (I f) (I ca)=aa (I (f*ca)):=by simp[aT,kp,wrap64 a b]
@[simp] theorem gW(bk:BK)(a b:List UInt8):aT bk .eql (.str a) (.str b)=aa (.bool (a==b)):=by simp[aT,v8]
@[simp] theorem jE(bk:BK)(a b:List UInt8):aT bk .neq (.str a) (.str b)=aa (.bool (!(a==b))):=by simp[aT,v8]
@[simp] theorem ac3(a c:Bool):aT .b .eql (.bool a) (.bool c)=aa (.bool (a==c)):=by simp[aT]
@[simp] theorem Bq(a c:Bool):aT .b .neq (.bool a) (.bool c)=aa (.bool (!(a==c))):=by simp[aT]
@[simp] theorem bI(a:Bool):nw .not (.bool a)=aa (.bool (!a)):=rfl
theorem aZ{bk:BK}(h:U<4611686018427387904:=by omega):aT bk .add (I U) (I 1)=aa (I ((U+1:Nat):Int)):=by
 grind[ye]
theorem QX(a w:aG):gb [0,0,1] (cV a) (cV w)=aa (y (a=w)):=by
 let⟨b,c,d⟩:=a;let⟨e,f,g⟩:=w;have:y ((⟨b,c,d⟩:aG)=⟨e,f,g⟩)=((b==e)&&((c==f)&&((d==g)&&ad))):=by
  rw[iA];simp
 rw[this];rfl
@[simp] theorem QY(b w:aG):aT (.a 3 [0,0,1]) .neq (.agg (cV b)) (.agg (cV w))=aa (.bool (!y (b=w))):=by
 simp[aT,QX]
@[simp] theorem ac4(b w:aG):aT (.a 3 [0,0,1]) .eql (.agg (cV b)) (.agg (cV w))=aa (.bool (y (b=w))):=by
 simp[aT,QX]
theorem Ko{C:fu}{args:List AV}{r:AV}(h:∃b a,C U args [] b a/\aM a .res b r):PR C U args r:=h
variable{kh:AV -> Prop}
theorem c{C:fu}{args:List AV}{r:AV}(h:PR C U args r)(d:kh r)(a:bT args:=by simp):cp C U args M kh:=
 ⟨.dm,args,r,by decide,by rw[a.pl];exact a.snap,h,(λb=>by cases b),d⟩
theorem eV{C:fu}{args:List AV}(r:AV)(h:PR C U bF r)(b:b7 M .cd (args.map AV.pl) bF)(a:NB r)(c:kh r):cp C U args M kh:=
 ⟨.cd,bF,r,by decide,b,h,λ_=>a,c⟩
variable{fq:List Obj}{iC:AV -> List Obj -> Prop}
theorem qO{C:fu}{args:List AV}(r:AV)(h:C U (args.map AV.pl) M r fq)(a:iC r fq):ch C U args M iC:=⟨r,fq,h,a⟩
variable{km:List AV -> List Obj -> (List AV -> List Obj -> Prop) -> Prop}
theorem bG(b:K->List AV)(c:K->List Obj)(g:K->Nat)(Inv:K->Prop)(f:K)(h:Inv f)
 (step:∀a,Inv a->∀R:List AV->List Obj->Prop,(∀e,Inv e->g e<g a->R (b e) (c e))->km (b a) (c a) R)(j:b f=bF:=by exact rfl)(i:c f=M:=by exact rfl):jB km bF M:=by
 intro R k;subst j;subst i;have key:∀d a,g a<=d->Inv a->R (b a) (c a):=by
  intro d;induction d with
  |zero=>grind
  |succ d l=>grind
 exact key _ f (c7 _) h
@[simp] theorem Dx(e:List Obj)(d:Md)(b:IntKind)(a c:Int):aM e d (.int b a) (.int b c)<->a=c:=⟨λh=>by cases h;rfl,λh=>h▸.int d b a⟩
@[simp] theorem qP(d:List Obj)(c:Md)(a b:Bool):aM d c (.bool a) (.bool b)<->a=b:=⟨λh=>by cases h;rfl,λh=>h▸.bool c a⟩
theorem Dy{a:List UInt8}(h:U<Z a):mc (.str a) (I U)=aa (.int .u8 (a[U].toNat:Int)):=by
 simp[mc,h]
@[simp] theorem Br(a c:IntKind)(b:Int):pU (.int a) (.int c b)=aa (.int a (a.wrap b)):=rfl
@[simp] theorem Kp(a:List UInt8):pU .bytes (.str a)=aa (.sl ab (a.map λb=>[.int .u8 b.toNat])):=rfl
theorem Kq(a:UInt8):IntKind.i64.wrap (a.toNat:Int)=(a.toNat:Int):=wrap64 (by omega) (by have:=a.toNat_lt;omega)
def Sm(a:List K):Prop:=Z a<1099511627776
def cU(a:UInt8):List AV:=[.int .u8 a.toNat]
@[simp] theorem ac5(a:UInt8):bT (cU a):=by simp[cU]
@[simp] theorem atz(a:Bool)(b:List UInt8):Im (eS a cU b):=nE ac5 a b
@[simp] theorem Gk(a:UInt8):Z (cU a)=1:=rfl
@[simp] theorem Gl(a:UInt8):(cU a)[0]?=aa (.int .u8 a.toNat):=rfl
theorem Kr(a:List UInt8):(AV.sl ab (a.map λb=>[.int .u8 b.toNat]))=eS ab cU a:=rfl
variable{rK:Option K}{rA:EV}{bA:Value}{t:WS}{m:Operand}
section
variable{P:Program}{G:Nat->Option (List AV)}{A:bS}
theorem h8{b:K->Prop}(h:bd rK b):∃a,rK=aa a/\b a:=by
 rcases rK with _|a;exact h.elim;exact⟨a,rfl,h⟩
theorem qQ{b:Option (K×b0)}{c:K->b0->Prop}(h:cq b c):∃a d,b=aa (a,d)/\c a d:=by
 rcases b with _|a;exact h.elim;exact⟨a.1,a.2,rfl,h⟩
@[simp] theorem ac6(a:AV):a.pl.pl=a.pl:=by cases a<;>rfl
theorem nH(b:Nat):∀a:List (Nat×EV),look b (fR a)=(look b a).map EV.val
 |[]=>rfl
 |(d,c)::a=>by
  simp only[fR,ej,look];split;rfl;exact nH b a
theorem QZ(c:Nat)(b:EV):∀a:List (Nat×EV),fR (put c b a)=put c b.val (fR a)
 |[]=>rfl
 |(e,f)::a=>by
  have d:=QZ c b a;grind[fR,put]
theorem Q0(b:List Nat):∀a:List (Nat×EV),fR (k1 b a)=k1 b (fR a)
 |[]=>rfl
 |(d,e)::a=>by
  have c:=Q0 b a;grind[fR,k1]
theorem Ks(b:Nat):∀a:List (Nat×EV),fR (lA b a)=lA b (fR a)
 |[]=>rfl
 |(d,e)::a=>by
  have c:=Ks b a;grind[fR,lA]
theorem EV.Q1(a:EV):a.val.pl=a.v.pl:=by
 cases a with
 |av b=>exact ac6 b
 |lp c off=>rfl
 |sk=>rfl
theorem EV.ac7(h:rA.v≠.undef):rA.val=rA.v.pl:=by
 cases rA with
 |av b=>rfl
 |lp a off=>exact absurd rfl h
 |sk=>rfl
theorem EV.Q2(h:∀a off,rA≠.lp a off):rA.val=rA.v.pl:=by
 cases rA with
 |av b=>rfl
 |lp a off=>grind
 |sk=>rfl
theorem ac8{a:AV}(h:ofValue bA=aa a):a.pl=a:=by
 unfold ofValue at h;split at h<;>simp at h<;>subst h<;>rfl
theorem ac9(b:Value):((rM b).getD .undef).pl=(rM b).getD .undef:=by
 rcases h:rM b with _|a;rfl;simp only[nr];unfold rM at h;split at h;simp only[dq]at h;obtain⟨_,_,rfl⟩:=h;rfl;exact ac8 h
theorem Gm(a:WS)(b:Operand):l G a.as b=(qI G a b).val:=by
 cases b with
 |tmp d=>
  simp only[l,qI,WS.as,nH];cases look d a.env<;>rfl
 |const e=>exact(ac9 e).symm
 |global c=>
  simp only[l,qI,gv,EV.val];cases G c<;>rfl
 |func f=>rfl
theorem qR(a:WS)(b:Operand):(l G a.as b).pl=(bX G a b).pl:=by
 rw[Gm,EV.Q1]<;>rfl
theorem jF(h:bX G t m≠.undef):l G t.as m=(bX G t m).pl:=by
 rw[Gm];exact EV.ac7 h
theorem kM{a:AV}(h:bX G t m=a)(b:a≠.undef):l G t.as m=a.pl:=by
 grind[jF]
theorem Bs:∀{a:List (Nat×EV)},u5 U a=ad->jf U (fR a)=ad
 |[],_=>rfl
 |(b,.lp c off)::a,h=>by
  simp only[u5,ba,bne_iff_ne,ne_eq]at h;show((!(c==U))&&jf U (fR a))=ad;simp[h.1,Bs h.2]
 |(b,.av d)::a,h=>by
  show((!(d.pl.gI U))&&jf U (fR a))=ad;rw[sY,Bs (a:=a) h]<;>rfl
 |(b,.sk)::a,h=>Bs (a:=a) h
theorem Ku(b:List AV):∀n a,a+n<=Z b->ua b n a=(b.drop a).take n
 |0,a,_=>by simp[ua]
 |n+1,a,h=>by
  have c:a<Z b:=by omega
  simp only[ua];rw[Ku b n (a+1) (by omega),oI c,OM];grind[g,List.getD]
theorem Kv{a:List AV}(h:Z a=U):ua a U 0=a:=by
 grind[Ku]
theorem Q3{a:AV}{b:List AV}(h:dO U a=aa b):b=a.pl.cells/\Z a.pl.cells=U/\a.pl.cells.all AV.bU=true:=by
 grind[dO]
theorem ada{a:AV}(h:a.bU=ad):a.cells=[a]:=by cases a<;>simp[AV.bU]at h<;>rfl
theorem adb{a b:AV}(h:nB a=aa b):b=a.pl/\a.pl.cells=[b]/\a.pl.cells.all AV.bU=true:=by
 unfold nB at h;grind[ada]
theorem Kw(place:Nat->Option (Nat×Nat)):∀(g:List (Nat×AV))(f:List (Nat×Nat×AV))(i d:List AV)(c:List (Nat×AV)),(c.map λe=>(e.1,e.2.pl))=(g.map λe=>(e.1,e.2.pl))->Bi place g=aa f->mb i f=aa d->xK place i c=aa d
 |[],f,i,d,c,a,b,h=>by
  simp at a;subst a;simp[Bi]at b;subst b;exact h
 |(p,u)::g,f,i,d,c,a,b,h=>by
  rcases c with _|⟨o,c⟩;simp at a;let⟨q,t⟩:=o;simp only[ej,CF,eG]at a;let⟨⟨rfl,m⟩,a⟩:=a;simp only[Bi]at b;split at b;rename_i r s n l k;simp at b;subst b;simp only[mb]at h;split at h;rename_i j;simp only[xK,l,m];rw[if_pos j];exact Kw place g n _ d c a k h;simp at h;grind
theorem Q4(f:Nat):∀(e a:List (Nat×AV))(d:List (List AV)),(a.map λc=>(c.1,c.2.pl))=(e.map λc=>(c.1,c.2.pl))->lI f d a=lI f d e
 |[],a,d,b=>by simp_all
 |(i,l)::e,a,d,b=>by
  rcases a with _|⟨h,a⟩;simp at b;let⟨j,k⟩:=h;simp only[ej,CF,eG]at b;let⟨⟨rfl,g⟩,b⟩:=b;simp only[lI,g];split;exact Q4 f e a _ b;rfl
theorem Gn(h:xX P u=ad):(ft P u=ab->bj P u=1)/\(P.underlying u).isSome=true:=by
 grind[xX]
variable{ko:KD}{kk:TypeId}
theorem ade{a:AV}{r:List AV×Nat}(h:wo L.hp a=aa r):pJ L a.pl=aa r/\a≠.undef:=by
 cases a<;>first|grind[wo]|exact⟨h,by simp⟩
theorem Q5{a w:AV}(b:xX P u=ad)(h:aQ (bj P u) (ft P u) a L.hp=aa w):oZ P L u a.pl=aa w/\a≠.undef:=by
 grind[aQ,ade,Gn,oZ]
theorem Kx{a w:AV}(h:dK U a L.hp=aa w):mM L U a.pl=aa w/\a≠.undef/\w.pl=w:=by
 unfold dK at h;split at h;simp at h;subst h;exact⟨rfl,by simp,rfl⟩;split at h;rename_i c;split at h;rename_i b;simp at h;subst h;refine⟨?_,by simp,rfl⟩;simp[mM,AV.pl,c,b];simp at h;simp at h;simp at h
theorem adf{op:BinOp}{k l w:AV}(h:aT (Bj P u) op k l=aa w):tS P op u k.pl l.pl=aa w/\k≠.undef/\l≠.undef/\w.pl=w:=by
 have z:∀(op:BinOp)(n:IntKind)(e c:Int)(w:AV),kp op n e c=aa w->w.pl=w:=by
  intro op n e c w h;unfold kp at h;split at h<;>first|(simp at h;subst h;rfl)|(split at h<;>simp at h;subst h;rfl)|simp at h
 have o:∀(op:BinOp)(e c:List UInt8)(w:AV),v8 op e c=aa w->w.pl=w:=by
  intro op e c w h;unfold v8 at h;split at h<;>first|(simp at h;subst h;rfl)|simp at h
 unfold aT at h;split at h;refine⟨h,by simp,by simp,?_⟩;split at h;split at h<;>simp at h;subst h;rfl
 split at h<;>simp at h;subst h;rfl
 grind;exact⟨h,by simp,by simp,o _ _ _ _ h⟩;rename_i e c;have j:Bj P u=.b->P.underlying u=aa .bool:=by
  unfold Bj;split;rename_i d;exactλ_=>d;intro f;cases f;intro f;split at f;split at f<;>simp at f
  simp at f
 split at h;rename_i a;simp at h;subst h;exact⟨by simp[tS,AV.pl,j a],by simp,by simp,rfl⟩;rename_i a;simp at h;subst h;exact⟨by simp[tS,AV.pl,j a],by simp,by simp,rfl⟩;simp at h;rename_i t bs;split at h;rename_i s r a;have j:P.eqGuardType P.depth u=ab/\ft P u=ad/\nu P 100 u=aa r/\s=bj P u:=by
  unfold Bj at a;split at a;simp at a;simp at a;split at a;rename_i m;split at a;rename_i B p;simp at a;let⟨rfl,rfl⟩:=a;exact⟨m.1,m.2,p,rfl⟩;simp at a;simp at a
 let⟨v,x,y,rfl⟩:=j;split at h;rename_i A;refine⟨?_,by simp,by simp,?_⟩;simp only[tS,AV.pl];grind;split at h<;>simp at h<;>subst h<;>rfl
 simp at h;simp at h;split at h;rename_i c a g;simp at h;subst h;have d:∃i,P.underlying u=aa (.slice i):=by
  unfold Bj at a;split at a;cases a
  rename_i i d;exact⟨i,d⟩;split at a;split at a<;>cases a
  cases a
 let⟨i,d⟩:=d;have q:k≠.undef:=by rintro rfl;cases g
 unfold AV.CM at g;refine⟨?_,q,by simp,rfl⟩;split at g<;>simp at g<;>subst g<;>simp[tS,AV.pl,d,AV.CM]
 simp at h;simp at h
theorem adg{b w:AV}(h:pU (Dh P u cu) b=aa w):xJ P u cu b.pl=aa w/\b≠.undef/\w.pl=w:=by
 unfold pU at h;split at h;rename_i f a;simp at h;subst h;refine⟨?_,by simp,rfl⟩;unfold Dh at a;split at a;simp_all[xJ,AV.pl];simp at a;grind;grind;rename_i a;simp at h;subst h;refine⟨?_,by simp,rfl⟩;unfold Dh at a;split at a;simp at a;simp_all[xJ,AV.pl];grind;grind;rename_i a;simp at h;subst h;refine⟨?_,by simp,rfl⟩;unfold Dh at a;split at a;simp at a;simp at a;rename_i c d e;split at a
 simp_all[xJ,AV.pl];grind;grind;simp at h
theorem Dz(h:qJ P u=aa ko):nY P u=aa ko.ks/\(∀a b,ko.eq a b=sS P u ko.ks a b)/\∀e c d,ko.find e c d=findKey P u ko.ks e c d:=by
 unfold qJ at h;simp only[dq]at h;obtain⟨ks,g,rfl⟩:=h;have f:∀a b,KD.eq {ag:=ft P u,n:=bj P u,ks:=ks} a b=sS P u ks a b:=by
  intro a b;cases a<;>cases b<;>rfl
 refine⟨g,f,?_⟩;intro e c;induction c with
 |nil=>intro d;rfl
 |cons j c i=>
  grind[KD.find,findKey]
theorem adh{a:AV}{r}(h:mf L.hp a=aa r):wa L a.pl=aa r/\a≠.undef:=by
 cases a<;>first|grind[mf]|exact⟨h,by simp⟩
theorem Gp{a:AV}(h:(ko.eq a a).isSome=ad):a.pl=a/\a≠.undef:=by
 cases a<;>simp[KD.eq]at h<;>exact⟨rfl,by simp⟩
theorem adi{a:AV}{r}(h:wa L a=aa r):zh L.hp a=none:=by
 cases a<;>simp[wa,zh]at h⊢
 split at h<;>simp_all
theorem adj(h:qJ P u=aa ko):ko.ag=ft P u:=by
 unfold qJ at h;grind[Option.map_eq_some_iff]
theorem adk{d:AV}{ok:Bool}{b a w:AV}(k:P.underlying u=aa (.map cu kk))(c:qJ P cu=aa ko)(l:sR P kk=aa d)(h:J9 ko d ok b a L.hp=aa w):
 uU P L u b.pl a.pl ok=aa w/\b≠.undef/\a≠.undef:=by
 let⟨e,_,_⟩:=Dz c;have f:=adj c;unfold J9 at h;split at h;rename_i p j i g;have m:xL P u=true:=by
  unfold xL;rw[k];simp only[e,i,<-f,g,l]
 have o:b.pl=b/\b≠.undef:=by cases b<;>simp[zh]at j<;>exact⟨rfl,by simp⟩
 have n:a.pl=a/\a≠.undef:=by cases a<;>simp[CP]at h<;>exact⟨rfl,by simp⟩
 grind[uU];cases h
theorem adl{c:AV}{ok:Bool}{b a w:AV}(i:P.underlying u=aa (.map cu kk))(d:qJ P cu=aa ko)(j:sR P kk=aa c)(h:iM ko c ok b a L.hp=aa w):
 uU P L u b.pl a.pl ok=aa w/\b≠.undef/\a≠.undef:=by
 let⟨e,f,g⟩:=Dz d;grind[iM,adh,adi,Gp,nZ,uU,adk]
theorem Q6(c b:Nat)(a:Option Operand){r:Nat}(h:eT c b (a.map (bX G t))=aa r):eT c b (a.map (l G t.as))=aa r:=by
 rcases a with _|x;exact h;simp only[kf]at h⊢;generalize e:bX G t x=d at h;cases d<;>simp[eT]at h
 simp_all[kM,eT,AV.pl]
theorem DA{b:List AV}(h:qK P u=aa (U,b,N)):∃a,P.underlying u=aa (.slice a)/\qw P a=aa b/\Z b=bj P a/\0<bj P a/\U=bj P a/\N=uT P a:=by
 grind[qK]
theorem adm{a:AV}{b:List (List AV)}(h:h6 L.hp U a=aa b):o0 L U a.pl=aa b/\a≠.undef:=by
 cases a<;>first|grind[h6]|exact⟨h,by simp⟩
variable{fZ:Option Tmp}{dV:Call}{rz:EV -> WS -> Prop}
def zG(P:Program)(G:Nat->Option (List AV))(A:bS)(b:WS)(e:Option Tmp)(op:Op)(d:EV->WS->Prop):Prop:=
 ∃c a,aW P G A b.as e op=aa (EV.val c,WS.as a)/\a.env=b.env/\d c a
theorem adn{e:LK}{c w:AV}(a:Kd P u=aa e)(h:gu e c L.hp=aa w):l8 P L u c.pl=aa w/\w.pl=w:=by
 unfold Kd at a;split at a;rename_i b;injection a with a;subst a;cases c<;>first|grind[gu]|(injection h with h;subst h;exact⟨by simp[l8,AV.pl,b],rfl⟩)
 rename_i d b;injection a with a;subst a;cases c<;>first|grind[gu]|(injection h with h;subst h;exact⟨by simp[l8,AV.pl,b],rfl⟩)
 rename_i j d b;injection a with a;subst a;injection h with h;subst h;exact⟨by simp[l8,b],rfl⟩
 ·rename_i g d b
  injection a with a;subst a;cases c<;>try(simp[gu]at h;done)
  rename_i i vs;injection h with h;subst h;exact⟨by simp[l8,AV.pl,b],rfl⟩;simp only[gu]at h;split at h;rename_i f;injection h with h;subst h;exact⟨by simp[l8,AV.pl,b,f],rfl⟩;simp at h
 grind
theorem Ky{p:List AV}{a d w:AV}(j:qK P u=aa (U,p,N))(f:0<N)(h:cJ U N a d L.hp=aa (w,M)):
 o1 P L u a.pl d.pl=aa (w,{L with hp:=M})/\a≠.undef/\d≠.undef/\w.pl=w:=by
 obtain⟨q,k,m,n,hp,rfl,rfl⟩:=DA j;unfold cJ at h;split at h;rename_i s l;let⟨o,e⟩:=adm l;split at h;rename_i c;split at h;rename_i b;simp at h;let⟨rfl,rfl⟩:=h;have g:a≠.undef:=by rintro rfl;cases c
 have r:a.pl.isNil=true:=by cases a<;>first|exact c|cases c
 refine⟨?_,g,e,rfl⟩;grind[o1];simp at h;split at h;split at h;rename_i i;split at h;rename_i b;simp at h;let⟨rfl,rfl⟩:=h;refine⟨?_,by simp,e,rfl⟩;simp only[o1,k,m,o];rw[if_pos ⟨n,hp,f⟩];simp only[AV.pl,AV.isNil,e6,if_false,i];rw[if_pos b,b.2.2.1];simp at h;simp at h;simp at h;simp at h
theorem Gq{args:List Operand}{a:AV}(h:args.map (bX G t)=[a]):∃b,args=[b]/\bX G t b=a:=by
 simp_all
theorem Gs{args:List Operand}{a b:AV}(h:args.map (bX G t)=[a,b]):∃c d,args=[c,d]/\bX G t c=a/\bX G t d=b:=by
 rcases args with _|⟨e,f⟩;simp at h;grind[Gq]
theorem ado{b a:AV}(l:P.underlying u=aa (.map cu kk))(j:qJ P cu=aa ko)(h:Bg ko b a L.hp=aa M):
 AW P L u b.pl a.pl=aa {L with hp:=M}/\b≠.undef/\a≠.undef:=by
 let⟨f,g,i⟩:=Dz j;unfold Bg at h;split at h;split at h;rename_i k;split at h;rename_i d;let⟨o,m⟩:=Gp d;have k3:a≠.undef:=λe=>m (by rw[e]<;>rfl);refine⟨?_,by simp,k3⟩;have c:nZ P cu ko.ks a.pl=true:=by rw[nZ,<-g];exact d
 simp only[AW,l,AV.pl,k,f]at c⊢;simp only[c,if_true];rw[i]at h;simp only[AV.pl]at h;split at h;grind;rename_i n;simp at h;subst h;simp_all;simp at h;simp at h;simp at h;simp at h
theorem adp{d:List AV}{a b w:AV}(i:qK P u=aa (U,d,N))(e:0<N)(c:P.underlying cu=aa (.int .i64))(h:Df U N d a b L.hp=aa (w,M)):tU P L u cu a.pl b.pl=aa (w,{L with hp:=M})/\a≠.undef/\b≠.undef/\w.pl=w/\qx P cu=false:=by
 obtain⟨m,j,k,l,g,rfl,rfl⟩:=DA i;unfold Df at h;split at h;rename_i n;split at h;rename_i f;simp only[e7,eG]at h;let⟨rfl,rfl⟩:=h;refine⟨?_,by simp,by simp,rfl,by simp[qx,c]⟩;simp only[AV.pl,tU,j,c,k];rw[if_pos ⟨l,g,e,f⟩];cases h
 cases h
theorem adq{b:List AV}{a:AV}(e:qK P u=aa (U,b,N))(h:Dg U b a L.hp=aa M):AX P L u a.pl=aa {L with hp:=M}/\a≠.undef:=by
 obtain⟨i,f,g,k,j,rfl,rfl⟩:=DA e;unfold Dg at h;split at h;split at h;rename_i d;split at h;rename_i c;obtain⟨rfl,rfl⟩:=c;simp only[e7]at h;subst h;refine⟨?_,by simp⟩;simp only[AV.pl,AX,f,g,d];rw[if_pos (by simp_all)];cases h
 cases h
 cases h
theorem adr{o:Builtin}(H:dV.callee=.builtin o)(h:Kf P t o dV.argTypes.toList (dV.args.toList.map (bX G t)) rz):zG P G A t fZ (.call dV) rz:=by
 have f:aW P G A t.as fZ (.call dV)=kq P t.as o dV.argTypes.toList (dV.args.toList.map (l G t.as)):=by
  simp only[aW,H]
 unfold Kf at h;generalize T:dV.argTypes.toList=af at h f;generalize S:dV.args.toList=args at h f;unfold zG;split at h;rename_i i r c;obtain⟨j,rfl,rfl⟩:=Gq c;split at h;rename_i Y J;let⟨w,a,b⟩:=h8 h;let⟨d,e⟩:=adn (L:=t.as) J a;refine⟨.av w,t,?_,rfl,b⟩;have U:l8 P t.as i (l G t.as j)=aa w:=by
  by_cases u:bX G t j=.undef;rw[u]at d;have:∀y:AV,l8 P t.as i .undef=aa w->l8 P t.as i y=aa w:=by
   intro y L;unfold l8 at L⊢;grind
  exact this _ d;grind[jF]
 grind[kq,EV.val];grind;rename_i i M O r c;obtain⟨B,j,rfl,rfl,rfl⟩:=Gs c;split at h;rename_i F;split at h;rename_i x z s m;split at h;rename_i q;let⟨w,g,a,b⟩:=qQ h;let⟨d,e,k,p⟩:=Ky (L:=t.as) m q a;refine⟨.av w,{t with hp:=g},?_,rfl,b⟩;rw[f];simp only[ej,ns,kq,F,if_true,jF e,jF k,d,EV.val,p];rfl;grind;grind;split at h;rename_i x z s m K;split at h;rename_i q;let⟨w,g,a,b⟩:=qQ h
 let⟨d,e,k,p,C⟩:=adp (L:=t.as) m q K a;refine⟨.av w,{t with hp:=g},?_,rfl,b⟩;rw[f];simp only[ej,ns,kq,C,e6,if_false,jF e,jF k,d,EV.val,p];rfl;grind;grind;rename_i i r c;obtain⟨j,rfl,rfl⟩:=Gq c;split at h;rename_i Q v;let⟨w,a,b⟩:=h8 h;unfold FV at a;split at a;rename_i u;injection a with a;subst a;refine⟨.av (.int .i64 0),t,?_,rfl,b⟩;simp_all[ej,ns,kM,AV.pl,kq,EV.val];cases a
 grind;rename_i i r c;obtain⟨j,rfl,rfl⟩:=Gq c;split at h;rename_i x z s m;let⟨g,a,b⟩:=h8 h;let⟨d,e⟩:=adq (L:=t.as) m a;refine⟨.av (.aB []),{t with hp:=g},?_,rfl,b⟩;rw[f];simp only[ej,ns,kq,jF e,d,EV.val];rfl;grind;rename_i i M ac W c;obtain⟨Z,V,rfl,rfl,rfl⟩:=Gs c;split at h;rename_i X R v;split at h;rename_i B I;let⟨g,a,b⟩:=h8 h;let⟨d,e,k⟩:=ado (L:=t.as) v I a
 refine⟨.av (.aB []),{t with hp:=g},?_,rfl,b⟩;rw[f];simp only[ej,ns,kq,jF e,jF k,d,EV.val];rfl;grind;grind;let⟨w,a,b⟩:=h8 h;refine⟨.av w,t,?_,rfl,b⟩;rw[f];unfold tW at a;split at a;rename_i c;obtain⟨j,N,rfl,D,E⟩:=Gs c;simp at a;subst a;simp_all[kq,kM,AV.pl,tW,EV.val];grind;let⟨w,a,b⟩:=h8 h;refine⟨.av w,t,?_,rfl,b⟩;rw[f];unfold sT at a;split at a;rename_i c;obtain⟨j,N,rfl,D,E⟩:=Gs c
 simp at a;subst a;simp_all[kq,kM,AV.pl,sT,EV.val];grind;grind
variable{z:Nat}
theorem ads{a b:AV}(hp:(P.info? u).isSome=ad)(h:du (bj P u) a b L.hp=aa M)(c:AV)(d:c.pl=b.pl):vZ P L u a.pl c=aa {L with hp:=M}/\a≠.undef:=by
 unfold du at h;grind[vZ,AV.pl]
theorem adt{f:List (Nat×AV)}{i:List AV}{e:List (Nat×Nat×AV)}{d:List AV}{g:List (Nat×AV)}(q:(g.map λa=>(a.1,a.2.pl))=(f.map λa=>(a.1,a.2.pl)))(h:Kb P u f=aa (i,e))(p:mb i e=aa d):zf P u g=aa (.agg d):=by
 unfold Kb at h;split at h;rename_i o m b c;split at h;rename_i j;simp only[dq,eG]at h;obtain⟨l,k,rfl,rfl⟩:=h;simp only[zf,b,c];grind[Kw];simp at h;rename_i r n m b c;split at h;rename_i j;simp only[dq,eG]at h;obtain⟨l,k,rfl,rfl⟩:=h;simp only[zf,b,c];grind[Kw];simp at h;simp at h
theorem Gt(b:WS)(c:List (Nat×Operand)):((c.map λa=>(a.1,l G b.as a.2)).map λa=>(a.1,a.2.pl))=((c.map λa=>(a.1,bX G b a.2)).map λa=>(a.1,a.2.pl)):=by
 grind[List.map_map,List.map_congr_left,qR]
theorem Q7(d:Nat):∀(c:List (Nat×AV))(a b:List (List AV)),lI d a c=aa b->Z b=Z a
 |[],a,b,h=>by grind[lI]
 |(e,f)::c,a,b,h=>by
  simp only[lI]at h;split at h;have:=Q7 d c _ _ h;grind;simp at h
theorem Kz{own:Bool}{f:List AV}{d e:List (Nat×AV)}{a:List (List AV)}(g:qK P u=aa (U,f,z))(m:N*U<=2^24)(n:(e.map λc=>(c.1,c.2.pl))=(d.map λc=>(c.1,c.2.pl)))(h:lI U (dh N f) d=aa a):
 tT P own L u N e=if(N==0)=ad then aa (.dL,L)else if own=ad then aa (.q (Z L.hp) 0 0 N,{L with hp:=L.hp++[.arr 0 U a]})else aa (.sl ab a,L):=by
 obtain⟨k,i,o,p,hp,rfl,rfl⟩:=DA g;have b:=Q7 _ _ _ _ h;simp at b;have l:a.isEmpty=(N==0):=by
  rcases a with _|⟨j,r⟩;simp at b;subst b;rfl;simp at b;subst b;simp
 simp only[tT,i];grind[Q4]
theorem Q8{c:List AV}{b a w:AV}(d:qK P u=aa (U,c,N))(h:u4 U c N b a L.hp=aa (w,M)):zg P L u b.pl a.pl=aa (w,{L with hp:=M})/\b≠.undef/\a≠.undef/\w.pl=w:=by
 obtain⟨g,e,f,j,hp,rfl,rfl⟩:=DA d;unfold u4 at h;split at h;split at h;rename_i i;simp at h;let⟨rfl,rfl⟩:=h;refine⟨?_,by simp,by simp,rfl⟩;simp only[zg,e,AV.pl,f];grind;simp at h;simp at h
theorem Q9{d a e:AV}(o:P.underlying u=aa (.map cu kk))(m:qJ P cu=aa ko)(h:jP ko d a e L.hp=aa M)(b:AV)(c:b.pl=e.pl):
 xM P L u d.pl a.pl b=aa {L with hp:=M}/\d≠.undef/\a≠.undef:=by
 let⟨j,k,l⟩:=Dz m;unfold jP at h;split at h;split at h;rename_i n;split at h;rename_i g;let⟨s,r⟩:=Gp g;have k3:a≠.undef:=λi=>r (by rw[i]<;>rfl);refine⟨?_,by simp,k3⟩;have f:nZ P cu ko.ks a.pl=true:=by rw[nZ,<-k];exact g
 rw[l]at h;generalize a.pl=q at h f;generalize e.pl=t at h c;generalize p:b.pl=v at c;subst c;show xM P L u (.b8 _) q b=_;simp only[xM,o,n,j,f,if_true,p];grind;simp at h;simp at h;simp at h
theorem adu{e b a w:AV}(m:P.underlying u=aa (.map cu kk))(k:qJ P cu=aa ko)(q:sR P kk=aa e)(h:Be ko e b a L.hp=aa (w,M)):
 zi P L u b.pl a.pl=aa (w,{L with hp:=M})/\b≠.undef/\a≠.undef/\w.pl=w:=by
 let⟨g,i,j⟩:=Dz k;unfold Be at h;split at h;split at h;rename_i l;split at h;rename_i d;let⟨s,n⟩:=Gp d;have k3:a≠.undef:=λf=>n (by rw[f]<;>rfl);have c:nZ P cu ko.ks a.pl=true:=by rw[nZ,<-i];exact d
 rw[j]at h;generalize a.pl=r at h c;simp only[zi,m,AV.pl,l,g,c,if_true];split at h;rename_i o;split at h;rename_i p;simp at h;obtain⟨rfl,rfl⟩:=h;simp_all;simp at h;grind;simp at h;simp at h;simp at h;simp at h
theorem adv{b c d:AV}(h:Bf b c d L.hp=aa M)(e:AV)(a:e.pl=d.pl):AU L b.pl c.pl e=aa {L with hp:=M}/\b≠.undef/\c≠.undef:=by
 unfold Bf at h;generalize d.pl=g at h a;generalize f:e.pl=i at a;subst a;split at h;grind[AU,AV.pl];simp at h
theorem adw{s:SK}{g f:Option Operand}{w:AV}(a:Kc P u=aa s)(h:fA s (bX G t m) (g.map (bX G t)) (f.map (bX G t)) t.hp=aa w):
 aW P G A t.as fZ (.slice u m g f ae)=aa (w.pl,t.as):=by
 generalize c:bX G t m=o at h;have F:∀b e r,eT b e (g.map (bX G t))=aa r->eT b e (g.map (l G t.as))=aa r:=by grind[Q6]
 have E:∀b e r,eT b e (f.map (bX G t))=aa r->eT b e (f.map (l G t.as))=aa r:=by grind[Q6]
 unfold fA at h;unfold Kc at a;split at a;rename_i n;injection a with a;subst a;cases o<;>simp only[reduceCtorEq]at h
 have d:=kM c (by simp);split at h;rename_i i;split at h;rename_i j;simp at h;subst h;simp_all[aW,AV.pl,nt,CH];simp at h;simp at h;rename_i z n;split at a;rename_i q;injection a with a;subst a;cases o<;>simp only[reduceCtorEq]at h
 have d:=kM c (by simp);split at h;rename_i i j;simp at h;subst h;have B:eT 0 0 ae=aa 0:=rfl;simp_all[aW,AV.pl,nt,CH];simp at h;have d:=kM c (by simp);split at h;rename_i i j;simp at h;subst h;have B:eT 0 0 ae=aa 0:=rfl;simp_all[aW,AV.pl,nt,CH];simp at h;have d:=kM c (by simp);split at h;rename_i i;split at h;rename_i j;split at h;rename_i k;simp at h;subst h;simp_all[aW,AV.pl,nt,CH];simp at h
 simp at h;simp at h;have d:=kM c (by simp);split at h;rename_i i;split at h;rename_i j D;have H:t.as.hp[_]?=aa _:=D;split at h;rename_i k;simp at h;subst h;simp_all[aW,AV.pl,nt,CH];simp at h;simp at h;simp at h;grind
 ·rename_i b z n
  split at a
  ·rename_i q
   injection a with a;subst a;cases o<;>try(simp at h;done)
   rename_i v p off;cases off<;>try(simp at h;done)
   have d:=kM c (by simp);replace h:(if((Option.map (bX G t) g).isNone&&(Option.map (bX G t) f).isNone&&y (Z p=b))=ad then aa (AV.sl v (Ra (λx=>[x]) p))else ae)=aa w:=h;split at h;rename_i k;injection h with h;subst h;simp only[ba,I5,Option.map_eq_none_iff,decide_eq_true_eq]at k;obtain⟨⟨rfl,rfl⟩,C⟩:=k;simp[aW,n,d,AV.pl,q,C];simp at h
  grind
 grind
variable{dT:Operand}
theorem ky{op:Op}{w:AV}(h:aW P G A t.as fZ op=aa (w.pl,t.as))(a:rz (.av w) t):zG P G A t fZ op rz:=
 ⟨.av w,t,h,rfl,a⟩
theorem rX{op:Op}{w:AV}(h:aW P G A t.as fZ op=aa (w.pl,{t.as with hp:=M}))(a:rz (.av w) {t with hp:=M}):zG P G A t fZ op rz:=
 ⟨.av w,{t with hp:=M},h,rfl,a⟩
theorem Bt{a:AV}(h:a.pl≠.undef):a≠.undef:=λb=>h (by rw[b]<;>rfl)
theorem Gu{a:List AV}(h:dO U (bX G t m)=aa a):Z ((l G t.as m).pl.cells)=U/\((l G t.as m).pl.cells).all AV.bU=ad/\(l G t.as m).pl.cells=a:=by
 grind[Q3,qR]
theorem Rb{a:AV}(h:nB (bX G t m)=aa a):((l G t.as m).pl.cells)=[a]/\a.bU=true:=by
 grind[adb,qR]
theorem Rc{b:AV}{a:List AV}(h:dO U b=aa a):Z a=U:=by
 let⟨c,d,e⟩:=Q3 h;grind
theorem Bu{off:Nat}(h:qI G t m=.lp U off):l G t.as m=.lp U off:=by
 rw[Gm,h]<;>rfl
theorem Gv{op:Op}{a:List (Nat×List AV)}(h:aW P G A t.as fZ op=aa (rA.val,{t.as with bx:=a}))(b:rz rA {t with bx:=a}):zG P G A t fZ op rz:=
 ⟨rA,{t with bx:=a},h,rfl,b⟩
theorem DB{a:AV}(h:qI G t m=.av a):l G t.as m=a.pl:=by
 rw[Gm,h]<;>rfl
theorem KA(h:u5 U t.env=ad):oY U t.as.env=t.as.env:=
 qF (Bs h)
theorem adx{a w:AV}(j:qI G t m=.av a)(h:iL a t.hp=aa w):aW P G A t.as fZ (.nilCheck m)=aa (w.pl,t.as):=by
 have e:=DB j;unfold iL at h;split at h;simp at h;subst h;simp[aW,e,AV.pl];rename_i l;let⟨g,k,i⟩:=Kx (L:=t.as) h;have n:∀d b c,a.pl≠.fn d b c:=by
  intro d b c f;cases a<;>simp[AV.pl]at f
  exact(by grind)
 simp only[aW,e];rw[g,i]<;>rfl
theorem ady{w:AV}(h:fK U (bX G t m)=aa w):aW P G A t.as fZ (.extract m U)=aa (w.pl,t.as):=by
 unfold fK at h;split at h;simp_all[kM,aW,AV.pl];simp at h
theorem adz{ok:Bool}{a w:AV}(f:P.underlying u=aa (.map cu kk))(e:qJ P cu=aa ko)(g:sR P kk=aa a)(h:iM ko a ok (bX G t m) (bX G t dT) t.hp=aa w):
 aW P G A t.as fZ (.lookup u m dT ok)=aa (w.pl,t.as):=by
 let⟨b,c,d⟩:=adl (L:=t.as) f e g h;simp only[aW,jF c,jF d,b];rfl
theorem adA{w:AV}(p:P.underlying u=aa (.slice cu))(o:0<bj P cu)(h:bP (bj P cu) (bX G t m) (bX G t dT) t.hp=aa w):
 rN P t.as u (l G t.as m) (l G t.as dT)=aa w/\w.pl=w:=by
 unfold bP at h;split at h;rename_i q r c;have k:l G t.as dT=.int q r:=by
  rw[jF (Bt (by rw[c];simp)),c]
 split at h;rename_i v b a;have f:=kM a (by simp);split at h;rename_i e;split at h;rename_i x j;split at h;rename_i d;simp at h;subst h;refine⟨?_,rfl⟩;simp[rN,p,k,f,AV.pl,e,j,d,o];simp at h;simp at h;simp at h;rename_i id g off len a;have f:=kM a (by simp);split at h;rename_i e;split at h;rename_i i s b n;split at h;rename_i d;simp at h;subst h;refine⟨?_,rfl⟩
 have y:t.as.hp[id]?=aa (.arr i s b):=n;simp_all[rN,AV.pl];simp at h;simp at h;simp at h;simp at h;simp at h
theorem adB{len:Nat}{b w:AV}(n:P.underlying u=aa (.array len cu))(k:0<bj P cu)(o:qI G t m=.av b)(h:pT len (bj P cu) b (bX G t dT) t.hp=aa w):
 rN P t.as u (l G t.as m) (l G t.as dT)=aa w/\w.pl=w:=by
 unfold pT at h;split at h;rename_i c d a;have i:l G t.as dT=.int c d:=by
  rw[jF (Bt (by rw[a];simp)),a]
 split at h;rename_i j;let⟨e,f,g⟩:=Kx (L:=t.as) h;simp_all[DB,rN];simp at h;simp at h
theorem adC{b:Array Field}{a:Field}{w:AV}(e:P.underlying u=aa (.struct b))(d:b[U]?=aa a)(c:xX P a.type=ad)(h:De a.offset (bj P a.type) (ft P a.type) (bX G t m)=aa w):
 CN P u (l G t.as m) U=aa w:=by
 let⟨f,g⟩:=Gn c;unfold De at h;split at h;simp_all[kM,CN,AV.pl,Fl];simp at h
theorem adD{w:AV}(f:P.underlying u=aa .string)(h:mc (bX G t m) (bX G t dT)=aa w):
 CO P u (l G t.as m) (l G t.as dT)=aa w:=by
 unfold mc at h;split at h;rename_i i c d b a;have g:=kM b (by simp);have e:l G t.as dT=.int c d:=by
  rw[jF (Bt (by rw[a];simp)),a]
 simp_all[CO,AV.pl];simp at h
theorem adE{op:UnOp}{a w:AV}(h:nw op a=aa w):nw op a.pl=aa w/\a≠.undef/\w.pl=w:=by
 unfold nw at h;grind[nw,AV.pl]
theorem Re{off:Nat}{b c:List AV}{a:AV}(i:(P.info? u).isSome=ad)(g:look U L.bx=aa b)(h:off+bj P u<=Z b)(d:Z a.pl.cells=bj P u)(e:a.pl.cells.all AV.bU=ad)(f:a.pl.cells=c):
 vZ P L u (.lp U off) a=aa {L with bx:=put U (e3 b off c) L.bx}:=by
 grind[vZ]
theorem Rf{op:Op}(h:Di P G A t fZ op rz):zG P G A t fZ op rz:=by
 unfold Di at h;split at h
 case _ g=>
  exact ky (by simp[aW,qR]) h
 case _ g=>
  split at h;split at h;rename_i af e;let⟨c,m,a,b⟩:=qQ h;simp only[fh,e7,eG]at a;let⟨rfl,rfl⟩:=a;exact rX (by simp only[aW,e]<;>rfl) b;rename_i e;exact ky (by simp only[aW,e]<;>rfl) h;rename_i x;refine ky ?_ h;simp[aW,qR]
 case _ K U V=>
  let⟨w,a,b⟩:=h8 h;unfold Qt at a;split at a;rename_i f aj;simp at a;subst a;have aR:l G t.as K=.bool f:=by rw[jF (Bt (by rw[aj];simp)),aj]
  refine ky ?_ b;simp only[aW,aR,qR];grind;grind
 case _ y=>
  split at h;rename_i H q J;split at h;rename_i I;split at h;rename_i e;split at h;rename_i R;refine⟨.lp q 0,{t with bx:=put q H t.bx},?_,rfl,h⟩;simp only[aW,J];rw[if_pos I,if_pos e,KA R];rfl;grind;rename_i e;let⟨c,m,a,b⟩:=qQ h;simp only[lB,e7,eG]at a;let⟨rfl,rfl⟩:=a;refine rX ?_ b;simp only[aW,J];rw[if_pos I,if_neg e];rfl;grind;grind
 case _ y g=>
  split at h;rename_i q;split at h;rename_i e;split at h;rename_i R;split at h;let⟨B,a,b⟩:=h8 h;let⟨p,v,z⟩:=Gu a;refine Gv (rA:=.lp q 0) ?_ b;simp only[aW];rw[if_pos ⟨p,v⟩,if_pos e,KA R,z,Kv (Rc a)];rfl;split at h;rename_i aF;let⟨K,a,b⟩:=h8 h;let⟨p,v⟩:=Rb a;refine Gv (rA:=.lp q 0) ?_ b;simp only[aW];rw[if_pos (by grind),if_pos e,KA R,p];rfl;grind;grind;rename_i e;split at h;rename_i D
  let⟨c,m,a,b⟩:=qQ h;simp only[nC,dq,eG]at a;obtain⟨B,a,rfl,rfl⟩:=a;let⟨p,v,z⟩:=Gu a;refine rX ?_ b;simp only[aW];rw[if_pos ⟨p,v⟩,if_neg e,if_pos D,z];rfl;rename_i D;let⟨c,a,b⟩:=h8 h;simp only[j2,dq]at a;obtain⟨B,a,rfl⟩:=a;let⟨p,v,z⟩:=Gu a;refine ky ?_ b;simp only[aW];rw[if_pos ⟨p,v⟩,if_neg e,if_neg D,z];rfl;grind
 case _ f F=>
  split at h;rename_i H a5 C;let⟨B,a,b⟩:=h8 h;refine ky ?_ b;simp only[aW,fT];rw[adt (Gt t F.toList) C a];rfl;grind
 case _ f N F=>
  split at h;rename_i af H ax E;split at h;rename_i x;split at h;rename_i L;split at h;rename_i a3;have a4:N=0:=by simpa using L
  subst a4;have a:lI af (dh 0 H) (F.toList.map λac=>(ac.1,bX G t ac.2))=aa []:=by
   have:F.toList=[]:=by simpa using a3
   rw[this]<;>rfl
  refine ky ?_ h;simp only[aW];rw[Kz (L:=t.as) E x (Gt t F.toList) a,if_pos L];rfl;grind;rename_i L;split at h;rename_i D;let⟨c,m,a,b⟩:=qQ h;simp only[FU,dq,eG]at a;obtain⟨az,a,rfl,rfl⟩:=a;refine rX ?_ b;simp only[aW];rw[Kz (L:=t.as) E x (Gt t F.toList) a,if_neg L,if_pos D];rfl;rename_i D;let⟨c,a,b⟩:=h8 h;simp only[fS,dq]at a;obtain⟨az,a,rfl⟩:=a;refine ky ?_ b;simp only[aW]
  rw[Kz (L:=t.as) E x (Gt t F.toList) a,if_neg L,if_neg D];rfl;grind;grind
 case _ f U=>
  split at h;rename_i X;let⟨br,bv⟩:=Gn X;split at h;rename_i n off s;split at h;rename_i B C;split at h;rename_i I;refine ky ?_ h;have Q:look n t.as.bx=aa B:=C;simp only[aW,fT,Bu s,oZ,pJ,Q,kf];grind;grind;grind;rename_i c s;let⟨w,a,b⟩:=h8 h;let⟨i,j⟩:=Q5 (L:=t.as) X a;refine ky ?_ b;simp_all[aW,fT,DB];grind;grind
 case _ f U c=>
  split at h;rename_i hp;split at h;rename_i n off s;split at h;rename_i B C;have Q:look n t.as.bx=aa B:=C;split at h;rename_i I;split at h;let⟨a6,a,b⟩:=h8 h;let⟨p,v,z⟩:=Gu a;refine Gv (rA:=.av .undef) ?_ b;simp only[aW,Bu s];rw[Re hp Q I p v z,Kv (Rc a)];rfl;split at h;rename_i aF;let⟨K,a,b⟩:=h8 h;let⟨p,v⟩:=Rb a;refine Gv (rA:=.av .undef) ?_ b;simp only[aW,Bu s]
  rw[Re hp Q I (by grind) (by grind) p];rfl;grind;grind;grind;rename_i ac s;let⟨m,a,b⟩:=h8 h;let⟨i,j⟩:=ads (L:=t.as) hp a (l G t.as c) (qR t c);refine rX ?_ b;simp only[aW,DB s,i];rfl;grind;grind
 case _ g=>
  split at h;rename_i n off s;refine⟨.lp n off,t,?_,rfl,h⟩;simp[aW,Bu s,fT,mM,EV.val];rename_i c s;let⟨w,a,b⟩:=h8 h;exact ky (adx s a) b;grind
 case _ op f g ce _=>
  let⟨w,a,b⟩:=h8 h;let⟨i,j,r,ah⟩:=adf a;refine ky ?_ b;simp_all[aW,fT,jF]
 case _ op _ g=>
  let⟨w,a,b⟩:=h8 h;let⟨i,j,r⟩:=adE a;refine ky ?_ b;simp_all[aW,fT,jF]
 case _ U V g=>
  let⟨w,a,b⟩:=h8 h;let⟨i,j,r⟩:=adg a;refine ky ?_ b;simp_all[aW,fT,jF]
 case _ f g=>
  split at h;exact h.elim;rename_i q x d;refine ky ?_ h;simp only[aW,d];rw[qR]<;>rfl
  grind
 case _ W first cap=>
  split at h;rename_i W;refine ky ?_ h;simp only[aW,qR];rfl;grind
 rename_i f g;split at h;rename_i S O d;let⟨w,m,a,b⟩:=qQ h;unfold Ka at a;split at a;rename_i N k;simp only[e7,eG]at a;let⟨rfl,rfl⟩:=a;refine⟨.av (.b8 (Z t.hp)),{t with hp:=t.hp++[.mp ad [] []]},?_,rfl,b⟩;have a0:l G t.as g=.int .i64 N:=kM k (by simp);simp only[aW,zj,a0,d,if_true];rfl;cases a
 exact h.elim
 case _ f=>
  let⟨c,m,a,b⟩:=qQ h;simp only[e7,eG]at a;let⟨rfl,rfl⟩:=a;exact rX (by simp only[aW]<;>rfl) b
 case _ f a5 K=>
  split at h;rename_i af H ax E;let⟨c,m,a,b⟩:=qQ h;let⟨i,j,r,ah⟩:=Q8 (L:=t.as) E a;refine rX ?_ b;simp_all[aW,jF];grind
 case _ f g=>
  split at h;rename_i d;let⟨c,m,a,b⟩:=qQ h;refine rX ?_ b;have o:=a;unfold wb at o;split at o;rename_i V M;have k:=kM M (by simp);simp only[e7,eG]at o;let⟨rfl,rfl⟩:=o;simp only[aW,d,k,AV.pl,sU,wb];rfl;grind;grind
 case _ g V=>
  split at h;rename_i C;let⟨c,m,a,b⟩:=qQ h;refine rX ?_ b;have o:=a;unfold tX at o;split at o;rename_i id M;have k:=kM M (by simp);have a2:c.pl=c:=by
   split at o;split at o<;>simp only[e7,eG]at o<;>rw[<-o.1]<;>rfl
   simp at o
  rw[M]at a;replace k:l G t.as g=.pI id:=k;simp only[aW,k,C,if_true,sU];rw[show t.as.hp=t.hp from rfl,a,a2];rfl;grind;grind
 case _ f g bi am bm=>
  split at h;rename_i bD E;let⟨w,a,b⟩:=h8 h;exact ky (adw E a) b;grind
 case _ f g W=>
  split at h;rename_i aA d;split at h;rename_i ai ak;split at h;rename_i hp;split at h;rename_i n Y k;refine⟨.lp n (Y+ai.offset),t,?_,rfl,h⟩;simp only[aW,fT,v7,d,ak,Bu k];rw[if_pos hp];rfl;rename_i c k;let⟨w,a,b⟩:=h8 h;let⟨i,j,r⟩:=Kx (L:=t.as) a;refine ky ?_ b;simp_all[aW,fT,v7,DB];grind;grind;grind;grind
 case _ f g W=>
  split at h;rename_i aA d;split at h;rename_i ai ak;split at h;rename_i X;let⟨w,a,b⟩:=h8 h;refine ky ?_ b;simp_all[aW,fT,adC];grind;grind;grind
 case _ f g au=>
  split at h;rename_i len y d;split at h;rename_i hp;split at h;rename_i n Y k;split at h;rename_i be N am;split at h;rename_i x;refine⟨.lp n (Y+N.toNat*bj P y),t,?_,rfl,h⟩;simp only[aW,fT,rN,d,Bu k,kM am (by simp),AV.pl];rw[if_pos ⟨x.1,x.2,hp⟩];rfl;grind;grind;rename_i c k;let⟨w,a,b⟩:=h8 h;let⟨i,j⟩:=adB d hp k a;refine ky ?_ b;simp_all[aW,fT];grind;grind;rename_i y d;split at h;rename_i hp
  let⟨w,a,b⟩:=h8 h;let⟨i,j⟩:=adA d hp a;refine ky ?_ b;simp_all[aW,fT];grind;grind
 case _ f g au=>
  split at h;rename_i d;let⟨w,a,b⟩:=h8 h;refine ky ?_ b;simp_all[aW,fT,adD];grind
 case _ f T n ok=>
  split at h;rename_i S O d;split at h;rename_i q H e J;let⟨w,a,b⟩:=h8 h;exact ky (adz d e J a) b;grind;grind
 case _ f T n=>
  split at h;rename_i S O d;split at h;rename_i q H e J;let⟨c,m,a,b⟩:=qQ h;let⟨i,j,r,ah⟩:=adu (L:=t.as) d e J a;refine rX ?_ b;simp_all[aW,jF];grind;grind
 case _ _ T cb c=>
  let⟨m,a,b⟩:=h8 h;let⟨i,j,r⟩:=adv (L:=t.as) a (l G t.as c) (qR t c);refine rX ?_ b;simp only[aW,jF j,jF r,i];rfl
 case _ f T n c=>
  split at h;rename_i S O d;split at h;rename_i q e;let⟨m,a,b⟩:=h8 h;let⟨i,j,r⟩:=Q9 (L:=t.as) d e a (l G t.as c) (qR t c);refine rX ?_ b;simp only[aW,jF j,jF r,i];rfl;grind;grind
 case _ f T n c=>
  split at h;rename_i S O d;split at h;rename_i q e;let⟨m,a,b⟩:=h8 h;let⟨i,j,r⟩:=Q9 (L:=t.as) d e a (l G t.as c) (qR t c);refine rX ?_ b;simp only[aW,jF j,jF r,i];rfl;grind;grind
 case _ g au=>
  let⟨w,a,b⟩:=h8 h;exact ky (ady a) b
 case _ g _ f ok=>
  split at h;exact h.elim;rename_i q x d;split at h;exact h.elim;rename_i a9;let⟨w,a,b⟩:=h8 h;unfold Bh at a;split at a;rename_i cc c M;split at a;rename_i bb;simp at a;subst a;refine ky ?_ b;simp_all[kM,aW,AV.pl];grind;grind;grind
 case _ K=>
  grind[adr]
 grind
end
variable{ko:KD}{kk:TypeId}
variable{fZ:Option Tmp}{dV:Call}{rz:EV -> WS -> Prop}
variable{z:Nat}
variable{dT:Operand}
variable{jv:WS -> Prop}
section
variable{P:Program}{G:Nat->Option (List AV)}{A:bS}{C:fu}{An:Nat->bS}{X:fu}{hc:Oper->Bool}
theorem adF{a b:AV}(h:aM M dd a.pl b):aM M dd a b:=by
 cases a<;>first|exact h|(cases h;exact .undef _ _)
theorem Gw:∀{a b:List AV},b7 L.hp dd (a.map AV.pl) b->qz L dd a b
 |[],_,h=>by cases h;exact .nil
 |v::a,_,h=>by
  cases h with
  |cons _ _ d _ e h c=>exact .cons _ _ _ _ (.of _ _ _ (adF h)) (Gw c)
theorem Gx(a:WS)(b:List Operand):(b.map (l G a.as)).map AV.pl=(b.map (bX G a)).map AV.pl:=by
 grind[List.map_map,List.map_congr_left,qR]
theorem adG{b a:AV}(h:aM M dd b a):a.pl=a:=by cases h<;>rfl
theorem DC(a:Option Tmp)(c:EV)(b:WS):(nD a c b).as=gn a (c.val,b.as):=by
 rcases a with _|d;rfl;simp[nD,gn,WS.as,QZ]
def zH(P:Program)(G:Nat->Option (List AV))(A:bS)(An:Nat->bS)(X:fu)(hc:Oper->Bool)(f:Array Oper)(c:WS)(b:Oper)(e:WS->Prop):Prop:=
 ∃d a,a.env=c.env/\er P G An X hc A f b c.as (nD b.dst d a).as/\e (nD b.dst d a)
theorem adH(f:gh o t.as B=aa ad)(h:zG P G A t B.dst B.op λb a=>jv (nD B.dst b a)):zH P G A An X hc o t B jv:=by
 let⟨b,a,c,d,e⟩:=h;refine⟨b,a,d,?_,e⟩;rw[DC];exact .op _ f c
theorem KB{args d:List AV}(g:∀U c b r a,C U c b r a->k5 P G An X U c b r a)(l:B.op=.call dV)(k:hc B=ad)(m:gh o t.as B=aa ad)(j:jc P G t.as dV=aa (U,args))(i:args.map AV.pl=d.map AV.pl)
 (h:ch C U d t.hp λr b=>jv (nD B.dst (.av r) {t with hp:=b})):zH P G A An X hc o t B jv:=by
 let⟨r,a,e,f⟩:=h;refine⟨.av r,{t with hp:=a},rfl,?_,f⟩;rw[DC];exact .uY dV U args r a k m l j (by rw[i];exact g _ _ _ _ _ e)
theorem KC{args a:List AV}{r:AV}(g:∀U d b r c,C U d b r c->k5 P G An X U d b r c)(n:B.op=.call dV)(k:hc B=ab)(s:gh o t.as B=aa ad)(j:jc P G t.as dV=aa (U,args))
 (l:dd≠.res)(i:qz t.as dd args a)(q:PR C U a r)(m:dd=.cd->NB r)(h:jv (nD B.dst (.av r) t)):zH P G A An X hc o t B jv:=by
 let⟨u,p,f,e⟩:=q;refine⟨.av r,t,rfl,?_,h⟩;rw[DC];have:(EV.av r).val=r:=adG e;rw[this];exact .uX dV U dd args a u r p k s n j l i (g _ _ _ _ _ f) e m
theorem adI(a:List AV):(a.map AV.pl).map AV.pl=a.map AV.pl:=by
 simp
theorem Rg{name:String}{a:Nat×Option (Nat×Bool)}(h:look u (Kg P name)=aa a):Bk P name u=aa a:=by
 have:∀b:List Nat,look u (b.filterMap λu=>(Bk P name u).map λa=>(u,a))=aa a->Bk P name u=aa a:=by
  intro b;induction b with
  |nil=>grind[look]
  |cons g b e=>
   intro c;simp only[OS]at c;split at c;exact e c;rename_i f d;simp only[dq]at d;grind[look]
 exact this _ h
theorem adJ{r:Operand}{name:String}{args:List AV}(v:dV.callee=.invoke r name)(h:rS (Kg P name) (bX G t r) (dV.args.toList.map λc=>(bX G t c).pl) t.hp=aa (U,args)):
 ∃d,jc P G t.as dV=aa (U,d)/\d.map AV.pl=args.map AV.pl:=by
 have g:∀w:AV,(w.pl::dV.args.toList.map (l G t.as)).map AV.pl=(w.pl::dV.args.toList.map λc=>(bX G t c).pl).map AV.pl:=by
  intro w;simp only[ej,Gx]
  congr 1
  simp[vW,Fb]
 unfold rS at h;split at h;rename_i B C k;have x:=kM k (by simp);split at h;rename_i f b;have a:=Rg b;simp only[e7,eG]at h;let⟨rfl,rfl⟩:=h;grind[l,Bk,jc,AV.pl];rename_i f A m b;have a:=Rg b;simp only[dq,eG]at h;obtain⟨e,j,rfl,rfl⟩:=h;refine⟨e.pl::dV.args.toList.map (l G t.as),?_,g e⟩;unfold Bk at a;split at a;rename_i y u;split at a;simp at a;rename_i p q s;split at a;rename_i i
 simp only[e7,eG]at a;let⟨rfl,rfl,rfl⟩:=a;let⟨n,o⟩:=Q5 (L:=t.as) i j;grind[jc,AV.pl];grind;grind;grind;simp at h;simp at h
theorem adK(n:∀a w u r v,C a w u r v->k5 P G An X a w u r v)(p:B.op=.call dV)(s:gh o t.as B=aa ad)
 (h:Kh P G C t (hc B) dV λD z=>jv (nD B.dst D z)):zH P G A An X hc o t B jv:=by
 unfold Kh at h;split at h;rename_i a m;have g:jc P G t.as dV=aa (a,dV.args.toList.map (l G t.as)):=by
  simp[jc,m,l]
 split at h;grind[KB,Gx];rename_i i;have j:hc B=false:=by simpa using i
 let⟨y,x,r,k,c,d,e,f⟩:=h;exact KC n p j s g k (Gw (by rw[Gx];exact c)) d e f;rename_i K _ m;let⟨a,args,b,h⟩:=qQ h;unfold lL at b;split at b;rename_i E first cap F;simp only[e7,eG]at b;let⟨rfl,rfl⟩:=b;have H:=kM F (by simp);have g:jc P G t.as dV=aa (E,first.map AV.pl++dV.args.toList.map (l G t.as)++cap.map AV.pl):=by
  simp only[jc];rw[m];simp only[H,AV.pl]
 have q:(first.map AV.pl++dV.args.toList.map (l G t.as)++cap.map AV.pl).map AV.pl=(first.map AV.pl++(dV.args.toList.map λI=>(bX G t I).pl)++cap.map AV.pl).map AV.pl:=by
  simp only[hJ,adI,Gx]
  congr 2
  simp[vW,Fb]
 split at h;grind[KB];rename_i i;have j:hc B=false:=by simpa using i
 let⟨y,x,r,k,c,d,e,f⟩:=h;exact KC n p j s g k (Gw (by rw[q];exact c)) d e f;grind;rename_i r name m;let⟨a,args,b,h⟩:=qQ h;let⟨J,g,q⟩:=adJ m b;split at h;grind[KB];rename_i i;have j:hc B=false:=by simpa using i
 let⟨y,x,r,k,c,d,e,f⟩:=h;exact KC n p j s g k (Gw (by rw[q];exact c)) d e f;grind
theorem Gy(e:∀d c a r b,C d c a r b->k5 P G An X d c a r b)(f:gh o t.as B=aa ad)(h:FW P G C A hc t B jv):zH P G A An X hc o t B jv:=by
 grind[FW,adH,Rf,adK]
theorem DD{f:Nat}{d:AV}{b:Bool}(e:d.pl=.bool b):∀{a:List (Nat×EV)},look f a=aa (.av d)->fR (wq f (.av (.bool b)) a)=fR a
 |[],h=>by simp[look]at h
 |(j,i)::a,h=>by
  simp only[look]at h;simp only[wq,fR,ej];split at h;rename_i c;simp only[e7]at h;subst h;rw[if_pos c];have g:(EV.av d).val=.bool b:=e;simp only[ej,g];rfl;rename_i c;rw[if_neg c];have:=DD e h;grind[fR]
theorem Gz{a:WS}(b:a.env=t.env)(c:fZ≠aa U):look U (nD fZ rA a).as.env=look U t.as.env:=by
 rcases fZ with _|d;simp[nD,WS.as,b];simp only[nD,WS.as,b,nH];grind[fQ]
theorem KE{e:Array Oper}(z:∀x w u r v,C x w u r v->k5 P G An X x w u r v){k:WS->Prop}:∀(n:List Oper)(d:Nat)(a:WS),(∀g,n[g]?=e[d+g]?)->qL P G C A hc e n a k->
 ∃b,qG P G An X A hc e (List.range' d (Z n)) a.as b.as/\(∀c,c∉sZ n->look c b.as.env=look c a.as.env)/\k b
 |[],d,a,_,h=>⟨a,.nil _,λ_ _=>rfl,h⟩
 |o::f,d,a,F,h=>by
  have I:e[d]?=aa o:=by have:=F 0;simpa using this.symm
  have H:∀g,f[g]?=e[d+1+g]?:=λg=>by
   have:=F (g+1);grind
  have W:∀c,c∉sZ (o::f)->o.dst≠aa c/\c∉sZ f:=by
   intro c j;unfold sZ at j⊢;simp only[OS]at j;split at j;rename_i m;exact⟨by rw[m];simp,j⟩;rename_i m;simp only[b6,not_or]at j;exact⟨by rw[m];simpa usingλQ=>j.1 Q.symm,j.2⟩
  have go:∀i:WS,i.as=a.as->zH P G A An X hc e i o (λb=>qL P G C A hc e f b k)->∃b,qG P G An X A hc e (List.range' d (Z (o::f))) a.as b.as/\(∀c,c∉sZ (o::f)->look c b.as.env=look c a.as.env)/\k b:=by
   intro i y p;let⟨m,R,S,T,K⟩:=p;let⟨b,s,O,r3⟩:=KE z f (d+1) _ H K;refine⟨b,?_,?_,r3⟩;rw[kI,arM];exact .cons d o _ _ _ _ I (by grind) s;grind[Gz]
  have skip:∀i:WS,i.as=a.as->gh e a.as o=aa ab->qL P G C A hc e f (nD o.dst .sk i) k->∃b,qG P G An X A hc e (List.range' d (Z (o::f))) a.as b.as/\(∀c,c∉sZ (o::f)->look c b.as.env=look c a.as.env)/\k b:=by
   intro i y N p;let⟨b,s,O,r3⟩:=KE z f (d+1) _ H p;refine⟨b,?_,?_,r3⟩;rw[kI,arM];refine .cons d o _ _ _ _ I ?_ s;rw[DC,y];exact .skip N;grind[Gz]
  simp only[qL]at h;split at h;rename_i E;exact go a rfl (by grind[Gy,gh]);rename_i g t E;split at h;rename_i J M;split at h;rename_i ac q;unfold gd at h;split at h;rename_i l B;have L:look J a.as.env=aa (.bool l):=by
   simp only[WS.as,nH,q,kf,EV.val,B]
  have Y:gh e a.as o=aa (l==t):=by
   simp[gh,E,M,L]
  split at h;rename_i D;subst D;have U:WS.as {a with env:=wq J (.av (.bool l)) a.env}=a.as:=by
   simp[WS.as,DD B q]
  grind[Gy];rename_i D;have V:l= !t:=by cases l<;>cases t<;>simp_all
  grind[WS.as,wq,bool,DD];grind;rename_i q;refine skip a rfl ?_ h;grind[look,WS.as,nH,EV.val,gh];grind;grind
variable{fp:Prop}
theorem adL(F:∀l k i r j,C l k i r j->k5 P G An X l k i r j)(h:qL P G C A hc o [B] t jv):
 ∃a,er P G An X hc A o B t.as a.as/\(∀b,B.dst≠aa b->look b a.as.env=look b t.as.env)/\jv a:=by
 have go:∀c:WS,c.as=t.as->zH P G A An X hc o c B jv->∃a,er P G An X hc A o B t.as a.as/\(∀b,B.dst≠aa b->look b a.as.env=look b t.as.env)/\jv a:=by
  intro c m e;let⟨y,x,z,D,E⟩:=e;exact(by grind[Gz])
 have skip:∀c:WS,c.as=t.as->gh o t.as B=aa ab->jv (nD B.dst .sk c)->∃a,er P G An X hc A o B t.as a.as/\(∀b,B.dst≠aa b->look b a.as.env=look b t.as.env)/\jv a:=by
  intro c m w e;refine⟨_,?_,by grind[Gz],e⟩;rw[DC,m];exact .skip w
 simp only[qL]at h;split at h;rename_i q;exact go t rfl (by grind[Gy,gh]);rename_i K g q;split at h;rename_i s v;split at h;rename_i L f;unfold gd at h;split at h;rename_i d n;have u:look s t.as.env=aa (.bool d):=by
  simp only[WS.as,nH,f,kf,EV.val,n]
 have J:gh o t.as B=aa (d==g):=by
  simp[gh,q,v,u]
 split at h;rename_i p;subst p;have H:WS.as {t with env:=wq s (.av (.bool d)) t.env}=t.as:=by
  simp[WS.as,DD n f]
 grind[Gy];rename_i p;have I:d= !g:=by cases d<;>cases g<;>simp_all
 grind[WS.as,wq,bool,DD];grind;rename_i f;refine skip t rfl ?_ h;grind[look,WS.as,nH,EV.val,gh];grind;grind
structure DE where
 i:Nat
 s:AS
 v:AV
structure KG(P:Program)(G:Nat->Option (List AV))(An:Nat->bS)(X:fu)(A:bS)(hc:Oper->Bool)(ops:Array Oper)(r:DE)(S:WS):Prop where
 ex:∃x d,ops[r.i]?=aa x/\er P G An X hc A ops x r.s (et x.dst r.v r.s)/\(aC P A hc x=.pure\/aC P A hc x=.rd)/\x.dst=aa d/\look d S.as.env=aa r.v/\Ag ops x r.s S.as
def KH(P:Program)(G:Nat->Option (List AV))(An:Nat->bS)(X:fu)(A:bS)(hc:Oper->Bool)(c:Array Oper)(r:DE)(a:Nat×List Obj×List (Nat×List AV)):Prop:=
 ∀b,c[r.i]?=aa b->er P G An X hc A c b {r.s with hp:=a.2.1,bx:=a.2.2} (et b.dst r.v {r.s with hp:=a.2.1,bx:=a.2.2})
theorem adM{r:DE}(C:KG P G An X A hc o r t)(m:o[r.i]?=aa B)(h:FX P G A t B)(F:Nat):KH P G An X A hc o r (F,t.as.hp,t.as.bx):=by
 let⟨U,q,c,N,w,f,k,x⟩:=C.ex;rw[m]at c;injection c with c;subst c;intro V d;rw[m]at d;injection d with d;subst d;unfold FX at h;rw[f]at h;split at h;rename_i M g y;injection g with g;subst g;split at h;rename_i b D;have Q:b.val=r.v:=by
  simp only[WS.as,nH,D,kf,e7]at k;exact k
 rw[<-f]at h;let⟨e,p,H,_,a⟩:=Rf h;have O:e.val=b.val:=by
  cases e with
  |av K=>
   cases b with
   |av L=>simp only[ob]at a;rw[a]
   |lp _ _=>exact a.elim
   |sk=>exact a.elim
  |lp n S=>
   cases b with
   |lp R T=>
    simp only at a;split at a;rename_i l;rw[l.1,l.2];exact a.elim
   |av _=>exact a.elim
   |sk=>exact a.elim
  |sk=>cases b<;>exact a.elim
 have step:er P G An X hc A o B t.as (gn B.dst (e.val,p.as)):=.op _ (by simp[gh,y]) H;let⟨J,j,u,_⟩:=pP step w;have E:J=r.v:=by
  rw[f]at j;have:=congrArg (λI:AS=>look q I.env) j;simp only[et,gn,fQ,if_true,e7]at this;grind
 subst E;exact u {r.s with hp:=t.as.hp,bx:=t.as.bx} (λn z=>(x n z).symm) (.inr ⟨rfl,λ_ _=>rfl⟩);grind;grind
theorem Rh:∀{a:List Nat},FY P G A o bu t fp a->fp/\∀i∈a,i∈bu/\∃b,o[i]?=aa b/\FX P G A t b
 |[],h=>⟨h,by simp⟩
 |i::a,h=>by
  simp only[FY]at h;split at h;rename_i e;split at h;rename_i b f;let⟨c,d⟩:=Rh h.2;grind;grind;grind
theorem GA(B:∀R O M r N,C R O M r N->k5 P G An X R O M r N)(F:∀i g a,o[i]?=aa a->rG i g=ad->aC P A hc a=.rd):∀(d done p:List Nat)(f:WS)(k:List DE),d.Nodup->(∀g∈p,g∉d)->(∀r∈k,r.i∈done/\r.i∉d)->(∀r∈k,r.i∈p->KG P G An X A hc o r f)->
 Dj P G C A hc o rG d done p f jv->∃e c,wm P G An X A hc o rG d e f.as c.as/\(∀b,(∀i∈d,∀a,o[i]?=aa a->a.dst≠aa b)->look b c.as.env=look b f.as.env)/\jv c/\∀r∈k,∀m∈e,rG r.i m.1=ad->KH P G An X A hc o r m
 |[],done,p,f,k,_,_,_,_,h=>⟨[],f,.nil _,λ_ _=>rfl,h,by simp⟩
 |i::d,done,p,f,k,ax,Y,a3,aA,h=>by
  have I:=k0.1 ax;have Z:∀a,∀g∈FZ o a p,g∉d:=λa g H=>λh=>Y g ((l5.1 H).1) (by simp[h]);have V:∀r∈k,r.i∈done/\r.i∉d:=by grind
  simp only[Dj]at h;split at h;exact h.elim;rename_i a s;let⟨l,u,J,h⟩:=adL B h;have W:∀r∈k,r.i∈FZ o a p->KG P G An X A hc o r l:=by
   intro r hr t;simp only[FZ,l5]at t;let⟨aj,n⟩:=t;let⟨ac,z,S,af,ah,T,a2,ai⟩:=(aA r hr aj).ex;rw[S]at n;simp only[h5,I5,ba,bne_iff_ne,ne_eq,eQ]at n;have az:∀b,(b=z\/b∈ac.looksAt o)->a.dst≠aa b:=by
    intro b j;rcases n with n|⟨n,ak⟩;rw[n];simp;rcases j with rfl|j;rw[<-T];exact n;exact ak b j
   refine⟨ac,z,S,af,ah,T,?_,λb j=>?_⟩;grind;rw[J b (az b (.inr j))];exact ai b j
  have L:∀(c:WS),(∀b,(∀g∈d,∀a,o[g]?=aa a->a.dst≠aa b)->look b c.as.env=look b l.as.env)->∀b,(∀g∈i::d,∀a,o[g]?=aa a->a.dst≠aa b)->look b c.as.env=look b f.as.env:=by
   intro c aR b j;rw[aR b (λg H=>j g (by simp[H])),J b (j i (by simp) a s)]
  by_cases q:aC P A hc a=.jd;rw[if_pos q]at h;simp only[q,reduceCtorEq,decide_false,arN,vX,e6,if_false]at h;let⟨h,a4⟩:=Rh h;let⟨e,c,v,w,r3,r4⟩:=GA B F d done _ l k I.2 (Z a) V W h;refine⟨(i,l.as.hp,l.as.bx)::e,c,.zu i a d e _ _ _ s u q v,L c w,r3,?_⟩;grind[adM];rw[if_neg q]at h;by_cases D:aC P A hc a=.pure\/aC P A hc a=.rd
  have K:(y (aC P A hc a=.pure)||y (aC P A hc a=.rd))=true:=by simpa using D
  simp only[K,if_true,c3]at h;let⟨x,Q,a0,_⟩:=pP u D;have aF:er P G An X hc A o a f.as (et a.dst x f.as):=by rw[<-Q];exact u
  have key:∃e c,wm P G An X A hc o rG d e l.as c.as/\(∀b,(∀i∈d,∀a,o[i]?=aa a->a.dst≠aa b)->look b c.as.env=look b l.as.env)/\jv c/\∀r∈(⟨i,f.as,x⟩:DE)::k,∀m∈e,rG r.i m.1=ad->KH P G An X A hc o r m:=by
   refine GA B F d (i::done) _ l (⟨i,f.as,x⟩::k) I.2 ?_ ?_ ?_ h;grind;grind;intro r hr t;split at t;rename_i U;simp only[ba,sK,eQ,bne_iff_ne,ne_eq]at U;let⟨⟨z,E⟩,am⟩:=U;rcases b6.1 hr with rfl|hr;refine⟨a,z,s,aF,D,E,?_,λb j=>J b (am b j)⟩;grind[et,gn,fQ];grind;rcases b6.1 hr with rfl|hr;exact absurd (by grind) (Y i ((l5.1 t).1));grind
  let⟨e,c,v,w,r3,r4⟩:=key;refine⟨e,c,.still i a d e _ _ _ s u q v ?_,L c w,r3,by grind⟩;intro m au E;exact⟨x,Q,r4 ⟨i,f.as,x⟩ (by simp) m au E a s⟩;have K:(y (aC P A hc a=.pure)||y (aC P A hc a=.rd))=false:=by simpa using D
  simp only[K,e6,if_false,vX]at h;let⟨e,c,v,w,r3,r4⟩:=GA B F d done _ l k I.2 (Z a) V W h;exact⟨e,c,.still i a d e _ _ _ s u q v (by grind),L c w,r3,r4⟩
theorem adN(a c:Nat)(b:Oper)(d:o[a]?=aa b)(h:Bd P A hc o a c=ad):aC P A hc b=.rd:=by
 grind[Bd]
variable{dW:K}{cz:Code}{jw:fg}
theorem GB(a:WS):(u6 A a).as=sW A a.as:=by
 simp[u6,sW,WS.as,Q0]
theorem KI(b:Operand)(a:WS):(Dk A b a).as=qA A b a.as:=by
 unfold Dk qA;grind[WS.as,Ks]
theorem GC{a:List (Nat×K)}(h:look U (k1 bu a)=aa dW):look U a=aa dW:=C7 bu U a dW h
theorem adO{a:List (Nat×K)}(h:look N (lA U a)=aa dW):look N a=aa dW:=A8 U N a dW h
theorem yf(b:U∈bu):∀a:List (Nat×K),look U (k1 bu a)=look U a
 |[]=>rfl
 |(e,f)::a=>by
  simp only[k1];split;simp only[look];rw[yf b a];rename_i d;have:e≠U:=λc=>d (c▸b);simp only[look,this,if_false];exact yf b a
theorem KJ:∀{a:List (Nat×K)},look U a=aa dW->U∈a.map (·.1)
 |[],h=>by simp[look]at h
 |(b,c)::a,h=>by
  simp only[look]at h;split at h;grind;simp[KJ h]
theorem GD(dc:List Nat)(b:List AV):∀(i:Nat)(a:List (Nat×EV)),(mO dc b i a).map (·.1)=a.map (·.1)
 |_,[]=>rfl
 |i,(c,.lp d e)::a=>by simp[mO,GD dc b i a]
 |i,(c,.av f)::a=>by simp only[mO];split<;>simp[GD dc b _ a]
 |i,(c,.sk)::a=>by simp only[mO];split<;>simp[GD dc b _ a]
theorem Bv(dc:List Nat)(c:List AV)(b:U∉dc):∀(i:Nat)(a:List (Nat×EV)),look U (mO dc c i a)=look U a
 |_,[]=>rfl
 |i,(d,.lp g h)::a=>by simp[mO,look,Bv dc c b i a]
 |i,(d,.av j)::a=>by
  simp only[mO];split;rename_i f;have:d≠U:=λe=>b (e▸f);simp[look,this,Bv dc c b _ a];simp[look,Bv dc c b _ a]
 |i,(d,.sk)::a=>by
  simp only[mO];split;rename_i f;have:d≠U:=λe=>b (e▸f);simp[look,this,Bv dc c b _ a];simp[look,Bv dc c b _ a]
theorem Ri(b:List AV):∀(i:Nat)(a:List (Nat×List AV)),(zw b i a).map (·.1)=a.map (·.1)
 |_,[]=>rfl
 |i,(d,c)::a=>by simp[zw,Ri b _ a]
theorem Bw{dc:List Nat}{env:List (Nat×EV)}:∀{c:List (Nat×EV)}{b:List AV},rT dc env c=aa b->Z b=u7 dc c
 |[],_,h=>by simp[rT]at h;subst h;rfl
 |(d,.lp e f)::c,b,h=>by
  simp only[rT]at h;split at h;split at h;simp only[u7];exact Bw h;simp at h;simp at h
 |(d,.av g)::c,b,h=>by
  simp only[rT]at h;split at h;simp at h;simp at h;split at h;rename_i a;simp only[dq]at h;obtain⟨r,h,rfl⟩:=h;simp only[u7,a,if_true,kI,Bw h];rename_i a;simp only[u7,a,if_false];exact Bw h
 |(d,.sk)::c,b,h=>by
  simp only[rT]at h;split at h;simp at h;simp at h;split at h;rename_i a;simp only[dq]at h;obtain⟨r,h,rfl⟩:=h;simp only[u7,a,if_true,kI,Bw h];rename_i a;simp only[u7,a,if_false];exact Bw h
theorem Rj{a r:List AV}{b:AV}(h:a.drop U=b::r):g a U=b/\a.drop (U+1)=r:=by
 have c:U<Z a:=by
  have:=congrArg List.length h;simp at this;omega
 grind[List.drop_eq_getElem_cons,g,List.getD,List.getElem?_eq_getElem]
theorem Bx{dc:List Nat}{env:List (Nat×EV)}{p:List AV}{k:Nat}:∀{g:List (Nat×EV)}{i m:List AV}{j:Nat},rT dc env g=aa i->p.drop j=i++m->
 (k∉dc->∀c,look k g=aa c->∀w,look k (fR env)=aa w->w=c.val)->∀b,look k (fR (mO dc p j g))=aa b->look k (fR env)=aa b
 |[],_,_,_,_,_,_,b,a=>by simp[mO,fR,look]at a
 |(s,.lp u z)::g,i,m,j,h,e,q,b,a=>by
  simp only[rT]at h;split at h;rename_i y A l;split at h;rename_i x;simp only[mO,fR,ej,look]at a;split at a;grind[nH];rename_i d;refine Bx h e (by grind[look]) b a;simp at h;simp at h
 |(s,.av B)::g,i,m,j,h,e,q,b,a=>by
  simp only[rT]at h;split at h;simp at h;simp at h;rename_i c t l;split at h;rename_i f;simp only[dq]at h;obtain⟨r,h,rfl⟩:=h;let⟨n,o⟩:=Rj e;simp only[mO,f,if_true,fR,ej,look]at a;split at a;rename_i d;subst d;simp only[e7]at a;rw[nH,l,<-a,n];show aa c.val=aa c.v.pl;grind[EV.Q2];rename_i d;exact Bx h o (by grind[look]) b a;rename_i f;simp only[mO,f,if_false,fR,ej,look]at a;split at a
  grind[Option.some.injEq,look,nH];rename_i d;exact Bx h e (by grind[look]) b a
 |(s,.sk)::g,i,m,j,h,e,q,b,a=>by
  simp only[rT]at h;split at h;simp at h;simp at h;rename_i c t l;split at h;rename_i f;simp only[dq]at h;obtain⟨r,h,rfl⟩:=h;let⟨n,o⟩:=Rj e;simp only[mO,f,if_true,fR,ej,look]at a;split at a;rename_i d;subst d;simp only[e7]at a;rw[nH,l,<-a,n];show aa c.val=aa c.v.pl;grind[EV.Q2];rename_i d;exact Bx h o (by grind[look]) b a;rename_i f;simp only[mO,f,if_false,fR,ej,look]at a;split at a
  grind[Option.some.injEq,look,nH];rename_i d;exact Bx h e (by grind[look]) b a
theorem Rk{k:List (Nat×List AV)}{a:List AV}:∀{j:List (Nat×List AV)}{f:List AV}{d:Nat},F0 k j=aa f->a.drop d=f->∀e,look U (zw a d j)=aa e->look U k=aa e
 |[],_,_,_,_,e,c=>by simp[zw,look]at c
 |(o,g)::j,f,d,h,i,e,c=>by
  simp only[F0]at h;split at h;rename_i l m;split at h;rename_i hc;simp only[dq]at h;obtain⟨r,h,rfl⟩:=h;have b:d+Z g<=Z a\/Z g=0:=by
   have:=congrArg List.length i;simp at this;omega
  have n:ua a (Z g) d=l:=by
   rcases b with b|b;rw[Ku a _ _ b,i,hc,List.take_left']<;>rfl
   rw[b];simp only[ua];exact(tO (by omega)).symm
  simp only[zw,look]at c;split at c;grind;refine Rk h ?_ e c;rw[<-vU,i,hc,List.drop_left']<;>rfl
  simp at h;simp at h
theorem KK{dc:List Nat}{T:WS}{c:List AV}(h:Dl dc T t=aa c)(j:∀a,a∉dc->∀e,look a T.env=aa e->∀w,look a t.as.env=aa w->w=e.val):
 (∀a b,look a (T.fill dc c M).as.env=aa b->look a t.as.env=aa b)/\(∀a b,look a (T.fill dc c M).as.bx=aa b->look a t.as.bx=aa b):=by
 unfold Dl at h;split at h;rename_i k f g i;simp only[e7]at h;subst h;refine⟨λa b d=>Bx g (m:=f) (j:=0) rfl (j a) b d,λa b d=>Rk i ?_ b d⟩;grind[Bw];simp at h
theorem DF:∀{e:List Oper}{b:WS},U∉sZ e->look U (zx P A e b).env=look U b.env
 |[],b,_=>rfl
 |o::r,b,a=>by
  have c:o.dst≠aa U/\U∉sZ r:=by
   unfold sZ at a⊢;simp only[OS]at a;split at a;rename_i d;exact⟨by rw[d];simp,a⟩;rename_i d;simp only[b6,not_or]at a;exact⟨by rw[d];simpa usingλg=>a.1 g.symm,a.2⟩
  simp only[zx];split;rename_i f h;have i:U≠f:=by grind
  split;split<;>rw[DF c.2]<;>exact(by grind[fQ])
  split<;>rw[DF c.2]<;>exact(by grind[fQ])
  rw[DF c.2];simp_all[fQ];exact DF c.2
theorem adP(c:U∉h7 cz)(h:look U (Dm P A cz t).env=aa rA):look U t.env=aa rA:=by
 unfold Dm at h;split at h;have:=GC h;rw[DF c]at this;exact this;have:∀(a:List Nat)(env:List (Nat×EV)),(∀b∈a,b≠U)->look U (F2 a env)=look U env:=by
  intro a;induction a with
  |nil=>intro env _;rfl
  |cons b a d=>
   grind[F2,fQ]
 grind[GC]
theorem Rl{Q:fg->WS->Prop}{dc:List Nat}{T:WS}{R:List AV->List Obj->Prop}(h:meet dc T Q R jw t):(jw=.norm/\∃a,Dl dc T t=aa a/\R a t.hp)\/(jw≠.norm/\Q jw t):=by
 grind[meet]
def DG(code:Code)(c d:WS):Prop:=∀a b,a∉h7 code->look a d.as.env=aa b->look a c.as.env=aa b
def GF(P:Program)(G:Nat->Option (List AV))(A:bS)(An:Nat->bS)(X:fu)(code:Code)(b:WS)(Q:fg->WS->Prop):Prop:=
 ∃c a,iI P G An X A code b.as c a.as/\DG code b a/\Q c a
theorem Rn{id:Nat}{Q:fg->WS->Prop}(m:∀g f d r e,C g f d r e->k5 P G An X g f d r e)(n:T=ad->FP P A hc o=ad/\o.toList.all (λa=>y (aC P A hc a≠.box)||a.dst.all λT=>u5 T t.env)=ad)
 (h:qL P G C A hc o o.toList t λb=>Q .norm (u6 A b)):GF P G A An X (.region id o T) t Q:=by
 let⟨b,c,x,r3⟩:=KE m o.toList 0 t (λv=>by simp) h;rw[y5,<-aaK]at c;refine⟨.norm,u6 A b,?_,?_,r3⟩;rw[GB];rcases T with _|_;refine .region _ _ _ _ _ ?_;have:=c.ops;grind[JY];let⟨l,i⟩:=n rfl;refine .Fq _ _ _ _ _ (acH l ?_ c);intro v _ a s z T u;simp only[eQ,h5,decide_eq_true_eq]at i;have q:a∈o.toList:=by
  have:=(kZ.1 s);let⟨B,k⟩:=this;rw[<-k];simp
 rcases i a q with h|h;grind;rw[u]at h;exact Bs (by grind);intro w D p j;rw[GB]at j;have:=GC j;rw[x w p]at this;exact this
theorem adQ{id:Nat}{Q:fg->WS->Prop}(m:∀i f d r e,C i f d r e->k5 P G An X i f d r e)(b:Dd P A hc o bu=ad)(j:o.toList.all (λa=>y (aC P A hc a≠.box)||a.dst.all λg=>u5 g t.env)=ad)
 (h:Dj P G C A hc o (Bd P A hc o) bu [] [] t λc=>Q .norm (u6 A c)):GF P G A An X (.region id o ad) t Q:=by
 have n:bu.Nodup:=by
  unfold Dd at b;simp only[ba,decide_eq_true_eq]at b;exact b.1.1.1.1
 let⟨E,c,u,D,r3,_⟩:=GA m adN bu [] [] t [] n (by simp) (by simp) (by simp) h;refine⟨.norm,u6 A c,?_,?_,r3⟩;rw[GB];refine .Fq _ _ _ _ _ (acN b ?_ u);intro z _ a q v g s;simp only[eQ,h5,decide_eq_true_eq]at j;have p:a∈o.toList:=by
  let⟨w,l⟩:=kZ.1 q;rw[<-l];simp
 rcases j a p with h|h;grind;rw[s]at h;exact Bs (by grind);intro B F x k;rw[GB]at k;have:=GC k;grind[h7,sZ]
theorem KL:∀(b:List Nat)(a:List (Nat×EV)),fR (lJ b a)=lJ b (fR a)
 |[],_=>rfl
 |k::b,a=>by
  show fR (lA k (lJ b a))=lA k (lJ b (fR a));rw[Ks,KL b a]
theorem adR(h:xH (bX G t m) (bX G t dT) t.hp=aa M):l G t.as m=bX G t m/\l G t.as dT=bX G t dT:=by
 generalize a:bX G t m=c at h;generalize b:bX G t dT=d at h;unfold xH at h;split at h;exact⟨kM a (by simp),kM b (by simp)⟩;cases h
theorem KM(Z:∀U l n r T,C U l n r T->k5 P G An X U l n r T):∀(code:Code)(b:WS)(Q:fg->WS->Prop),jg P G C A hc code b Q->GF P G A An X code b Q:=by
 intro code;induction code with
 |skip=>intro b Q h;exact⟨.norm,b,.skip _ _,λ_ _ _ h=>h,h⟩
 |label s=>intro b Q h;exact⟨.norm,b,.label _ _ _,λ_ _ _ h=>h,h⟩
 |region id aR ax=>
  intro b Q h;simp only[jg]at h;split at h;grind[Rn,adQ];rename_i aj;exact Rn Z (λo=>absurd o aj) h
 |seq l J q I=>
  intro b Q h;simp only[jg]at h;split at h;rename_i am g s ah;let⟨n,v,ac⟩:=h8 h;let⟨t,F⟩:=adR (t:=b) v;refine⟨.norm,{b with env:=lJ s b.env,hp:=n},?_,?_,ac⟩;rw[show({b with env:=lJ s b.env,hp:=n}:WS).as={env:=lJ s b.as.env,bx:=b.as.bx,hp:=n}by simp[WS.as,KL]];exact .abe _ _ _ am g s n ah (by rw[t,F];exact v);intro a f c i;have:fR (lJ s b.env)=lJ s b.as.env:=KL s b.env;simp only[WS.as]at i⊢
  rw[this]at i;exact(JR s _).1 a f i;split at h;let⟨k,d,m,j,e⟩:=q _ _ h;cases k with
  |norm=>
   let⟨k,y,z,D,B⟩:=I _ _ e;exact⟨k,y,.seq _ _ _ _ _ _ _ m z,λa f c i=>by
    simp only[h7,dt,not_or]at c;exact j a f c.1 (D a f c.2 i),B⟩
  |exit aA=>exact⟨_,d,.Jn _ _ _ _ _ _ m (by simp),λa f c i=>by
   simp only[h7,dt,not_or]at c;exact j a f c.1 i,e⟩
  |ret=>exact⟨_,d,.Jn _ _ _ _ _ _ m (by simp),λa f c i=>by
   simp only[h7,dt,not_or]at c;exact j a f c.1 i,e⟩
  unfold jn at h;let⟨k,d,m,j,e⟩:=q _ _ h;rcases Rl e with⟨rfl,p,M,L⟩|⟨O,e⟩;let⟨k,y,z,D,B⟩:=I _ _ L;have H:∀a,a∉h7 l->∀o,look a (Dm P A l b).env=aa o->∀w,look a d.as.env=aa w->w=o.val:=by
   intro a c o N w v;have t:=j a w c v;rw[WS.as,nH,adP c N]at t;simpa using t.symm
  let⟨u,E⟩:=KK (M:=d.hp) M H;refine⟨k,y,.seq _ _ _ _ _ _ _ m (.sub _ _ _ _ _ _ u E rfl z),?_,B⟩;intro a f c i;simp only[h7,dt,not_or]at c;exact j a f c.1 (u a f (D a f c.2 i));exact⟨k,d,.Jn _ _ _ _ _ _ m O,λa f c i=>by
   simp only[h7,dt,not_or]at c;exact j a f c.1 i,e⟩
 |cond K l J q I=>
  intro b Q h;simp only[jg,ez]at h;have W:∀{x:WS}{S:Code},DG S (Dk A K b) x->(∀a,a∉h7 (.cond K l J)->a∉h7 S)->DG (.cond K l J) b x:=by
   intro x S R ak a f c i;have:=R a f (ak a c) i;rw[KI]at this;unfold qA at this;split at this;grind[adO];exact this
  split at h;rename_i i;let⟨k,d,m,j,e⟩:=q _ _ h;refine⟨k,d,.cond _ _ _ _ _ _ _ ad ?_ ?_,W j (λa c=>?_),e⟩;grind[jF,Bt];grind[KI];grind[h7];rename_i i;let⟨k,d,m,j,e⟩:=I _ _ h;refine⟨k,d,.cond _ _ _ _ _ _ _ ab ?_ ?_,W j (λa c=>?_),e⟩;grind[jF,Bt];grind[KI];grind[h7];grind
 |block id l q=>
  intro b Q h;simp only[jg]at h;let⟨k,d,m,j,e⟩:=q _ _ h;cases k with
  |norm=>exact⟨_,d,.block _ _ _ _ _ _ m (by simp),j,e⟩
  |ret=>exact⟨_,d,.block _ _ _ _ _ _ m (by simp),j,e⟩
  |exit aF=>
   simp only at e;split at e;rename_i o;subst o;exact⟨_,d,.abc _ _ _ _ _ m,j,e⟩;rename_i o;exact⟨_,d,.block _ _ _ _ _ _ m (by grind),j,e⟩
 |loop l q=>
  intro b Q h;simp only[jg]at h;split at h;rename_i p M;have V:∀a,a∉h7 l->∀p n,look a (b.fill (h7 l) p n).as.env=look a b.as.env:=by
   intro a c p n;simp only[WS.fill,WS.as,nH,Bv _ p c]
  have H:∀d:WS,DG l b d->∀a,a∉h7 l->∀o,look a b.env=aa o->∀w,look a d.as.env=aa w->w=o.val:=by
   intro d R a c o N w v;have t:=R a w c v;rw[WS.as,nH,N]at t;simpa using t.symm
  have key:=h (λp n=>GF P G A An X (.loop l) (b.fill (h7 l) p n) Q) ?_;let⟨k,x,m,j,e⟩:=key;let⟨u,E⟩:=KK (M:=b.hp) M (H b (λ_ _ _ h=>h));exact⟨k,x,.sub _ _ _ _ _ _ u E rfl m,λa f c i=>u a f (j a f c i),e⟩;intro p n af;let⟨k,d,m,j,e⟩:=q _ _ af;have au:DG l b d:=λa f c i=>by rw[<-V a c p n];exact j a f c i
  rcases Rl e with⟨rfl,Y,ai,L⟩|⟨O,e⟩;let⟨k,y,z,D,B⟩:=L;let⟨u,E⟩:=KK (M:=d.hp) ai (H d au);refine⟨k,y,.loop _ _ _ _ _ _ m (.sub _ _ _ (b.fill (h7 l) Y d.hp).as _ _ ?_ ?_ rfl z),?_,B⟩;intro a f c;have az:a∈(b.fill (h7 l) p n).as.env.map (·.1):=by
   have:=KJ c;simp only[WS.fill,WS.as,fR,vW,Fb]at this⊢;rw[GD]at this⊢;exact this
  grind[Fp,yf];grind[h7,KJ,WS.fill,WS.as,Ri,Fp,yf];intro a f c i;have F:=D a f c i;rw[V a c]at F⊢;exact F;exact⟨k,d,.abd _ _ _ _ _ m O,j,e⟩;grind
 |exit id=>intro b Q h;exact⟨_,b,.exit _ _ _,λ_ _ _ h=>h,h⟩
 |ret=>intro b Q h;exact⟨_,b,.ret _ _,λ_ _ _ h=>h,h⟩
 |scope l q=>
  intro b Q h;simp only[jg]at h;let⟨k,d,m,j,e⟩:=q _ _ h;exact⟨k,d,.scope _ _ _ _ _ m,j,e⟩
 |_=>intro b Q h;exact h.elim
theorem KN:∀(i:Nat)(args:List AV),args.map AV.pl=args->fR (o7 i args)=n0 i args
 |_,[],_=>rfl
 |i,a::vs,h=>by
  simp only[ej,CF]at h;have:=KN (i+1) vs h.2;simp only[fR]at this;simp only[o7,n0,fR,ej,this];rw[show(EV.av a).val=a from h.1]
theorem adS{r:ResultVar}{g:AV}(h:F3 P t r=aa g):xQ P t.as r=aa g:=by
 cases r with
 |tmp f=>
  simp only[F3,e7]at h;subst h;simp only[xQ,WS.as,nH];rcases c:look f t.env with _|e;rfl;simp[EV.Q1]
 |cell b f=>
  simp only[F3]at h;split at h;rename_i d off a;split at h;rename_i i j;split at h;rename_i hc;simp only[ba,decide_eq_true_eq]at hc;let⟨m,n⟩:=Gn hc.1;simp only[e7]at h;subst h;have k:look d t.as.bx=aa i:=j;have l:(look b t.as.env).getD .undef=.lp d off:=by
   simp only[WS.as,nH];rcases c:look b t.env with _|e;grind;rw[c]at a;simp at a;subst a;rfl
  grind[xQ,oZ,pJ];simp at h;simp at h;simp at h
theorem Ro:∀{rs:List ResultVar}{vs:List AV},Dn P t rs=aa vs->wg P t.as rs=aa vs
 |[],_,h=>by grind[Dn,wg]
 |r::rs,vs,h=>by
  simp only[Dn]at h;split at h;rename_i d c a b;simp only[wg,adS a,Ro b];exact h;simp at h
theorem zI{fn:Func}{Q:AV->List Obj->Prop}(h:Dp P fn.results.toList t Q):∃a,xR P fn t.as=aa a/\Q a t.hp:=by
 grind[Dp,xR,Ro,absurd]
theorem adT(o:∀U i M r a,C U i M r a->k5 P G An X U i M r a){fn:Func}{args:List AV}{Q:AV->List Obj->Prop}(k:P.funcs[U]?=aa fn)(j:fn.body=aa cz)(m:(fn.name== "runtime.NumGoroutine")=ab)(l:Z args<=fn.ntmps)(n:gK fn.ntmps cz=ad)
 (p:args.map AV.pl=args)(h:F4 P G C (An U) hc cz fn.results.toList args M Q):∃r a,k5 P G An X U args M r a/\Q r a:=by
 let⟨s,g,b,_,e⟩:=KM o _ _ _ h;have q:WS.as {env:=o7 0 args,bx:=[],hp:=M}={env:=n0 0 args,bx:=[],hp:=M}:=by
  simp[WS.as,KN 0 args p]
 rw[q]at b;cases s with
 |exit t=>exact e.elim
 |norm=>
  let⟨f,d,c⟩:=zI e;exact⟨f,g.hp,.run U fn cz args M _ _ _ k j m l n b (.inl rfl) d,c⟩
 |ret=>
  let⟨f,d,c⟩:=zI e;exact⟨f,g.hp,.run U fn cz args M _ _ _ k j m l n b (.inr rfl) d,c⟩
end
variable{fp:Prop}
variable{dW:K}{cz:Code}{jw:fg}
variable{mE:fg -> AS -> Prop}{Y:ar}{mD:Code}{oQ:AS -> Prop}
section
variable{P:Program}{G:Nat->Option (List AV)}{An:Nat->bS}{X:fu}{A:bS}{C:fu}{hc:Oper->Bool}
theorem adU(y:P.follows .mixedOrders=ad)(x:∀l args j r c,X l args j r c->jz P G l args j r c){A:bS}(h:iI P G An X A cz L jw n):MC P G cz L jw n:=by
 refine iI.rec (motive_1:=λA v w L n _=>l9 P G v w L n) (motive_2:=λA cz L jw n _=>MC P G cz L jw n) (motive_3:=λl args j r c _=>jz P G l args j r c)
  ?_ ?_ ?_ ?_ ?_ ?_ ?_ ?_ ?_ ?_ ?_ ?_ ?_ ?_ ?_ ?_ ?_ ?_ ?_ ?_ ?_ ?_ ?_ h
 grind[JW];grind[PQ];grind[JX];grind[PT];grind[PU];intro A L a k b d e;exact wp_skip ⟨rfl,a,rfl,b,Fr.refl a,rfl,rfl⟩;intro A u L a k b d e;exact wp_label ⟨rfl,a,rfl,b,Fr.refl a,rfl,rfl⟩;grind[id,PW];grind[id,PX];grind[PY];grind[PZ];grind[P0];grind[id,P1];grind[id,P2];grind[P3];grind[P4];intro A id L a k b d e;exact wp_exit ⟨rfl,a,rfl,b,Fr.refl a,rfl,rfl⟩
 intro A L a k b d e;exact wp_ret ⟨rfl,a,rfl,b,Fr.refl a,rfl,rfl⟩;grind[P5];intro A k L B n jw p o q _ t a m b d e;exact t a m ⟨b.bM,q.trans b.hp,λf i h=>b.env f i (p f i h),λf i h=>b.bx f i (o f i h)⟩ d e;intro A cz L z g u c hc s;exact P7 hc s;grind[P6];grind
def en(P:Program)(G:Nat->Option (List AV))(c:Code)(h:AS)(j:fg->AS->Prop):Prop:=
 ∀(a:ar)(b:Act),St a h b.tmps->dz G a->gK b.tmps.size c=ad->C6 P c (λg f i=>∃d e,j d e/\FJ a b d e g f i) b a.w
theorem en.wp(h:en P G cz L mE){a:Act}(i:St Y L a.tmps)(f:dz G Y)(g:gK a.tmps.size cz=ad):cz.wp P (λe d j=>∃b c,mE b c/\FJ Y a b c e d j) a Y.w:=(h Y a i f g).wp
theorem en.seq(h:en P G cz L λb a=>b=.norm/\oQ a)(i:∀a,oQ a->en P G mD a mE):en P G (.seq cz mD) L mE:=λq s f d e=>by
 simp only[gK,ba]at e;refine wp_seq (wp_mono (h.wp f d e.1) ?_);rintro g t w1 ⟨b,a,⟨rfl,n⟩,rfl,r,rfl,p,c,l,j⟩;apply wp_mono ((i a n).wp p (d.mono c f.bM) (by grind));rintro g u v ⟨b,o,m,rfl,k⟩;cases b<;>exact⟨_,o,m,rfl,k.trans c l j⟩
theorem en.sub(j:∀a b,look a n.env=aa b->look a L.env=aa b)(i:∀a b,look a n.bx=aa b->look a L.bx=aa b)(k:n.hp=L.hp)(h:en P G cz n mE):en P G cz L mE:=λe f c g l=>
 h e f ⟨c.bM,k.trans c.hp,λa b d=>c.env a b (j a b d),λa b d=>c.bx a b (i a b d)⟩ g l
theorem en.Fq(r:P.follows .mixedOrders=ad){id:Nat}(x:∀i,pL o [] i->∃e,oQ (sW A e)/\l9 P G o (gJ o i) L e):en P G (.region id o ad) L λy z=>y=.norm/\oQ z:=λa c b q s=>by
 have g:uW c.tmps.size o=true:=by simpa[gK]using s
 refine wp_region_draw λC=>?_;simp only[Region.schedule,r,AQ,if_true];have f:=PH g C;let⟨d,k⟩:=ar.Jw (eI:={a.w with drawn:=a.w.drawn+1}) b.bM ⟨rfl,rfl,⟨rfl,AP _⟩,c7 _,λ_ _ _=>rfl⟩;have B:St (a.wd {a.w with drawn:=a.w.drawn+1}) L c.tmps:=by
  have:=St.mono b d k (λ_ _ h=>h) (λ_ _ _=>rfl);simpa[ar.wd,<-b.hp]using this
 let⟨e,v,t⟩:=x _ f;apply t _ c _ _ rfl (C8 f) B (q.mono d b.bM) g;intro E D u;let⟨j,l,m,n,p⟩:=u;exact⟨.norm,_,⟨rfl,v⟩,rfl,j,l,m.mL _ _,d.trans n,p⟩
theorem en.code(o:P.follows .mixedOrders=ad)(n:∀c args a r b,X c args a r b->jz P G c args a r b)(l:∀c d a r b,C c d a r b->k5 P G An X c d a r b){Q:fg->WS->Prop}(h:jg P G C A hc cz t Q):
 en P G cz t.as λg s=>∃e,s=e.as/\Q g e:=λi d u m p=>by
 let⟨g,e,f,_,z⟩:=KM l cz t Q h;have:=adU o n f i d u m p;cases cz
 case loop w=>
  intro j q k;let⟨f,v,B,x,y⟩:=this j q k;grind
 all_goals exact wp_mono this (by grind)
theorem en.fn{o:Nat}{fn:Func}{c:Code}{args:List AV}{r:AV}(s:P.funcs[o]?=aa fn)(q:fn.body=aa c)(H:(fn.name== "runtime.NumGoroutine")=ab)(V:gK fn.ntmps c=ad)(U:Z args<=fn.ntmps)
 (h:en P G c {env:=n0 0 args,bx:=[],hp:=[]} λi j=>(i=.norm\/i=.ret)/\∃a,xR P fn j=aa a/\aM j.hp .res a r):jz P G o args [] r []:=by
 refine⟨⟨fn,c,s,q,H⟩,λb e g D d p A=>?_⟩;apply calls_of_wp s q;have X:(e.toArray++Array.replicate (fn.ntmps -e.toArray.size) undef).size=fn.ntmps:=by
  have:=p.length;simp;omega
 have t:=JV g p fn.ntmps;rw[d]at t;have T:b.dZ .dm=b:=by
  let⟨w,R,h,bx,Q⟩:=b;have y:h=λ_=>none:=funext λid=>by
   rcases F:h id with _|m;rfl;have:=(g.dJ id m.1 m.2 F).2.2;grind
  have z:bx=λ_=>none:=funext D;simp only at d;subst d;subst y;subst z;simp[ar.dZ]
 have K:=h.wp (a:={tmps:=e.toArray++Array.replicate (fn.ntmps -e.toArray.size) undef,defers:=[]}) t A (by grind);apply wp_mono K;rintro n l w1 ⟨i,j,⟨I,v0,J,L⟩,rfl,f,rfl,k,S,W,E⟩;let⟨a,M,C⟩:=JU k J;have O:St b {env:=[],bx:=[],hp:=[]} (#[]:Array Value):=⟨g,d.symm,by grind[look],by grind[look]⟩;obtain⟨v,N,u,x,B⟩:=PE (s:=⟨#[],[]⟩) (dd:=.dm) O (by grind) k.bM C (by rw[<-k.hp];exact L) (λn=>by cases n)
 have hp:l.defers=[]/\∃a,(results fn l.tmps).run P f.w=.ok a f.w/\C5 b [] r (.returned a) f.w:=⟨E,a,M,v,N,x,u.bM,u.hp.symm,B⟩;rcases I with rfl|rfl<;>exact hp
end
def gM:List (List UInt8):=[[108,97,116,116,105,99,101],[102,117,110,99,116,105,111,110],[111,110],[98,97,115,101],[118,105,101,119],[107,101,121],[100,101,110,121],[110,111,116],[105,110,116],[115,121,109]]
def G0(a:Nat):Option (List AV):=
 if a=1 then aa [.sl ab (gM.map λb=>[.str b])]
 else if a=0 then aa (gM.map .str)
 else if a=2 then aa [.sl ab (gM.map λb=>[.str b])]
 else ae
def GG(C:fu)(d:AV)(a:List Obj)(f:WS->Prop):Prop:=
 bd (j2 4 d) λe=>
 bd (aQ 4 ad e a) λh=>
 cp C 104 [h] a λi=>
 cq (lB 1 [.aq] a) λc g=>
 bd (du 1 c i g) λb=>
 bd (aQ 1 ab c b) λj=>
 bd (gu .sl j b) λk=>
 f ⟨[(0,(.av d)),(1,(.av e)),(2,(.av .aq)),(3,(.av .aq)),(4,(.av c)),(5,(.av k))],[],b⟩
def KO(C:fu)(S T V N d i O j:AV)(m:List Obj)(Q:AV->List Obj->Prop):Prop:=
 cq (u4 1 [ff] 1 d d m) λP y=>
 cq (lB 1 [.aq] y) λe n=>
 bd (du 1 e P n) λo=>
 cq (lB 1 [.aq] o) λA p=>
 cq (lB 1 [.aq] p) λf q=>
 cq (lB 1 [(I 0)] q) λh r=>
 bd (du 1 h (I 0) r) λt=>
 cq (lB 1 [.fP] t) λc u=>
 (λB=>
 bd (du 1 c B u) λv=>
 jB (λb a z=>
 bd (aT .s .lss (g b 0) d) λD=>
 ez D (
 jn (λva=>
 bd (aQ 1 ab j a) λE=>
 bd (bP 1 E (g b 0) a) λF=>
 bd (aQ 1 ab F a) λG=>
 bd (aT .s .eql G (I 0)) λH=>
 ez H (
 bd (aQ 1 ab c a) λJ=>
 cq (lL J [(AV.pl (g b 0))]) λl k=>
 ch C l k a λU x=>
 va [(g b 0)] x) (
 va [(g b 0)] a)) λR w=>
 bd (aT .s .add (g b 0) (I 1)) λK=>
 z [K] w) (
 bd (aQ 1 ab i a) λL=>
 bd (aQ 1 ab f a) λM=>
 Q (.aB [(AV.pl L),(AV.pl M)]) a)) [(I 0)] v) (AV.fn 123 [] [(AV.pl h),(AV.pl j),(AV.pl O),(AV.pl e),(AV.pl A),(AV.pl N),(AV.pl c),(AV.pl f),(AV.pl i)])
open Go.Proofs
def C:fu:=jz aU G0
theorem wA:aU.follows .mixedOrders=true:=by kernel_rfl
def Rp(a:Option Func):String:=(a.map (·.name)).getD ""
def adV(a:Func)(b:String):Func:={a with name:=b}
def dX(d:Nat)(args:List AV)(c:List Obj->(AV->List Obj->Prop)->Prop):Prop:=
 args.map AV.pl=args->∀a Q,c a Q->∃r b,C d args a r b/\Q r b
theorem dX.pr{args:List AV}{a:List Obj->(AV->List Obj->Prop)->Prop}(h:dX U args a)(c:args.map AV.pl=args){r:AV}(d:a [] (λe b=>aM b .res e r)):PR C U args r:=h c _ _ d
theorem dX.hr{args:List AV}{a:List Obj->(AV->List Obj->Prop)->Prop}(h:dX U args a)(e:args.map AV.pl=args){r:AV}(f:a M (λc b=>c=r/\b=fq)):C U args M r fq:=by
 obtain⟨c,b,d,rfl,rfl⟩:=h e _ _ f;exact d
def yg(a:Func)(b:Nat):Bool:=a.body.isSome&& !(a.name== "runtime.NumGoroutine")&&y (b<=a.ntmps)&&gK a.ntmps (a.body.getD .skip)
theorem ru{fn:Func}{args:List AV}{T:List Obj->(AV->List Obj->Prop)->Prop}(o:aU.funcs[U]?=aa fn)(c:bS)(f:List Nat)(e:yg fn (Z args)=true:=by kernel_rfl)
 (n:∀a Q,T a Q=F4 aU G0 C c (pS f) (fn.body.getD .skip) (bJ fn.results) args a Q:=by intro _ _;kernel_rfl):dX U args T:=by
 intro p a Q h;simp only[yg,ba,hv,decide_eq_true_eq]at e;let⟨⟨⟨i,j⟩,k⟩,d⟩:=e;let⟨t,b⟩:=sK.1 i;rw[b]at d;rw[n a Q,b]at h;let⟨r,g,l,m⟩:=adT (hc:=pS f) (X:=C) (An:=λ_=>c) (λ_ _ _ _ _ h=>.uZ _ _ _ _ _ h) o b j k d p h;exact⟨r,g,ack wA (λ_ _ _ _ _ h=>h) l,m⟩
abbrev Kt:=List AV->List Obj->Prop
inductive In
 |n(x:Nat)|N(k:LK)(x:Nat)|L(x:Nat)|S(n x:Nat)|A(n x:Nat)|a(n x:Nat)|J(n x y:Nat)|i(x y:Nat)|s(n x y:Nat)|b(n m x y:Nat)
 |C(n x:Nat)|d(n x y:Nat)|D(n x:Nat)|B(o:BinOp)(x y:Nat)|l(x y:Nat)|p(x:Nat)|e(x y:Nat)|m(x y:Nat)|U(k:BK)(o:BinOp)(x y:Nat)
 |u(x:Nat)|E(n x:Nat)|I(n x:Nat)|o(x:Nat)|O(x:Nat)|q(n:Nat)|t(n x y:Nat)|P(n m x y:Nat)|M(n x:Nat)|W(n:Nat)(z:List Nat)
 |X(n:Nat)(z:List Nat)(m x y:Nat)|f(n:Nat)(z:List Nat)(m:Nat)(ps:List (Nat×Nat))|F(n:Nat)(z:List Nat)(m:Nat)(ps:List (Nat×Nat))
 |H(z:List Nat)(ps:List (Nat×Nat×Nat))|j(n m x y:Nat)|k(f:Nat)(l:List Nat)|K(f:Nat)(l:List Nat)
 |v(x:Nat)(l:List Nat)|V(x:Nat)(l:List Nat)|iv(t:List (Nat×Nat×Option (Nat×Bool)))(x:Nat)(l:List Nat)|iV(t:List (Nat×Nat×Option (Nat×Bool)))(x:Nat)(l:List Nat)
 |x2(F:List AV->List Obj->Option AV)|y2(F:List AV->List Obj->Option (AV×List Obj))|z2(F:List AV->List Obj->Option (List Obj))
 |z(v:AV)|y(n:Int)|g(l:List Nat)|gg(s n:Nat)|fn(f:Nat)(l0 l:List Nat)|Y(t x:Nat)
 |c(x:Nat)(a:List In)|G(x:Nat)(a:List In)|Gf(x:Nat)(a:List In)|r(a:List In)(n:Nat)|w(a:List In)(n:Nat)(l:List Nat)|h(a:List In)
 |Q(x:Nat)|T(l:List Nat)|R(j:Nat)(l:List Nat)|Z(j:Nat)(l:List Nat)(s n:Nat)|ob(x y:Nat)|tr
def nv:List AV->Nat->AV
 |[],_=>.undef
 |v::_,0=>v
 |_::a,b+1=>nv a b
def nk:List Kt->Nat->Kt
 |[],_=>λ_ _=>False
 |v::_,0=>v
 |_::a,b+1=>nk a b
def dr:List AV->Nat->List AV
 |l,0=>l
 |[],_=>[]
 |_::l,a+1=>dr l a
def tk:List AV->Nat->List AV
 |_,0=>[]
 |[],_=>[]
 |v::a,b+1=>v::tk a b
def vs(r:List AV):List Nat->List AV
 |[]=>[]
 |n::a=>nv r n::vs r a
def vp(r:List AV):List Nat->List AV
 |[]=>[]
 |n::a=>(nv r n).pl::vp r a
def v2(r:List AV):List (Nat×Nat)->List (Nat×AV)
 |[]=>[]
 |(a,c)::b=>(a,nv r c)::v2 r b
def v3(r:List AV):List (Nat×Nat×Nat)->List (Nat×Nat×AV)
 |[]=>[]
 |(a,b,d)::c=>(a,b,nv r d)::v3 r c
def ap:List AV->List AV->List AV
 |[],r=>r
 |v::a,r=>v::ap a r
def gs(a:List AV)(b:Nat):List AV:=tk [g a 0,g a 1,g a 2,g a 3,g a 4,g a 5,g a 6,g a 7,g a 8,g a 9,g a 10,g a 11,g a 12,g a 13,g a 14,g a 15,g a 16,g a 17,g a 18,g a 19,g a 20,g a 21,g a 22,g a 23,g a 24,g a 25,g a 26,g a 27,g a 28,g a 29,g a 30,g a 31,g a 32,g a 33,g a 34,g a 35,g a 36,g a 37,g a 38,g a 39] b
def cK(Q:AV->List Obj->Prop):Nat->List In->List AV->List Kt->List Obj->Prop
 |0,_,_,_,_=>False
 |_+1,[],_,_,_=>False
 |f+1,am::ai,r,ah,h=>
  match am with
  |.n ac=>bd (gu .sl (nv r ac) h) λx=>cK Q f ai (x::r) ah h
  |.N aR ac=>bd (gu aR (nv r ac) h) λx=>cK Q f ai (x::r) ah h
  |.L ac=>bd (aQ 1 ab (nv r ac) h) λx=>cK Q f ai (x::r) ah h
  |.S af ac=>bd (aQ af ad (nv r ac) h) λx=>cK Q f ai (x::r) ah h
  |.A af ac=>bd (dK af (nv r ac) h) λx=>cK Q f ai (x::r) ah h
  |.a af ac=>bd (dK af (nv r ac) h) λx=>bd (aQ 1 ab x h) λx=>cK Q f ai (x::r) ah h
  |.J af ac ak=>bd (bP af (nv r ac) (nv r ak) h) λx=>cK Q f ai (x::r) ah h
  |.i ac ak=>bd (bP 1 (nv r ac) (nv r ak) h) λx=>bd (aQ 1 ab x h) λx=>cK Q f ai (x::r) ah h
  |.s af ac ak=>bd (bP af (nv r ac) (nv r ak) h) λx=>bd (aQ af ad x h) λx=>cK Q f ai (x::r) ah h
  |.b af au ac ak=>bd (bP af (nv r ac) (nv r ak) h) λx=>bd (dK au x h) λx=>bd (aQ 1 ab x h) λx=>cK Q f ai (x::r) ah h
  |.C af ac=>bd (dO af (nv r ac)) λax=>cK Q f ai (ap (gs ax af) r) ah h
  |.d af ac ak=>bd (bP af (nv r ac) (nv r ak) h) λx=>bd (aQ af ad x h) λx=>bd (dO af x) λax=>cK Q f ai (ap (gs ax af) r) ah h
  |.D af ac=>bd (aQ af ad (nv r ac) h) λx=>bd (dO af x) λax=>cK Q f ai (ap (gs ax af) r) ah h
  |.B aR ac ak=>bd (aT .s aR (nv r ac) (nv r ak)) λx=>cK Q f ai (x::r) ah h
  |.l ac ak=>bd (aT .s .lss (nv r ac) (nv r ak)) λx=>cK Q f ai (x::r) ah h
  |.p ac=>bd (aT .s .add (nv r ac) (I 1)) λx=>cK Q f ai (x::r) ah h
  |.e ac ak=>bd (aT .s .eql (nv r ac) (nv r ak)) λx=>cK Q f ai (x::r) ah h
  |.m ac ak=>bd (aT .s .neq (nv r ac) (nv r ak)) λx=>cK Q f ai (x::r) ah h
  |.U bk_1 aR ac ak=>bd (aT bk_1 aR (nv r ac) (nv r ak)) λx=>cK Q f ai (x::r) ah h
  |.u ac=>bd (nw .not (nv r ac)) λx=>cK Q f ai (x::r) ah h
  |.E af ac=>bd (fK af (nv r ac)) λx=>cK Q f ai (x::r) ah h
  |.I af ac=>bd (j2 af (nv r ac)) λx=>cK Q f ai (x::r) ah h
  |.o ac=>bd (iL (nv r ac) h) λx=>cK Q f ai (x::r) ah h
  |.O ac=>bd (nB (nv r ac)) λx=>cK Q f ai (x::r) ah h
  |.q af=>cq (fh af h) λx h=>cK Q f ai (x::r) ah h
  |.t af ac ak=>bd (du af (nv r ac) (nv r ak) h) λh=>cK Q f ai r ah h
  |.P af au ac ak=>cq (cJ af au (nv r ac) (nv r ak) h) λx h=>cK Q f ai (x::r) ah h
  |.M af ac=>cq (nC af (nv r ac) h) λx h=>cK Q f ai (x::r) ah h
  |.W af az=>cq (lB af (vs r az) h) λx h=>cK Q f ai (x::r) ah h
  |.X af az au ac ak=>cq (u4 af (vs r az) au (nv r ac) (nv r ak) h) λx h=>cK Q f ai (x::r) ah h
  |.f af az au aj=>bd (fS af (vs r az) au (v2 r aj)) λx=>cK Q f ai (x::r) ah h
  |.F af az au aj=>cq (FU af (vs r az) au (v2 r aj) h) λx h=>cK Q f ai (x::r) ah h
  |.H az aj=>bd (mb (vs r az) (v3 r aj)) λax=>cK Q f ai (.agg ax::r) ah h
  |.j af au ac ak=>bd (pT af au (nv r ac) (nv r ak) h) λx=>cK Q f ai (x::r) ah h
  |.k af aj=>cp C af (vs r aj) h λx=>cK Q f ai (x::r) ah h
  |.K af aj=>ch C af (vs r aj) h λx h=>cK Q f ai (x::r) ah h
  |.v ac aj=>cq (lL (nv r ac) (vp r aj)) λaf am=>cp C af am h λx=>cK Q f ai (x::r) ah h
  |.V ac aj=>cq (lL (nv r ac) (vp r aj)) λaf am=>ch C af am h λx h=>cK Q f ai (x::r) ah h
  |.iv a0 ac aj=>cq (rS a0 (nv r ac) (vp r aj) h) λaf am=>cp C af am h λx=>cK Q f ai (x::r) ah h
  |.iV a0 ac aj=>cq (rS a0 (nv r ac) (vp r aj) h) λaf am=>ch C af am h λx h=>cK Q f ai (x::r) ah h
  |.x2 aF=>bd (aF r h) λx=>cK Q f ai (x::r) ah h
  |.y2 aF=>cq (aF r h) λx h=>cK Q f ai (x::r) ah h
  |.z2 aF=>bd (aF r h) λh=>cK Q f ai r ah h
  |.z x=>cK Q f ai (x::r) ah h
  |.y af=>cK Q f ai (Go.AM.I af::r) ah h
  |.g aj=>cK Q f ai (.agg (vs r aj)::r) ah h
  |.gg a2 af=>cK Q f ai (.agg (tk (dr r a2) af)::r) ah h
  |.fn af aj au=>cK Q f ai (.fn af (vp r aj) (vp r au)::r) ah h
  |.Y a0 ac=>cK Q f ai (.iface a0 (nv r ac).pl::r) ah h
  |.c ac am=>ez (nv r ac) (cK Q f am r ah h) (cK Q f ai r ah h)
  |.G ac am=>gd (nv r ac) ad (cK Q f am r ah h) (cK Q f ai r ah h)
  |.Gf ac am=>gd (nv r ac) ab (cK Q f am r ah h) (cK Q f ai r ah h)
  |.r am af=>jn (λaA=>cK Q f am r (aA::ah) h) λax h=>cK Q f ai (ap (gs ax af) r) ah h
  |.w am af aj=>jB (λax h aA=>cK Q f am (ap (gs ax af) r) (aA::ah) h) (vs r aj) h
  |.h am=>cK Q f am r ah h/\cK Q f ai r ah h
  |.Q ac=>Q (nv r ac).pl h
  |.T aj=>Q (.aB (vp r aj)) h
  |.R aA aj=>nk ah aA (vs r aj) h
  |.Z aA aj a2 af=>nk ah aA (ap (vs r aj) (tk (dr r a2) af)) h
  |.ob ac ak=>ob (nv r ac) (nv r ak)
  |.tr=>True
def dn(a:List In)(r:List AV)(h:List Obj)(Q:AV->List Obj->Prop):Prop:=cK Q 999 a r [] h
theorem hZ:(∀i r h Q,dn i r h Q=cK Q 999 i r [] h)/\(∀d b,nv (d::b) 0=d)/\(∀d b c,nv (d::b) (c+1)=nv b c)/\(∀d b,nk (d::b) 0=d)/\(∀d b c,nk (d::b) (c+1)=nk b c)/\
 (∀b,dr b 0=b)/\(∀d b c,dr (d::b) (c+1)=dr b c)/\(∀b,tk b 0=[])/\(∀d b c,tk (d::b) (c+1)=d::tk b c)/\(∀r,vs r []=[])/\(∀r c b,vs r (c::b)=nv r c::vs r b)/\
 (∀r,vp r []=[])/\(∀r c b,vp r (c::b)=(nv r c).pl::vp r b)/\(∀r,v2 r []=[])/\(∀r e c b,v2 r ((e,c)::b)=(e,nv r c)::v2 r b)/\
 (∀r,v3 r []=[])/\(∀r e f c b,v3 r ((e,f,c)::b)=(e,f,nv r c)::v3 r b)/\(∀r,ap [] r=r)/\(∀d b r,ap (d::b) r=d::ap b r)/\∀a c,gs a c=tk [g a 0,g a 1,g a 2,g a 3,g a 4,g a 5,g a 6,g a 7,g a 8,g a 9,g a 10,g a 11,g a 12,g a 13,g a 14,g a 15,g a 16,g a 17,g a 18,g a 19,g a 20,g a 21,g a 22,g a 23,g a 24,g a 25,g a 26,g a 27,g a 28,g a 29,g a 30,g a 31,g a 32,g a 33,g a 34,g a 35,g a 36,g a 37,g a 38,g a 39] c:=by
 refine⟨?_,?_,?_,?_,?_,?_,?_,?_,?_,?_,?_,?_,?_,?_,?_,?_,?_,?_,?_,?_⟩<;>intros<;>first|rfl|(rename_i b;cases b<;>rfl)
def bt:Nat->Nat->Nat->List Nat
 |0,_,_=>[]
 |f+1,b,a=>if a=0 then[]else if a%2=1 then b::bt f (b+1) (a/2)else bt f (b+1) (a/2)
def GH:Code->List (Array Oper)
 |.region _ c _=>[c]
 |.seq a b|.cond _ a b=>GH a++GH b
 |.block _ a|.loop a|.scope a=>GH a
 |_=>[]
def By:Code->List Nat
 |.cond c a b=>(match c with|.tmp d=>[d]|_=>[])++By a++By b
 |.seq a b=>By a++By b
 |.block _ a|.loop a|.scope a=>By a
 |_=>[]
def bs(a:List Nat):Nat:=a.foldl (λb c=>b|||(1<<<c)) 0
def Rq(c:List Nat):Nat:=(c.foldl (λa b=>((a.1^^^b)^^^((a.1^^^b)&&&(a.2|||(a.1&&&b))),a.2|||(a.1&&&b))) (0,0)).1
def kb(e:Func)(j:Nat):Nat×Nat:=
 let R:=GH (e.body.getD .skip)
 let g:=By (e.body.getD .skip)
 let r:=bs ((bJ e.results).map λ|.tmp k=>k|.cell i _=>i)
 let c:=bs (R.flatMap λa=>(bJ a).flatMap (·.looksAt a))
 let d:=(R.foldl (λd a=>d|||((bJ a).foldl (λf b=>(λh=>(f.1|||bs b.dst.toList,f.2|||(h^^^(h&&&f.1)))) (bs (b.looksAt a))) (0,0)).2) 0)
 let b:=Rq (g.map (1<<<·))
 (bs g|||r|||(c&&&(d|||(2^j -1)))|||(c^^^(c&&&Rq (R.map λa=>bs ((bJ a).filterMap (·.dst))))),b^^^(b&&&(c|||r)))
def an(a:Func)(b:Nat)(e:List Nat)(c:List (Nat×Nat))(f:List Nat)(d:List (Nat×List Nat)):bS:=⟨bt 999 0 (kb a b).1,bt 999 0 (kb a b).2,e,c,f,d⟩
def yh:List UInt8:=(ay 256).map λa=>if a=0 then 8 else .ofNat (Nat.log2 (a^^^(a&&&(a -1))))
def adW:List UInt8:=[1,1,2,4,8,16,32,64,128].zipIdx.flatMap λa=>dh a.1 (.ofNat a.2)
def fc(n:Nat)(a:Nat->K):K:=match n with|0=>a 0|n+1=>a (n+1)
def rd(b c n:Nat)(d:Nat->Nat->K):K:=fc (n%b) λa=>fc (n/b) λn=>if a+1<b then d a n else fc (n%c) λw=>fc (n/c) λn=>if w+1<c then d (a+w) n else fc (n/4096) (d (a+w+n%4096))
def bl(b:Nat)(a:Nat->Nat->K):K:=rd 5 38 b a
def Rr:Nat->Nat->(List Nat->Nat->K)->K
 |0,a,b=>b [] a
 |f+1,a,b=>bl a λd a=>Rr f a λc a=>b (d::c) a
def rl(a:Nat)(c:List Nat->Nat->K):K:=bl a λb a=>Rr b a c
def KP:List Nat->List (Nat×Nat)
 |x::b::a=>(x,b)::KP a
 |_=>[]
def Rs:List Nat->List (Nat×Nat×Nat)
 |x::b::c::a=>(x,b,c)::Rs a
 |_=>[]
def ec(a:In)(r:List In×Nat×List In):List In×Nat×List In:=(a::r.1,r.2)
def bk(r:List In×Nat×List In)(a:List In->Nat->List In->K):K:=a r.1 r.2.1 r.2.2
def dc:Nat->Nat->List In->List In×Nat×List In
 |0,x,af=>([],x,af)
 |f+1,x,af=>rd 38 27 x λau x=>match au with
  |1=>bl x λac x=>rl x λai x=>ec (.R ac ai) (dc f x af)
  |2=>bl x λac x=>bl x λah x=>ec (.a ac ah) (dc f x af)
  |3=>bk (dc f x af) λak x af=>bl x λac x=>ec (.c ac ak) (dc f x af)
  |4=>bl x λac x=>ec (.y (b4 ac)) (dc f x af)
  |5=>bl x λac x=>rl x λai x=>ec (.k ac ai) (dc f x af)
  |6=>bl x λac x=>ec (.Q ac) (dc f x af)
  |7=>bl x λac x=>ec (.n ac) (dc f x af)
  |8=>bl x λac x=>bl x λah x=>ec (.l ac ah) (dc f x af)
  |9=>bk (dc f x af) λak x af=>bl x λac x=>ec (.r ak ac) (dc f x af)
  |10=>ec (.z ff) (dc f x af)
  |11=>bl x λac x=>ec (.p ac) (dc f x af)
  |12=>ec (.z tt) (dc f x af)
  |13=>bk (dc f x af) λak x af=>bl x λac x=>rl x λai x=>ec (.w ak ac ai) (dc f x af)
  |14=>bk (dc f x af) λak x af=>bl x λac x=>ec (.G ac ak) (dc f x af)
  |15=>bl x λac x=>bl x λah x=>ec (.e ac ah) (dc f x af)
  |16=>bk (dc f x af) λak x af=>bl x λac x=>ec (.Gf ac ak) (dc f x af)
  |17=>bl x λac x=>bl x λah x=>ec (.E ac ah) (dc f x af)
  |18=>bl x λac x=>bl x λah x=>bl x λaj x=>ec (.s ac ah aj) (dc f x af)
  |19=>bl x λac x=>bl x λah x=>ec (.S ac ah) (dc f x af)
  |20=>bl x λac x=>ec (.u ac) (dc f x af)
  |21=>rl x λai x=>ec (.T ai) (dc f x af)
  |22=>bl x λac x=>bl x λah x=>ec (.i ac ah) (dc f x af)
  |23=>bl x λac x=>bl x λah x=>ec (.I ac ah) (dc f x af)
  |24=>bl x λac x=>bl x λah x=>bl x λaj x=>ec (.t ac ah aj) (dc f x af)
  |25=>bl x λac x=>ec (.L ac) (dc f x af)
  |26=>bl x λac x=>bl x λah x=>ec (.m ac ah) (dc f x af)
  |27=>bl x λac x=>bl x λah x=>ec (.A ac ah) (dc f x af)
  |28=>bl x λac x=>ec (.o ac) (dc f x af)
  |29=>bl x λac x=>rl x λai x=>bl x λah x=>bl x λaj x=>ec (.Z ac ai ah aj) (dc f x af)
  |30=>bl x λac x=>rl x λai x=>ec (.K ac ai) (dc f x af)
  |31=>bl x λac x=>bl x λah x=>ec (.B .sub ac ah) (dc f x af)
  |32=>ec (af.headD .tr) (dc f x af.tail)
  |33=>bl x λac x=>bl x λah x=>bl x λaj x=>ec (.J ac ah aj) (dc f x af)
  |34=>bl x λac x=>ec (.q ac) (dc f x af)
  |35=>bl x λac x=>bl x λah x=>bl x λaj x=>bl x λw x=>ec (.b ac ah aj w) (dc f x af)
  |36=>bl x λac x=>bl x λah x=>ec (.gg ac ah) (dc f x af)
  |37=>bl x λac x=>bl x λah x=>ec (.B .geq ac ah) (dc f x af)
  |38=>ec (.z (.str [])) (dc f x af)
  |39=>bl x λac x=>rl x λai x=>bl x λah x=>rl x λam x=>ec (.f ac ai ah (KP am)) (dc f x af)
  |40=>bl x λac x=>bl x λah x=>ec (.B .gtr ac ah) (dc f x af)
  |41=>bl x λac x=>bl x λah x=>bl x λaj x=>bl x λw x=>ec (.P ac ah aj w) (dc f x af)
  |42=>ec (.z .aq) (dc f x af)
  |43=>bl x λac x=>bl x λah x=>bl x λaj x=>ec (.d ac ah aj) (dc f x af)
  |44=>bk (dc f x af) λak x af=>ec (.h ak) (dc f x af)
  |45=>bl x λac x=>bl x λah x=>ec (.ob ac ah) (dc f x af)
  |46=>bl x λac x=>bl x λah x=>ec (.C ac ah) (dc f x af)
  |47=>bl x λac x=>bl x λah x=>ec (.B .leq ac ah) (dc f x af)
  |48=>bl x λac x=>rl x λai x=>rl x λam x=>ec (.fn ac ai am) (dc f x af)
  |49=>rl x λai x=>rl x λam x=>ec (.H ai (Rs am)) (dc f x af)
  |50=>bl x λac x=>rl x λai x=>ec (.v ac ai) (dc f x af)
  |51=>rl x λai x=>ec (.g ai) (dc f x af)
  |52=>bl x λac x=>bl x λah x=>ec (.B .add ac ah) (dc f x af)
  |53=>ec (.y (-1)) (dc f x af)
  |54=>bl x λac x=>bl x λah x=>bl x λaj x=>bl x λw x=>ec (.j ac ah aj w) (dc f x af)
  |55=>bl x λac x=>ec (.O ac) (dc f x af)
  |56=>bl x λac x=>rl x λai x=>ec (.W ac ai) (dc f x af)
  |57=>ec (.y2 λr h=>aa ((AV.b8 h.length),(h++[(.mp ad [] [])]))) (dc f x af)
  |58=>bl x λac x=>bl x λah x=>ec (.M ac ah) (dc f x af)
  |59=>ec (.z .dL) (dc f x af)
  |60=>bl x λac x=>rl x λai x=>ec (.V ac ai) (dc f x af)
  |61=>ec (.z (.int .u8 95)) (dc f x af)
  |62=>bl x λac x=>bl x λah x=>ec (.B .quo ac ah) (dc f x af)
  |63=>bl x λac x=>bl x λah x=>ec (.B .mul ac ah) (dc f x af)
  |64=>bl x λac x=>bl x λah x=>ec (.B .and ac ah) (dc f x af)
  |65=>bl x λac x=>rl x λai x=>bl x λah x=>bl x λaj x=>bl x λw x=>ec (.X ac ai ah aj w) (dc f x af)
  |66=>bl x λac x=>bl x λah x=>bl x λaj x=>ec (.x2 λr h=>fA (.sl ac) (nv r ah) ae (aa (nv r aj)) h) (dc f x af)
  |67=>bl x λac x=>bl x λah x=>ec (.D ac ah) (dc f x af)
  |68=>bl x λac x=>ec (.N .str ac) (dc f x af)
  |69=>ec (.z (.int .u8 48)) (dc f x af)
  |70=>ec (.z (.int .u8 57)) (dc f x af)
  |71=>bl x λac x=>bl x λah x=>ec (.B .shr ac ah) (dc f x af)
  |72=>bl x λac x=>bl x λah x=>ec (.x2 λr h=>mc (nv r ac) (nv r ah)) (dc f x af)
  |73=>bl x λac x=>bl x λah x=>ec (.x2 λr h=>iM ⟨ab,1,[0]⟩ (I 0) ab (nv r ac) (nv r ah) h) (dc f x af)
  |74=>bl x λac x=>ec (.x2 λr h=>pU (.int .u64) (nv r ac)) (dc f x af)
  |75=>bl x λac x=>bl x λah x=>ec (.Y ac ah) (dc f x af)
  |76=>bl x λac x=>bl x λah x=>ec (.U .n .eql ac ah) (dc f x af)
  |77=>ec (.z (.int .u8 1)) (dc f x af)
  |78=>ec (.z (.int .i32 95)) (dc f x af)
  |79=>ec (.z .oW) (dc f x af)
  |80=>bl x λac x=>bl x λah x=>bl x λaj x=>ec (.x2 λr h=>fA (.sl ac) (nv r ah) (aa (nv r aj)) ae h) (dc f x af)
  |81=>bl x λac x=>ec (.x2 λr h=>pU (.int .i64) (nv r ac)) (dc f x af)
  |82=>bl x λac x=>bl x λah x=>ec (.B .shl ac ah) (dc f x af)
  |83=>bl x λac x=>bl x λah x=>bl x λaj x=>ec (.z2 λr h=>jP ⟨ab,1,[1]⟩ (nv r ac) (nv r ah) (nv r aj) h) (dc f x af)
  |84=>bl x λac x=>rl x λai x=>bl x λah x=>rl x λam x=>ec (.F ac ai ah (KP am)) (dc f x af)
  |85=>ec (.z (.int .u8 97)) (dc f x af)
  |86=>ec (.z (.int .u8 122)) (dc f x af)
  |87=>ec (.z (.int .u8 65)) (dc f x af)
  |88=>ec (.z (.int .u8 90)) (dc f x af)
  |89=>bl x λac x=>bl x λah x=>ec (.U .b .neq ac ah) (dc f x af)
  |90=>bl x λac x=>bl x λah x=>ec (.z2 λr h=>jP ⟨ab,1,[0]⟩ (nv r ac) (nv r ah) tt h) (dc f x af)
  |91=>ec (.z (.int .u8 0)) (dc f x af)
  |92=>bl x λac x=>bl x λah x=>ec (.B .or ac ah) (dc f x af)
  |93=>bl x λac x=>ec (.x2 λr h=>mc (nv r ac) (I 0)) (dc f x af)
  |94=>ec (.z (.int .u64 1)) (dc f x af)
  |95=>bl x λac x=>bl x λah x=>ec (.x2 λr h=>iM ⟨ab,1,[0]⟩ ff ab (nv r ac) (nv r ah) h) (dc f x af)
  |96=>ec (.tr) (dc f x af)
  |97=>bl x λac x=>bl x λah x=>ec (.x2 λr h=>tW [(nv r ac),(nv r ah)]) (dc f x af)
  |98=>bl x λac x=>bl x λah x=>ec (.x2 λr h=>sT [(nv r ac),(nv r ah)]) (dc f x af)
  |99=>ec (.z .fP) (dc f x af)
  |100=>bl x λac x=>bl x λah x=>ec (.x2 λr h=>iM ⟨ab,1,[1]⟩ (I 0) ad (nv r ac) (nv r ah) h) (dc f x af)
  |101=>ec (.z (.int .i32 48)) (dc f x af)
  |102=>ec (.z (.int .i32 57)) (dc f x af)
  |103=>bl x λac x=>bl x λah x=>ec (.x2 λr h=>iM ⟨ab,1,[1]⟩ (I 0) ab (nv r ac) (nv r ah) h) (dc f x af)
  |104=>bl x λac x=>bl x λah x=>ec (.B .xor ac ah) (dc f x af)
  |105=>bl x λac x=>bl x λah x=>ec (.U (.a 3 [0,0,1]) .eql ac ah) (dc f x af)
  |106=>bl x λac x=>ec (.x2 λr h=>pU .bytes (nv r ac)) (dc f x af)
  |107=>bl x λac x=>bl x λah x=>ec (.x2 λr h=>fA (.sl ac) (nv r ah) (aa (I 1)) ae h) (dc f x af)
  |108=>bl x λac x=>bl x λah x=>ec (.x2 λr h=>fA (.sl ac) (nv r ah) ae (aa (I 1)) h) (dc f x af)
  |_=>([],x,af)
def dg(b:Nat):List UInt8->Nat
 |[]=>b
 |c::d=>(λa=>if a<92 then a -46 else a -47) c.toNat+76*dg b d
def sn:List String->Nat
 |[]=>0
 |s::a=>dg (sn a) (bJ s.toUTF8.data)
def od(a:Nat)(args:List AV)(b:List String)(c:List In):Prop:=dX a args λh Q=>cK Q 999 (dc 999 (sn b) c).1 args [] h
variable{hM:List String}{fk:List In}
theorem od.pr{args:List AV}{r:AV}(h:od U args hM fk)(d:fp)(c:args.map AV.pl=args:=by rfl)(b:cK (λe a=>aM a .res e r) 999 (dc 999 (sn hM) fk).1 args [] []=fp:=by conv=>(lhs;(conv=>arg 3;cbv);simp only[cK,hZ,Int.reduceOfNat])):PR C U args r:=dX.pr h c (b.mpr d)
theorem od.hr{args:List AV}{r:AV}(h:od U args hM fk)(d:fp)(c:args.map AV.pl=args:=by rfl)(b:cK (λe a=>e=r/\a=fq) 999 (dc 999 (sn hM) fk).1 args [] M=fp:=by conv=>(lhs;(conv=>arg 3;cbv);simp only[cK,hZ,Int.reduceOfNat])):C U args M r fq:=dX.hr h c (b.mpr d)
theorem od.hq{args:List AV}{Q:AV->List Obj->Prop}(h:od U args hM fk)(d:fp)(c:args.map AV.pl=args:=by rfl)(b:cK Q 999 (dc 999 (sn hM) fk).1 args [] M=fp:=by conv=>(lhs;(conv=>arg 3;cbv);simp only[cK,hZ,Int.reduceOfNat])):∃r a,C U args M r a/\Q r a:=h c _ _ (b.mpr d)
theorem rs{fn:Func}(h:aU.funcs[U]?=aa fn)(args:List AV)(c:List String)(d:List In:=[])(j:List Nat:=[])(e:List (Nat×Nat):=[])(k:List Nat:=[])(f:List (Nat×List Nat):=[])(b:List Nat:=[])(i:yg fn (Z args)=true:=by kernel_rfl)
 (g:∀a Q,cK Q 999 (dc 999 (sn c) d).1 args [] a=F4 aU G0 C (an fn (Z args) j e k f) (pS b) (fn.body.getD .skip) (bJ fn.results) args a Q:=by intro _ _;kernel_rfl):od U args c d:=ru h _ b i g
theorem rp{fn:Func}{args:List AV}(f:aU.funcs[U]?=aa fn)(h:List Nat:=[])(c:List (Nat×Nat):=[])(i:List Nat:=[])(d:List (Nat×List Nat):=[])(b:List Nat:=[])(g:yg fn (Z args)=true:=by kernel_rfl)
 (e:∀a Q,dn fk args a Q=F4 aU G0 C (an fn (Z args) h c i d) (pS b) (fn.body.getD .skip) (bJ fn.results) args a Q:=by intro _ _;kernel_rfl):dX U args (dn fk args):=ru f _ b g e
section
open Go.Proofs.Tryz
variable{x0 x1 x2 x3 x4 x5 x6 x7 x8 x9:AV}
abbrev KQ:=rs func12 [x0,x1,x2] ["E0u:?JDZav5P4N<PHvS/Tl:EeXP?m_DQ/"] [] [] [(6,3)] [] [] [20]
abbrev adX:=rs func15 [x0,x1] ["[?;07uq]eWdC:^clv]?7^SXG?2gTUlOC4pvwhhkNzJ5"]
abbrev adY:=rs func18 [x0,x1,x2] ["ECUWF/0NTW@[;:9WQIM^geX7owtIJy>lgh:>QA_ogv<DnkTxH=V.>J1EYaVg","Fv]snsf=:rbV4>de`3TK;StUDHj].IzJO9JX7`.Bt0NxttI5v0B>9lVc4jLC","3PN[Q@wSBFp30Eo3LQfn_5ASC.1]y0Ydj;yjzhacV5PZ<FVcDkPF.Kvrhbr@","f=8VkhZb6SDd<Hu9.HojKJOmt52mnjlAbb6`<cDmipffqQk`Jo4y;JFgPY6m","gP8^1:/1SBj3@NzZLz5Nu^OImEUGHEDuJ;GtKiAHOEs?snV?HlcZEhimj@WN","nGNRt8ImsufjH.a8fy2?gNVuSBv.A]>j<.dSK00hidr:0OhdnT9P9GFH]Itk",":R2z_[J0kfNX>z03lyIBtcWp//Ws?VbZfYLl9;nWxLEwb7Oc@EpX`NtnHZA.","AZ<hDW.OF.;eGTfGEuZdDTrdtC?y3fc9vHp`G<[=TuY;Iul`>[Y^Xa19L6rR","i:JwID:cFi7l5/"] [.y 20000,.z2 λr h=>jP ⟨false,1,[0]⟩ (nv r 19) (nv r 17) (nv r 0) h,.x2 λr h=>iM ⟨false,1,[0]⟩ .aq false (nv r 0) (nv r 2) h,.z2 λr h=>jP ⟨false,1,[0]⟩ (nv r 16) (nv r 9) (nv r 3) h,.z2 λr h=>xH (nv r 7) (nv r 16) h] [20,25] [] [66] [] [119]
abbrev adZ:=rs func19 [x0] ["^1Yj9N3ccpW2nQqBm@MPefp6Eu]_6CxEQdlGrl6W^?^7iOreP39Lj<9qv^WV","PBY@07rjhxKIJ:a;=th4j=?SeI8pN^Chn73<3eprVebtmS2WcH7cpsxP]O]E","nhKm_fOo;Qen0_KN:bXCw.s_uOvKk.A:[:;0zB=l8@[j6A3Ey;reI>Wj0^VD","<V6Hrk36i[`nu47a@Z[::QD0"] [.y 20000,.U (.a 3 [0,0,0]) .neq 2 0,.U (.a 3 [0,0,0]) .neq 2 0,.y2 λr h=>Ka (nv r 0) h,.x2 λr h=>fA (.sl 3) (nv r 3) (some (I 2)) none h,.x2 λr h=>iM ⟨true,3,[0,0,0]⟩ (.agg []) true (nv r 10) (.agg [(nv r 0),(nv r 1),(nv r 2)]) h,.z2 λr h=>jP ⟨true,3,[0,0,0]⟩ (nv r 14) (.agg [(nv r 4),(nv r 5),(nv r 6)]) (nv r 0) h] [5,6]
abbrev ad0:=rs func20 [x0,x1,x2] ["zCa>/s/W^rUuTLOm4NBIT95SJ0I>6^VWP^L7vXUWA[lMcnlL[>U@<oAXinG0","Vf.yl8=>A]KwC3iRP5c9GK`gAjS"] [.z2 λr h=>jP ⟨false,1,[0]⟩ (nv r 0) (I 0) ff h,.z2 λr h=>jP ⟨false,1,[0]⟩ (nv r 0) (I 1) tt h] [] [] [3] [] [35]
abbrev Ru:=rs func29 [x0,x1] ["YSU@I]^fYrB<Z5mrTNGZgGql<i=mJz1gUI?MlAGF_QrfYwR08>Rifro^l5ko","d:7zoO4"] [.z2 λr h=>Dg 3 [(I 0),.aq,(I 0)] (nv r 0) h] [7]
theorem Rv:dX 31 [x0,x1] (dn [.I 3 0,.L 2,.S 3 1,.v 1 [0],.u 0,.Q 0] [x0,x1]):=rp func31
abbrev ad1:=rs func39 [x0,x1] ["E2paw4@tEEkb:R6E4W[dG=q7sx.P7sc1K?M"]
abbrev Rw:=rs func43 [x0,x1] ["Ej]alwZ:4WaFj4]ywH2/n=j[xz?0"]
abbrev ad2:=rs func45 [x0] ["zoqu9>j;:Cw?xu^]]L/5gPPbyQ9bMuibeygpDQke[XcAsCK8HwP0g=qB1/L`","mIFr:6f.YC98x0J.zewS@AH3T6NTZe4l@BlV8KTsE0x=X;n26X6MmS7YRmK3","BUfK1umFM^gI`8/Y"] [] [] [(2,2),(5,2)] [1]
abbrev Rx:=rs func49 [x0] ["Xxu:/HfdREpzVf[04"] [] [2]
abbrev ad3:=rs func64 [x0] ["EVD]3h1PWdu1Lu>f=J@W8zMo/v8>G`>P9v6`4@Ami88bJ9E:E^pgV>rkO4ck","zmGabMk;8[B?7<[[6GzHy8x@NQO"] [] [] [(2,2),(3,2)]
abbrev ad4:=rs func68 [x0,x1] ["loH6IT6Q?E3"]
theorem Ry:dX 78 [x0,x1] (dn [.n 0,.y 0,.w [.l 1 3,.c 0 [.s 3 5 2,.v 7 [0],.c 0 [.Q 4],.p 4,.R 0 [4,0]],.y (-1),.Q 0] 2 [0,0]] [x0,x1]):=rp func78
abbrev Rz:=rs func81 [x0,x1] ["YS0]7W^L>/N:xj]Bg91mzqzm8WpHTq:pRnr0;bs"]
abbrev ad5:=rs func94 [x0,x1,x2,x3] ["lv]:cJ2w`Hor;rlMHf0?/Q8nIu0qyYU8b15x/]6;HGEe`zulA=SL"]
abbrev RA:=rs func101 [x0] ["lH?I^aADPmT2rXuffAxM41[nZ4A3HQXy__PmGq00U1`:TNTna^pe3cIKfSZa","0:z4@z1O"] [.y 9999]
abbrev RB:=rs func104 [x0] ["E01H25BzUSa;?ue]/b7c5K>e?.KFqWKqO89F=d5zm.rckDmnoo2E>]kC]UvL","jPkxH.EPS0"] [] [7]
theorem RC:dX 109 [x0,x1] (dn [.n 0,.y 0,.w [.l 1 3,.c 0 [.i 5 2,.e 7 0,.c 0 [.Q 4],.p 4,.R 0 [4,0]],.y (-1),.Q 0] 2 [0,0]] [x0,x1]):=rp func109
abbrev ad6:=rs func112 [x0,x1] ["E=?gV<WkraWuaZprEdp^9CGLcq68vIpoA"]
abbrev ad7:=rs func120 [x0,x1,x2] ["J3FKQOAZ]=KgyW`9oKi;MldzX6dsu"]
abbrev RD:=rs func139 [x0,x1,x2] ["5KmLCHQa8E1heEPgvY7V9U]uzH5.e4x:sWH::2VX2H`sWsoPPKLyl45"] [] [8]
abbrev RE:=rs func140 [x0,x1] ["E26]Z3Xg6eev?]VGhP227Sc7XP9[[qonzX:eQwfQ76_ZW.9f>VnILxtCN/"]
abbrev RF:=rs func150 [x0] ["EjEJRf^7mU1TRY@F_L7i/2ZXIlofmQZGIvO<IXXqxZRP?b2Q1OIh4@4Q9gQ?","LJKtuz2z1^;fmWCn=CClgBruiAGeu4rbx=8R?n_TGYaa8[R5cDXS[[tiCwuf","hHZ=L4U:OSy8^trl`FtyzyHRpJvLcI8AG^1Iyj.C=cGwN7H718q_FrHljm7G","M]Yt_V7Crb^ogl:/hJ<I/h@A296;<jJrh7TNC1eMXMBnpSAB@pt7835tfN><","9A2GftMth9Yr1pDXvPcU`ViLbJ5uQvDy5Itj]SS_d[nUs>6iNOF/"] [.x2 λr h=>tW [(nv r 0),(I 20)]] [2,6] [] [] [] [14,36]
theorem RG:dX 159 [x0,x1] (dn [.k 214 [0,1],.y 0,.B .geq 1 0,.Q 0] [x0,x1]):=rp func159
abbrev RH:=rs func188 [x0,x1,x2] ["5KFV7fC]u.Mh`aYrQQM_o?6D4qZ8NtJMdiAAyi8aq0iN::7<0"]
abbrev ad8:=rs func203 [x0,x1] ["lOisxgz2Vit:l8ho3^v3oHTRC9O46quCOOxQ0O><aZU`W1dRe:Ia>;vgf5Z:","Sa/1l7FEt6k;]Z79zHVbU1RJ1lvnEnlPCQQ3iDnGnEX8A20Z>zO7o8Zj/"]
abbrev RI:=rs func209 [x0] ["ECz4qcV=Bpe?<5JfQ1^2qA7B`Y5y_8i:kEfGBK.emO1SqUQ5g;i6R:K/o=.q","3LyRMwF@]RtM_Icw7OP4NB0"]
abbrev RJ:=rs func212 [x0,x1] ["lcEm06hMb]GD^]fUF?eLdBUwTC5^m]T8t5S]cBE8o?S[CJH]NUG8/^6dPTQL","VB._WTIKQka??713FN`/YQ]RojJ<@Wd:q6h/_.[Kls8H0"]
abbrev RK:=rs func218 [x0,x1,x2,x3] ["E]RNX<?^.nBXUq_lJT3B7tDJ?7Q?4EO[vx97[xbQ]ONxbIJg9uA_[s9NvawA","FNJl<lz[A0LFBilvQE`x=;?NCprfyew;kb2.dFz[84.aBCsR31]y7S16QcV_","4?g0MTnB]h/`aW^.hc"] [.U (.a 3 [0,0,1]) .neq 0 1,.z2 λr h=>Bg ⟨false,1,[1]⟩ (nv r 0) (nv r 1) h] [11,12] [(8,1)] [] [] [53]
abbrev ad9:=rs func228 [x0] ["PyuUQ540"] [] [] [(2,1)] [3]
abbrev aea:=rs func232 [x0] ["^@AX`HjrqXM]I]USm]1BW1C2^?<Mmqb6fbqTZj[e9hgid@2K2s2/<i;P@_b9","bn9hyiWJUq=fCbVkdF_>cEa8]raS12J/=aHEG1cx4D<K>8NbT:7KKNE^HO2V","uf3p>tQ5ezK]@lqm1=RP6v;eyJ9sO1w`zUL/N/R53G@4uSI<:Feb3Yi:CfTu","w`ieBn5nRl"]
abbrev aeb:=rs func250 [x0] ["lOzZg7F?uoxtCwl/wr.[xSxl[?nf:G?`eZ5COKCwaPqeU.rT3I/QjnT7<etj","IvONd^ZMI0hqK/kayv:P5sze7;]g;omm=hBP4`W[4qBmgGMepskaRTev;]qP","Bss`_Lkt@RRmDXW=CoH1bla3]@2S/Pa_W2pulz/s>Iw>q.=Im>qX2_1vAHKD","s2ydr4HdZ@rwR8Dl1H6/8voyMCK[9cb.7a:0pTvAo;etE]wrdEC/wt5NM5cT","VcQXi=7HdL@WIJ/gB1IRwngFi3o6Iewyfkp[gXhPqkkT9uc[J00;wbP0rd]=","CF9k`[/:Bl4@UYjnlGlYK"]
abbrev aec:=rs func251 [x0] ["EC@V:JLG.:p4>skJXkfzml8?zYop0D<yuK1;CHrKWdTIx5JI43hFi^ANA4MS","TLz[d8e2;qF/YwpHyl_BXBRVV=dl^U5]xI[6Fos/@Y42:u<TBHRknRcSRQnP","xEHdf3En/e]3apyJCgzblZhK<_uYxZbdWhAMzsS>w^fTXoc:SOHI:A/6<7VI","qJ@XcE[afB>3eup7bX?QrxfdPlO4"]
theorem RM:dX 258 [x0,x1,x2] (dn [.M 1 2,.r [.n 1,.B .leq 0 3,.G 0 [.fn 299 [] [2],.k 298 [4,0],.u 0,.R 0 [0]],.z ff,.R 0 [0]] 1,.Q 0] [x0,x1,x2]):=rp func258 [] [] [5]
theorem RN:dX 260 [x0,x1,x2] (dn [.M 1 2,.r [.n 1,.B .leq 0 3,.G 0 [.fn 303 [] [2],.k 302 [4,0],.u 0,.R 0 [0]],.z ff,.R 0 [0]] 1,.Q 0] [x0,x1,x2]):=rp func260 [] [] [5]
abbrev aed:=rs func266 [x0] ["EjE^:qVpvR0whT]=B6"] [] [3]
abbrev aee:=rs func267 [x0] ["PfLeU8@suzE_7bbsGB2"] [] [] [(2,1)] [5]
abbrev aef:=rs func268 [x0] ["wfLeUm^QC6gJEq/tGB2"] [] [] [(2,2)] [5]
abbrev aeg:=rs func270 [x0,x1] ["ECiNHWv:F`P@JAlneLONhMU>EOnw.K]jIjmpTNlCLCCbNJ=Tntu/_WFLUhnD","4PEA68KF1.l0D^Un0CVu<rRZ1EN8kv[CZ0eAVG_3:tYff3ASnd;]:[]0ukW5","045GgQx4JtErGRYkugKP9]_E[;eA>I@jNAjH@4L_8akS0TnseZt8RbT<dWKz","TfAwLR2/f<k./t?[5lV_a3"] [] [] [(4,1),(9,1)]
abbrev RO:=rs func273 [x0,x1] ["JLgGzTbcu/M_eL?tLy[D0WWyD`yWEx;2z8/2QdZWVFI[T@m=cQRlMm`LxHf@",">5>c/_zE4].APWBHzt00Tq>59xvd?=?WUkRlr6QuN<1xYqNAUf_9GkRnyDyM","o3^ROZukTj.FKA4nb/riy`[J@7?;rd[_1I]XMb20Vt:q^wVso8J^^6qv/yzy","B5XkKl:5XqnV4ZMpcbwyHiYdtGwl_;UVxGpFHM4:x@]e7uhEqcRTxse03;YU","gm4SUTG5go^FX7DNoVn]2>j2t_9rU4uCw`qMA5"] [] [5]
abbrev aeh:=rs func314 [x0,x1] ["EjE7W9oLvon@bV;2_mYr[nQu5GzZrK4=FUSMHW?nIU^Rs>3vq^qdt:]Te92z",".kkr/@J0qN?5iUqk4X>=:LkQy@M7QIblwy7HcEtnaeOJ=N>.zSmoVRr[E3DU","v0o;5gRRT^U7XOd5iAU7"]
abbrev KR:=rs func318 [x0,x1] ["JmnPly/gq[t5I3JdXGv0;TJ6KHGf/S[muX6zf?D`pbei65.lG;9Bi;[CuI:G","=0a7Vw]lWu4xOO0fe9RRN<>.Ez>qwOZxfcPwapI/"] [.N .map 0,.y2 λr h=>Be ⟨false,1,[1]⟩ (I 0) (nv r 2) (nv r 14) h,.z2 λr h=>Bf (nv r 4) (nv r 0) (nv r 6) h] [] [] [] [(4,[0,1,2,3,4,5,6,7,8,12,13,9,10,11,14,15])]
abbrev RP:=rs func319 [x0,x1,x2,x3] ["[o<:ifISBxf0T<y;yEcISN[n@iL0RvNgT7WsYG@]o12czi;g4"] [] [10] [] [] [] [32]
abbrev aei:=rs func320 [x0,x1,x2] ["E0:.j1d:kK[QaMhWT6Zn_ses=/7:ntHFiElU5ZdQ26j:7Tw^j06._[HKuVon","ltaOFhQNH<2XQoB2ss]N:nzP?.2Bnu]l`F.W?t5TM@j5pJWfq.uQlPUTMi0x","`HlK:BD4l5oOW8mT4?zqE_z5C<aNKLyJhl.Ypl2Uw`=OvX0^.DValL1;hYpG","289d.7wSxb=CO"] [] [] [] [] [(5,[0,1,2,4,5,6,3,7,8,9])] [18,28,32,36]
abbrev aej:=rs func323 [x0,x1] ["zsl^u>aZopAyJos/V@b4Xo@s;r__>K@=<[wEMFh]q<u2vhpxvYUO:@x<t8si","<k</8jgp.0GlC[L;u@M3vQjLz^K:nZy1jX=h4sjnh9sp:U3;J;EKgo"] [] [4] [] [2]
theorem RQ:dX 335 [x0,x1] (dn [.L 1,.v 0 [1],.u 0,.Q 0] [x0,x1]):=rp func335
theorem RR:dX 338 [x0,x1] (dn [.k 93 [0,1],.y 0,.B .geq 1 0,.Q 0] [x0,x1]):=rp func338
abbrev RS:=rs func341 [x0,x1,x2] ["ECE:zy30FK`URJ/V]`R:?NWObSYQ8pBKE3BfRyfyrfIX7SrzuR/EpPQeCNXF","68GDTwIE"] [] [] [] [] [] [19]
theorem aek:dX 343 [x0,x1] (dn [.n 0,.y 0,.w [.l 1 3,.c 0 [.i 5 2,.v 7 [0],.c 0 [.Q 4],.p 4,.R 0 [4,0]],.y (-1),.Q 0] 2 [0,0]] [x0,x1]):=rp func343
abbrev RU:=rs func364 [x0,x1] ["qFiNTK0:7<^r9:=J@C"] [.x2 λr h=>Bh 31 (nv r 3)]
end
section
open Go.Proofs.Tryz
variable{x0 x1 x2 x3 x4 x5 x6 x7 x8 x9:AV}
abbrev r5:=rs func5 [] ["3;b5d/R:e03XAhR_kE[:zE8FW7Dt:VW[3UAF/>ho.7Wd79yZ4jeoiNG60lXf","I=v]X^g^dYgQIwbHG8JC38N^pPJql:ZWF9pK[epYlXkCQ6>qkXnCA@Ick::N",";k.Gw>_bOunaKn62Nc4lY3SC3caih65.QtVO2ut4Q`y[b=g7auU@R>wTBr1y","1YzKldFVKl?J2^ac^jS3W2:zAiP>x5CPw:UahRgEGpscdGerj2el7Jf_1l4N","s.`qWL8p;uMlSm1_/>knELrje2>[D:5Lc;v2IQwwOUqQ.^ymD:CstawrdWQ_","nju1Nh_s]P^5cz7HPkHaHBnZ8c=jQ[@n[v.8^RpXnjRgVyVNiPwzsgA26Ff6","Bg^>jNimp1r5QC2"] [.z (.str [97]),.z (.str [98]),.z (.str [99])] [1]
abbrev r9:=rs func9 [x0,x1,x2] ["Xesk]3<<4v54kU/mkp9/HUmt<y78^4<w.E_T:`app^EB:ZJwuJc5QfL>]<K/","7yiOKRioIMxVT=H"] [] [7]
abbrev ael:=rs func13 [x0,x1] ["wKBgjquueFsdbKx8Rc;OIulXQZEI?=:<KwCFBf4@Vlc3yV/7niHk:yK8<8@4","G9/n^BzYuncznOopIU"] [] [] [(4,3),(5,3)]
abbrev aem:=rs func22 [x0,x1,x2] ["EjEJf:Og6LaTt64FqTMzsWmJ[iaP8SYBaY:hzA9HkT]j.Mm^C3gzE[[hB212","x=/8<Johafn3Jv>B_AOoaMsxwktubdkm`]3"]
abbrev aen:=rs func23 [x0] ["Ej]tze5cCZocG7=tKtTz1n6tJdWmv.`yNAAAfsN;uRGS7"]
abbrev RV:=rs func26 [x0] ["EVkfGpcxDY7F@UY0G^N58k=b?:=^=Ee<VVBixriaQNkR<ToW2lAzdxN1=w<x","OBw04>.WZI8GMk.n;Cx3KU.t2;mfTvu0dOVY@hK=ojqK[e7p@D]3Cgge/g.i","aa0PH<QGM1eb^jDIqBYekd:D<YYNNkw1s.IfsE[nWP9=1QE2ZdwT<MwVT?gX","GUnf<[U7n:Vh4z.suH1Iw><vPA?7b`>T4cQ@Zlu<T?cbwbO<dF=l47.W/b<g","KevBlS6p22<LYTk2w4^0FEEUK10=<5P=5Hoi>:GKKgZX4N7<E3@Nef]o?7ky","LjvB.TE/"] [.x2 λr h=>iM ⟨true,2,[0,0]⟩ ff false (nv r 15) (.agg [(nv r 1),(nv r 2)]) h,.z2 λr h=>jP ⟨true,2,[0,0]⟩ (nv r 19) (.agg [(nv r 3),(nv r 4)]) tt h,.x2 λr h=>Bh 31 (nv r 0)] [11,14] [(2,1),(18,1)] [87] [] [104,109,113,151]
theorem RW:dX 27 [x0,x1] (dn [.I 3 0,.L 2,.a 0 1,.k 28 [1,0],.Q 0] [x0,x1]):=rp func27
abbrev aeo:=rs func41 [x0,x1,x2] ["^ooRWmn]/]yw[TLwCRi9ed779"]
abbrev aep:=rs func50 [x0,x1] ["Ej8vLEJL[fyzvV<0.qIS`N0HJ8^N_liYhSfw40b.G@LCOB4=Swl:74MR`0<?","jnAW;Sq:U04D46Wzo/c57QP.j4M6PPKHVrL/=n>hL;QydaGokAP4[d/xuZX5","CreFLI;fIuiCsrAg[uE2:x/9I1Jrn9YoY0.J.0ZDaAiByDc.dOsk;fm0qJQ/","uqv]hVrv[w.ittUywrCOtfT>7_GZ7cSgxahYfP0s6HhYY8[JO]sVX_Og^z>v","`"] [] [5,7,8]
abbrev aeq:=rs func55 [x0,x1] ["lcP`uN0Mu_1.l^V?87HiF]n:uc@];PAe?9/_tXIutsEYDd>k2IM8>YTGPfap","q[bzyja7X]jx6o1kHXhU_;HdgOc.[s1=Z?;.Ns_nDZ2VKpD40syrRO6^t0O6","=uG=O0;qOBL7:`z7lDOXolvP_1OpOK>v]7xBAHaVH.B3d9zWMHwl5GaPK/0^","S7k_Fbm/?ces0?E0"] [.x2 λr h=>iM ⟨false,1,[0]⟩ .aq false (nv r 0) (nv r 6) h,.z2 λr h=>jP ⟨false,1,[0]⟩ (nv r 5) (nv r 9) (nv r 0) h] [13] [] [43]
abbrev aer:=rs func60 [x0,x1,x2,x3,x4] ["nlaEqpQ6e4w7IthvJOj@Pi9EklpsRzUnxL2Ko]Sv;hLN2FxtUUIetfgZpmWZ","S=]DjnUWq=avRJ49/Q;`8<Ai@]o`6JrT6Oa31T2l?:lHLB"] [.x2 λr h=>iM ⟨false,1,[0]⟩ ff true (nv r 0) (nv r 1) h,.z2 λr h=>jP ⟨false,1,[0]⟩ (nv r 0) (nv r 16) (nv r 1) h] [9] [] [] [] [34,39,46,51]
abbrev aes:=rs func61 [x0,x1] ["Ej]:vkCG[zzPpzEm7:<lpP7.xJYI>YjMuvSrk]^VP53uB/kBz^5@sw6N8]LC","ncPns5iG0x6oc4m=E[Sq@MwZIXH7sFO_GK]1XTJ5@Nko;mh//"]
abbrev aet:=rs func62 [x0,x1] ["E0;QuXu?nvV9UI3DnwJ`IIf.h=U8M93qr169qz`e7uB==laoK8=j:AJE3dRk","0f>B]1_6iQ.PgRclWsqv20xCd4]2wgGgPvW^4b?G08q_3Daw;zFpW9VQ6jt0","a8<qMr4szqk<hznr4c9/_K<sQ=ae@lnO/A_:Jxw_0Ml`yK<nYpztVb?8PBcU","IbrpCw@.FpP^c[VpH`AI3o]AvH=nC=y@EcSWZl@HXQ6kr3"] [] [] [(4,3),(5,3)] [57]
abbrev RX:=rs func74 [x0,x1] ["N>BYEnzxG^Y/"] [.iV [(132,364,none)] 0 [1],.iV [(17,358,none),(132,75,(some (1,false)))] 1 []] [] [] [] [] [6,9,11]
abbrev aeu:=rs func102 [x0] ["Ejl@GX.>MABl"]
abbrev RY:=rs func103 [x0,x1] ["ECSpUp6A_5yq6rHyVY9c5"]
abbrev aev:=rs func113 [x0,x1] ["Xbg:Q<wMu8rAGT0QSGD]KQTVV1"]
abbrev RZ:=rs func124 [x0] ["PfLeU8@suvm9xefzFB2"] [] [] [(2,1)] [5]
abbrev R0:=rs func127 [x0,x1,x2] ["^ZrNNm:?HOP.A8D3ww1oMhyqs@LNl7z?>rkt1B:.SQ>8gEKHIz9mfD^xSzNt","FlD4W]Z2"] [.iV [(132,362,(some (1,false)))] 7 [1,3],.iV [(132,362,(some (1,false)))] 7 [0,6],.iV [(132,365,(some (1,false)))] 9 [8,2]] [] [] [] [] [32,38,43]
abbrev aew:=rs func143 [x0,x1] ["ECUeT8vE.EfAwhiHYnu`K7qqKi2e0pjz6;XU5lV1`y0?9S8JA76KSE6oJ?A0","=vWlaJOnOY>I5rdjXBFqHIwhU4>WI19>U=c[/PRj8^1p_Gr.3/wo.`vax7`7","mB>cD2/RqWpK7Nw6D5[0P?NbOm4_eI:NEnGJiJ3ruo13M<ym?r/8aqawAFoX","jN5D_=^^oYK^QjZcAt?hMt]4mA8DVkHPIC=B;EX0pT2Rp00"] [] [4,7,10] [(5,2),(6,2)] [] [] [24,47,66]
abbrev R1:=rs func155 [x0,x1] ["lOiL[>Z1zGTCGu[bJ=Bb3aMa1Tt"]
abbrev R2:=rs func161 [x0,x1] ["EjNZrtGFBh]jEqX]J65QvqTiF/5"] [.x2 λr h=>iM ⟨false,1,[1]⟩ (.agg []) true (nv r 2) (nv r 0) h] [5]
abbrev KS:=rs func163 [x0,x1,x2,x3,x4,x5,x6] ["z4UW::o^r_G=Ub/x?KRO/Z]jdA6oNSgRSrx>8/MFPuihB8VZFUA0"] [] [] [] [7] [] [14,26]
abbrev R3:=rs func165 [x0,x1] ["nYFlX9B/"] [] [] [] [] [] [5]
abbrev R4:=rs func189 [x0,x1] ["YSfj27"]
abbrev R5:=rs func190 [x0,x1] ["Y@k^CV^t>/N:xj]Bg91mzqzm8WpHTq:pRnr0;bs"]
abbrev aex:=rs func194 [x0] ["EjEqoT0lHx6S6@:h9H@tZqm8G8M^h[Byt<5m9Qaf>7G50b</B_eghs@d9Pl>","8FvqEQCiJ:^EhhF0n;^RFpOcDrsP:4JS_DifF`aglP`^XWCPAV9ag38uf0._","7wvw/a6e<UyWB2vrcATN>]FlWjdODXm2eEYNgJmlL1S?v4qyY`O28@7Q_?y7","tc8"]
abbrev aey:=rs func195 [x0,x1] ["EVwW;ns7qj;iSHTTFgWNXLDqRuT>0>fhf1"]
abbrev aez:=rs func207 [x0] ["E0NNBLDwPyBBQMLNgCBIdBErSl:HOBVaMe0fqZFO297?wfxqHF63yKK3pN3l","UfLXkOf7Tg?@kBvtKd.rS;`MKbmW7i;j8:vZ0R3JD7XXmVJ>HE>ay4IstaPP","];_^dDHCk9aC?mZHVLI31[99K9X9^5HYic`/:nOgv7T>aTaSqgp0"] [] [] [(2,1)] [14]
abbrev R6:=rs func213 [x0,x1] ["lvuvLO?vSxF^/`X<X3RWtcFsf?A@7^B:dfwA_YO0"] [] [5]
abbrev R7:=rs func215 [x0,x1,x2] ["5KYQgfY:I_yNc;Xu9nCNuU[ZNUK4Ng<.]4HdyN2BOIxvyQgV[UHbO/@a.A[w","KvRJcW<PHm50"]
abbrev R8:=rs func220 [x0,x1] ["lk^0jDt.<Cm2p0irbCQDDq4`@spF;uC<7xPRG?SoKyvp:"] [.x2 λr h=>iM ⟨false,1,[1]⟩ (.agg [(I 0),(I 0),(.str [])]) true (nv r 1) (nv r 0) h] [4,6]
abbrev aeA:=rs func225 [x0,x1] ["EjYieJ<BEO^;D@wZT>4:O6b9;P>?K/575cbyq[J;wU6E"]
abbrev R9:=rs func227 [x0,x1,x2,x3,x4] ["aG?k2rf60hepWqr/du:QtT;_DK5mQj7alpHeTFPKyJQij;L<n[o5Uh[zTMP0","a3<>lnkcA@;Ogl=jou<_?a/cIs:E7MrBcM=;7[zBlcrvydoyvXzB]o6^mX:;","y^?ItJ[WmgPPM;_HbpGdf;lY9kspXlAv<kFfKa]rXYph;[MO7k.b4U4@wSbB","5a7O4g?]2w.uh=LC[96H@SmFT:M02DPD;H_.GQ6nN3r3]xG:PE=@lXm6Vknk","vHo.d0kq7jrjBBtCj:8Y=1ks`odPho[9"] [] [] [] [] [] [30,37,44,52,61,80,103,111,134,146]
abbrev aeB:=rs func233 [x0] ["YgR28nK3Ir/^tpb7`nH<N0[1Gb`oByO"]
abbrev aeC:=rs func241 [x0,x1] ["^j@xn>^xzdNCoJt>QZ=jgO@q>ztf"]
abbrev aeD:=rs func255 [x0,x1] ["XbgM`=pw5v/HdJHiXU3G.kcOl<u6Wh[57F3H4jQHnoSS5/6OS2y/Dlrpvi]n"]
abbrev aeE:=rs func256 [x0] ["E0D;bzvs"]
abbrev Sa:=rs func271 [x0] ["PCI=pAGyRym`wRm1453hsgJ"] [] [] [(2,4)] [5]
abbrev aeF:=rs func278 [x0] ["ECkm_7.LWdrE7m_`aw5_ct^Ldh6?OHYUgU9e[VKH8?PbbCz@T..pcY8G/_S@","32:glf3uYFx^j1^F=`[YD/0LkpV0KQ>O]nygVhQl1t2ag@cME92OEU1Q>jMs","XPF.l>4pmf/Woa[U9;Y`5Hn^SK/jWlI4H_<D0vkmP5jTR>y8Lb?JHDxwV@x<","]`=0@kYk>Kt;<0@_Xigw2LH.uvr<OGnWoU]U3BKLr9@aRgVlxpNuBY]0d[T5","ki3hY05vf]]HjLiZefqIRfA6RFete9Gwokk5Lo_@I2DG_A4h0s@w0Yp0QDO7","M5lV:mR0f@yFhk.i?yvfHoA_^hn_tofhY0]B.1u:UP3qKzDyT4sN9KxaAuz]","An:TM]SaqCxM@tM1;UHh>j6GV4VrqpR6XcDTRS<;0/K:clzlwS`05n_U`2>v","FlZDCdLP?HffV`dfXJWLIPugb;wZo5qm5Tll?:TecDknJRNrwPaK_]_QQGR9","dV:;hV_s.idz<iqUCzgZ^;EgFIyUlLTFfHVR4VaqHM]P7TIpaKh4gIHoRcwF","..Zu6ZBJp4>5wsgO1w1c=AAQo;OcFuQW?DH/twp^RIfath9QP_=68iHnNRIm","UhGqBtbt>u]5Yb];CgSoyPaH;t>KF4jPByu6okxgy@tlrB1tkm@EqltiRi[@","f95xDbOB0Z^Qupz22XXu.GUyQzdw>Dnb6RxAxWK9Uja</L_2gfa<V_AMCe?n","Mh9Qr28l:y??Qjc"] [] [2,9]
abbrev aeG:=rs func292 [x0] ["^@AX`HjrqXM]I]USm]1BW1C2^?<Mmqb6fbqTZj[e9hgid@2K2s2/<i;P@_b9","bn9hyiWJUq=fCbVkdF_>cEa8]raS12J/=aHEG1cx4D<K>8NbT:7KKNE^HO2V","uf3p>tQ5ezK]@lqm1=RP6v;eyJ9sO1w`zUL/N/R53G@4uSI<:Feb3Yi:CfTu","w`ieBn5nRl"]
abbrev aeH:=rs func293 [x0] ["E01?BeEx2AK@afIOz.0k=a:Na=AM;NeR_Qa^ZX3j72orF9HA"]
abbrev aeI:=rs func294 [x0,x1,x2] ["EjcRN;W.t[RSuGEtEOX/1xHbup:^/k^d?O0VR9:>ao`bvs9;`0JT1^R3>nA=","q0@7mn4iV^d]i>ZreIkKexysGShh95GmnXgrJWC@zP8CL<?OFP74"]
abbrev Sb:=rs func309 [x0] ["Sp20h@dqI3ECd"]
abbrev Sc:=rs func321 [x0,x1,x2] ["NCQwoYtv]7wAnBfGrP/^HmvLA/"] [.y2 λr h=>wb (nv r 0) h,.y2 λr h=>tX (nv r 2) h,.U .b .eql 0 10]
theorem Sd:dX 329 [x0,x1] (dn [.n 0,.y 0,.w [.l 1 3,.c 0 [.s 7 5 2,.v 7 [0],.c 0 [.Q 4],.p 4,.R 0 [4,0]],.y (-1),.Q 0] 2 [0,0]] [x0,x1]):=rp func329
theorem Se:dX 333 [x0,x1] (dn [.n 0,.y 0,.w [.l 1 3,.c 0 [.s 7 5 2,.v 7 [0],.c 0 [.Q 4],.p 4,.R 0 [4,0]],.y (-1),.Q 0] 2 [0,0]] [x0,x1]):=rp func333
theorem Sf:dX 334 [x0,x1] (dn [.k 344 [0,1],.y 0,.B .geq 1 0,.Q 0] [x0,x1]):=rp func334
theorem aeJ:dX 340 [x0] (dn [.x2 λr h=>mc (.str yh) (nv r 0),.x2 λr h=>pU (.int .i64) (nv r 0),.Q 0] [x0]):=rp func340
end
section
open Go.Proofs.Tryz
variable{x0 x1 x2 x3 x4 x5 x6 x7 x8 x9:AV}
abbrev r3:=rs func3 [x0,x1,x2] ["EjjXU^DQxN6W3c8W=juApTazaNOI4R/^TNZHh4F?[?rnr=xyQ9m4BFUSN<;F","jC2cx<>n:9d2[SUo@T@GS;PoshaMA9xZbOAm9/d;Tx7ciVpdT;CF_Fss?k/[","0GiJekB>SGKT3wK`/>EMPDzxKH>Y<<jBcF5[0ZlHKGg83:eU>Px7L=az1FIf","SP6:KuWo[AF4L=;AnjXM<OjZFH2_d25o6?U=DkXK;L:p4oHPzD?XWX<>^p7L","SDv.yCRx3cE`0Ob</cxxoBPKl2J47K`0bM0G.f3=^Xtmh3juk[m.IHKx6@/^","S1pVq]Cn;3^g[i=xZM>wFER2D^mSh`X=OT;C[Od5w1X2ZW.NDjia7;h0b;Cc","3y^FJ=nQSBXGC7;k@q?<HMHwJs"] [.B .rem 1 0] [] [(15,3)] [112] [] [140,164]
abbrev aeK:=rs func11 [x0,x1] ["8jZXPo0`CC7I>=m@;>]m:YhW^a5"]
abbrev aeL:=rs func24 [x0,x1] ["EVYI2tqYd>D].mN5uptJ8P@pBO;`[fAFe33N?5HhYv6D^AzuFoEG5>eLB38z","/sQZS4<DOn>3"]
abbrev aeM:=rs func32 [x0,x1] ["[x.1b2fb@cEb;kiJO.K@5"] [] [] [] [] [] [13]
abbrev Sg:=rs func34 [x0] ["P.y1UwFukxL?z1VWswf?zQLPW6gBjxR<BU@CC8CaA:iYN:JbM>.dKg`M9J9`","xgjM:"] [.z (.str [108,101,110,32,111,117,116,32,111,102,32,114,97,110,103,101])] [] [(2,3)] [] [] [24]
abbrev aeN:=rs func51 [x0,x1] ["EjEq5wM57LaTt6GQjf7>m72pw9M?iOe8zw7bzftI9JPZZsWmq>jMJ`zRH@i_","vHogk[6JPzuu_b.iR;8YwDgQ5PrVxzSp7RAQhZZ0xwlbJls:GeEzs9Te9]z@","fjZ^PL598@W]LRq7fv=joYd]10VJ22iB>>6W63cfjmM?zTUl_IUz[=XzVYRA","n=YKZy/"] [] [16] [] [27]
abbrev aeO:=rs func52 [] ["XQ0davrHf^V]:QZh0H7"]
abbrev aeP:=rs func53 [x0,x1,x2] ["J3FKQOh=GEy8gdHl35sK?FvwsyE/"]
abbrev aeQ:=rs func56 [x0,x1] ["wr:2/zCbiNVDPlmnI1v1;do.pL59s`eVLsvF<mejt.H3n=7]XQcF.Fh/vF2>","z3O[7VsJSe5<J<k/YI?E@0UM2HQB/sVcnx8Bxq>GXoLCk2Be=;.GWEwp[oz3","F6@Ng2hrVM=IP2uCkZS/pVmBvMqgGJ?Sp2``mBG=e"] [.x2 λr h=>iM ⟨false,1,[0]⟩ .aq false (nv r 1) (nv r 0) h] [] [(4,1)] [15]
abbrev aeR:=rs func57 [x0,x1,x2] ["2VOpfWMC?;W1q[>qy</"]
abbrev aeS:=rs func63 [x0] ["l<NTj?P96/;;iXJ1lMzQAtO.h.VTLKAxfN<CAr0XlNrrzi.158I][^EbIBvJ","S:FJLVIuz>dS]HyR.tz/Zzh4Lc?jK_5o@pyY^oI]Z[5_KkN`oE0zg33"] [] [] [(2,1),(3,1)]
abbrev aeT:=rs func66 [x0,x1] ["Ej8vLEJ`CJE<olaMMjEkEmUIB5K0^9^L.5xqSIv7r`5JH/y2ZOe_;;czLd.h","cR4mRUbQSak@kIVU9fc2O[P^HaQS.TXPe8Z=4]ux_0t<tI`kfL>nkmM3UilN","r]lDQVVRG0pNLh7j=rdk@QPtm0f?g?K=c@Mxl`ic=S.SX=E_pqQ0[aiC=919","ZID8YEijT?5"] [] [5]
theorem aeU:dX 67 [x0,x1] (dn [.k 78 [0,1],.y 0,.B .geq 1 0,.Q 0] [x0,x1]):=rp func67
abbrev aeV:=rs func69 [x0] ["w_8y7t[f.h[vDs9F:/ITuVzEj@rze3JVdc`O64T2tD2Y"] [] [5] [(2,3),(3,3)]
abbrev Sh:=rs func75 [x0] ["5="]
theorem Si:dX 77 [x0,x1] (dn [.n 0,.y 0,.w [.l 1 3,.c 0 [.i 5 2,.e 7 0,.c 0 [.Q 4],.p 4,.R 0 [4,0]],.y (-1),.Q 0] 2 [0,0]] [x0,x1]):=rp func77
abbrev aeW:=rs func85 [x0,x1] ["Ej_7`rTLlzDv>z89TFCe`9rdRDQ]:TWr64yroWKKdzbIFdyUqGXvR`=967XY","zvm@>>g=n2MLFl76M5UO9l1M6uGHV[?`5MKYvqFSvJqR.mJ/Y>xiRKCPd5G0","4Z5Ylc@OCs7Tb];NKyvJbadn?UI[J3H4wU`hNEdXQu<8wSdy_wF@dHo3[v^s","Qp9Ftzz0uBbxcSCh15^JN_3gVRhUtKHmb5Z_qA[uX0jPnNgp6JtrvGiGB4nW",">?kBau88hLkE]crbiPT[Jo88MZ[J:77jGBXr4HW9t5F]?HoMpiTzKT9]t^j9","_>EL3oXe^y5zHL=?7/E?B1OpIuv9rY`emRIUZ]VmWYg9<qO99aEx?1tK[[dH","a.[UG:;PSItL5>.BHRxXYBEjziriB87q9IECgP>3PFg2TYYwbxY<`=.:>4`p","3?64KR4BYHbj2.rJllX7xq<x/Pbj?0>b_xL5]=bdIuGn_BLUjgA7LDgET]5R","3X/1UfWEQQ4IC5yK195..vj;OimA^Bt51n7Wm/P;NAWeN/=:x.PNZZ2NDF_A",">Df;6/hOW.[]igovUeeOjB41/eMHdi=t93rSKhUiIh36@Y4rNYK5x3^iWXe0","DrHJKY0"] [.U (.a 2 [0,0]) .neq 1 0] [6,7,10,11,13,14]
abbrev aeX:=rs func87 [x0] ["EVkf4s@9;<TCnfVqn=qs.e3mD.F]Rct>1uy/UFoS?x9?njIi]Zg^WL]nK=>w","CjUX8kqA8KtPu1cw0`SCIC7KUdR7:EhZM87JiObEsU7<:nnajN`RiPhz]TTa","NMsu]WZj?7qUz10a61"] [] [7] [(2,2),(3,1)] [9,10]
abbrev Sj:=rs func107 [x0,x1,x2] ["zUPzCD:jLQ/Nrko:N634kAaiYpTUFjyd_Hz@6HM`NiTV>55NNO/6poPlLAMp",";oiMU:oC=:nG5PJ=a7MRZxxYPgMqQ0uGpIud9;/M/IQRkv8JHQqVvz>eTEay","tXeU27=EEuAqEhBFP.`CK7co74@]_OGog<jfwy=XG3Jp6GukYZ/bRmrN83mB","ZwK0c7;Gojmal2rMQVuXE6V^FTVwGsbbgAb>cly0T4ywbfB/be@y?W]Q"] [] [3,15] [(6,1),(7,1),(12,1),(13,1)] [40] [(16,[0,1,2,3,5,6,7,8,4,9,10,11])] [44,46]
theorem aeY:dX 108 [x0,x1,x2] (dn [.q 3,.q 3,.n 2,.y 0,.w [.l 1 3,.c 0 [.r [.d 4 7 2,.z (.str []),.e 1 0,.c 0 [.g [3,4,5],.f 3 [10,10,2] 1 [(0,0)],.P 3 32 9 0,.R 0 [0]],.L 14,.L 16,.k 109 [0,4],.s 3 2 0,.f 3 [13,13,5] 1 [(0,0)],.P 3 32 12 0,.R 0 [0]] 1,.p 3,.R 0 [1,0]],.Q 1] 2 [2,0]] [x0,x1,x2]):=rp func108 [7] [(4,3),(5,3)]
abbrev aeZ:=rs func115 [x0,x1,x2] ["ECi`YdcJNbIfemkd/[a4CBs13YnKhzu5aJDaJGGp^rTNepDw/"]
abbrev ae0:=rs func117 [x0] ["lH?I^aADPmT2rXN]_JAKVFR@gJK:QR:HaO[HXO?I<upsnsx]BAT;7K9M1bcU","G/kk[uu4Wi/"] [.y 9999]
abbrev ae1:=rs func118 [x0] ["PgLeUT/1_F84mxAfIB2"] [] [] [(2,3)] [5]
abbrev ae2:=rs func119 [x0,x1] ["qrdqM6vouVQr3AG]HBftCSeVhq@gmjLW]63eTgf/_`kA"] [] [4]
abbrev ae3:=rs func122 [x0,x1,x2] ["EjXExj7W61li`IwWlg7/"]
abbrev Sk:=rs func138 [x0] ["Hz"]
abbrev ae4:=rs func144 [x0,x1,x2] ["wlcbY=^mvKDMX]MFbb;NS5yAt]hX5.CFH_l8DHr48"] [] [] [(6,2)]
abbrev ae5:=rs func151 [x0,x1] ["[?;Vz3vnt6<uh2EMDc^H3:zQs_:fnpbafPt/0"]
abbrev Sl:=rs func153 [x0,x1] ["lOi`j?fA.PXgJ.AI=2BuxTzz14MHpx7S9ZN7OD9R.ZZFhO.4oNaC"] [.U (.a 4 [0,1,1,0]) .eql 2 0]
abbrev Sn:=rs func157 [x0,x1] ["Ej8vLEJ`CJE<olaMMjEkEFs81mgu8Fuv?/mrevBMLIW`5Fa/E>/1>aqO=BTn",">uyk^tC98]vWp.?GuV=x:8mktLm1lay;Rqlfab_e=Ed8jZ/F=8>^LiMlqbOI",";0y2:zYgsn?`U48R2??<eG.GX;M/BxHWm19Yh^zV`_q^^N.ijaHNxOL98V.8","X1OlKr=FQ_HWzg9J:>23B8:IfO8gn[1mDl>G^=u@hoP`X4aDkHxqQ=G7"] [] [5,7,8]
theorem Sp:dX 167 [x0] (dn [.r [.z (.str []),.e 1 0,.Gf 0 [.N .str 2,.y 16,.B .gtr 1 0,.Gf 0 [.x2 λr h=>mc (nv r 5) (I 0),.z (.int .u8 97),.l 1 0,.Gf 0 [.x2 λr h=>mc (nv r 8) (I 0),.z (.int .u8 122),.B .gtr 1 0,.Gf 0 [.x2 λr h=>fA (.arr 10) (gv G0 0) none none h,.k 162 [0,12],.R 0 [0]],.z tt,.R 0 [0]],.z tt,.R 0 [0]],.z tt,.R 0 [0]],.z tt,.R 0 [0]] 1,.c 0 [.z ff,.Q 0],.fn 222 [] [],.k 223 [2,0],.u 0,.Q 0] [x0]):=rp func167
abbrev Sq:=rs func171 [x0,x1,x2,x3] ["lJHeKt7D6z;l@n5rGnSOt3T>P6eGX]bun4GaekC0i_OowC<<ce7BWkvgvxcg","0NVMk0:bb==v[PzGCaqc7tCfr[PZsO@jn7Em6FMxl0"] [.x2 λr h=>iM ⟨false,1,[1]⟩ (.agg [(I 0),(I 0),(.str [])]) false (nv r 0) (nv r 1) h] [5]
abbrev ae6:=rs func178 [x0,x1] ["ECSpUp6A_5yq6rHyVY9c5"]
abbrev ae7:=rs func191 [x0] ["lJSx0T5.`H9O_b@ziWh[7^DIa9.ZO0b0RL9O2w?7TmJtKwO1;IHF4BzXYGtn",">DIYmdOl`]oqw4O[hqqZ^b3ZeJ5dejBWqPF=@1wT5ko94Q3r4<GkMJWUe_`S","Yl10"]
abbrev ae8:=rs func197 [x0,x1] ["EVPNZh2ObNrrqTTTFgWNXLDqRuT>0>fhf1"]
abbrev ae9:=rs func199 [x0,x1] ["ECD1Df]XKM@p`D1/lELKnMV]:m.=arUYTnI4oWqc1F??SB?9T5frc.v=^sCT","APrs7QSGRW08aS[RzEgdCC0Mb4l?sGn6.;yb]sKmB1ZEGK]/@j>@V24VE45S","8xcH`NBIy8o76cr`^tsSCe/ZkIqEj04IZ=@vwe4al2]/.yqZhG^5ZfAdV4lC","X6@C1A<SMUr8N=s22NL/1Xe]_Nhy1w`h^9QrgUnu>Hw1dYdKjI=.AYXEZxm8","=qg5iOQ1l9G@^lubj7CCHlf]PSJiHmO=dNlwULjX]X8J7QbnKX@Ymu_ty:_m","zNfeo5`Nj8LiAPP7pi=VBB=x9pO?6lZ`>=nYiFChn]m=@=@Ldguw//flm.mL","w2=YiKB<XIBGciqWkP[C=5GKZ>e3Xyv^82YIRysBA`=^IUfrvm[0"] [] [3,4,6]
abbrev afa:=rs func204 [x0,x1] ["X;0^He?<vj001_di>p^.OaoVv98pev:dGFYdRM>?jJQIAeKj_MbBehqWxuOm","AKl]KTpcQ1hLN8.aAKp0>WMpuMYN"]
abbrev afb:=rs func226 [x0,x1,x2] ["EawWK;<O0^SHt^H:TRt9aGD^m9Tb3=I^AGnZPZ9s]c8vM:;w9[?/bftG/"] [.B .andNot 12 0]
abbrev afc:=rs func259 [x0] ["lJS>f_YVY`kF<nzRNKG1yCRX@]cfn=>0J2Ql4O4PoZu1>MIyRRfn`QoxjE:@","Y]7/:Qd@NQw6zka4N67:d/by@L@<2v="]
abbrev afd:=rs func295 [x0,x1] ["ECE:gD<UGEMgu;nBv[uxPEef2pL:mjm2DPD8[1"]
theorem Sr:dX 298 [x0,x1] (dn [.k 329 [0,1],.y 0,.B .geq 1 0,.Q 0] [x0,x1]):=rp func298
abbrev Ss:=rs func300 [x0] ["7xk2l=fodxF`G@y?v.LgLW/5v]hxcVs4;bTaa3lfv7bhh4UNQZ5/JOFG1mL6","@UJJG3/<ohUK.pUrojO9/>iJPSr:/"] [.z (.str [108,97,116,116,105,99,101]),.z (.str [102,117,110,99,116,105,111,110]),.z (.str [111,110]),.z (.str [98,97,115,101]),.z (.str [118,105,101,119]),.z (.str [107,101,121]),.z (.str [100,101,110,121]),.z (.str [110,111,116]),.z (.str [105,110,116]),.z (.str [115,121,109])]
theorem afe:dX 301 [x0,x1,x2] (dn [.M 1 2,.r [.n 1,.B .leq 0 3,.G 0 [.fn 332 [] [2],.k 331 [4,0],.u 0,.R 0 [0]],.z ff,.R 0 [0]] 1,.Q 0] [x0,x1,x2]):=rp func301 [] [] [5]
theorem Su:dX 302 [x0,x1] (dn [.k 333 [0,1],.y 0,.B .geq 1 0,.Q 0] [x0,x1]):=rp func302
theorem Sv:dX 305 [x0,x1,x2] (dn [.M 1 2,.r [.n 1,.B .leq 0 3,.G 0 [.fn 335 [] [2],.k 334 [4,0],.u 0,.R 0 [0]],.z ff,.R 0 [0]] 1,.Q 0] [x0,x1,x2]):=rp func305 [] [] [5]
theorem Sw:dX 307 [x0,x1] (dn [.I 9 0,.L 2,.S 9 1,.v 1 [0],.u 0,.Q 0] [x0,x1]):=rp func307
abbrev Sx:=rs func311 [x0] ["E0Da6G9qOVcY@tLbyATby?Rc>fEy/41RbN].i?ur;x>JgwoA"]
abbrev aff:=rs func316 [x0,x1,x2] ["qr=jpD5qa3rsyKE"]
theorem Sy:dX 336 [x0,x1] (dn [.n 0,.y 0,.w [.l 1 3,.c 0 [.s 9 5 2,.v 7 [0],.c 0 [.Q 4],.p 4,.R 0 [4,0]],.y (-1),.Q 0] 2 [0,0]] [x0,x1]):=rp func336
abbrev Sz:=rs func363 [x0] ["qYZdr`LtbHJl6WX.uvjS4Nc7AmG6"]
end
section
open Go.Proofs.Tryz
variable{x0 x1 x2 x3 x4 x5 x6 x7 x8 x9:AV}
abbrev afg:=rs func10 [x0] ["EVkyi2X95ETO7H1m^?bjL:yG5p=Ky<KjKpD:dt0TOkGDEuSgq/Op_ijBaWe1","eJl]L`:^ED.?G2mR?Ay=UIv7x^BUBAQ:fiqib0kG/vc[8;8WW52h<p95R=kC","ElJ<w7Gtqj[;wc7oF8qUq0BEOp>`XY0[H2<f/ZzD;a>4Y<Nz^pyrKlaM92?N","BV[@mzF<Cg3u2"] [] [] [(2,1)] [18,74]
abbrev SA:=rs func35 [x0,x1,x2] ["lwI_oja<YQwBoCJX.pvjK9C9?l4A0Ke0S>V1@ATTbNtHjMWAsm=m.1TjHr4S","DQW>S1r=/CVjfzClT;"]
abbrev afh:=rs func38 [x0] ["EjE7D>s>uN?:KAp=>^>DHc[zzRRPsLY_=dYGOgc0qk1TvN62"] [] [3]
abbrev afi:=rs func40 [x0] ["E0;@JLDwPyBBQM`2zLrtJ8e15w2?aeY0u=Kd;5xNCkOiYKpPGSpLtytpK`o[","?xs9A;lH3EyTbF4@khYi6SEaL6.h4<E_/GV<_BKIJppJXf5m;gqk89bmn5fJ","mrPpMGuq>VoltO]I08u7B4=WQFJI5UGMunn.PGfOelUwxAiTlcQ0"] [] [] [(2,1)] [15]
abbrev afj:=rs func47 [x0,x1] ["EE7.zAp_QlnkruZ]`HI8ETE</XNEEEE:faWAD_3"]
abbrev afk:=rs func48 [x0,x1,x2,x3] ["zQO]y5Yxt4lcgCAXk1Vh0Y[lNux^wst[P7A/9cG8x@G8fyi6zFMM6`il;1"] [] [8]
abbrev afl:=rs func59 [x0] ["E.cpWfgX^tVfETY8v.r65"]
abbrev afm:=rs func70 [x0,x1] ["E8Mko=;nZBe75A9x:Rr3m4s1Gqez1.GugH@NHp8/kmmqojTI/B:9sJtoa>q_","np9y6t/^mTL`j`:q?MeFw6I4Dz1aq2]B0]H<_E5CAQfr`02K65iQ8toc]sEf","zvA=q9ky:1Dra0prDXW>kw=LiCbNEOj7?0e45G0N=5:H[/"] [] [5] [] [44] [] [45]
abbrev SB:=rs func73 [x0] ["EVWkR8tpl[EkYC[itwvecxAmIFvG17nkD@7eJeXMSw3N=x;_Ii=qjo9l[LsR","X8oHI@i6z88b=f.8quCy?JiL_6O[z4;7CElMNlBDpElQTM/l[EO7_F0ne[u4","kX8Fi</8IuGUg<G5KcLqYgY<"] [] [7,9] [(2,2),(3,1),(4,2),(5,1)] [] [(10,[0,1,2,3,4,5,6,8,9,7,10,11,12,13,14])]
abbrev afn:=rs func88 [x0] ["Ejlgd4[M@?Bl"]
abbrev SD:=rs func90 [x0] ["EjE^:qDjuNt3@KFF1M;HQu;heYM2WMO?I:ty6@[Kn<q;J<b<BEhaN:yQsB_n","8Lcsie5E.jyj8G]5DFipX><halhm5E^6<5@TDcri7?dI/8PCv>Ww/To2PHFt","zwnz^rIHSi@SCbH5I:H=w[>KXxng`nyGb_lEPIllfH"] [] [3,6,8]
abbrev SE:=rs func97 [x0,x1,x2] ["z7gFot4u;k_Qzs=C3ZJ2PJJpBl<rAe4.]_xaLFKAM;=b=^aErDs1wlR?.ij9","y:L4TkSzPZwlOwT0"] [] [] [] [3,4,5] [] [22]
abbrev afo:=rs func100 [x0,x1] ["[?;07uq]e1ZOe6Vr5U5qV`WQ[k71DKQHnIfw./"] [.U (.a 3 [0,0,1]) .neq 1 0]
abbrev afp:=rs func110 [x0,x1,x2,x3,x4,x5] ["SZ3E5Pr=bbX@wFG3Xu>3rQy.?b;zlclyV_E4WR77YR6bQzD?ymK[<l4j.7mT","q<L@8mVg:QaV=PZXOM]z>2F6fDR<jK3`XKSt^6b@"]
abbrev afq:=rs func116 [x0] ["lOSQLUIJjlPip9hCYQTOX1"]
abbrev afr:=rs func123 [x0,x1,x2,x3,x4,x5,x6,x7,x8,x9] ["Gq5lhZVYT//qZ=`6ME]Pww2;T3^usDV<em]TrLhC4gl4tA?n9UF;^RdR//j<","hga3Ug^<.qZW]E^Ua2COi^3vdR40Jx>v1z_y6vt?6l@P5b2oAinx=43itFz.","go;cjJxvzz0Q14bBqkL9>qW].pj@PfBrWV?sW50PXm/42/3Sp/:L;Zqx7ZAf","_Csd^ZNIr.DR3yHkaU^zkigMsH=EGs4d:4.8@bRsT3=jV0X2<y[nF<p`D0AW","YICxe8=f@37tDBuW:cHH[Bcp^x7JrfQgikAAhApzWpw:/"] [] [] [] [] [] [51,97,117]
abbrev afs:=rs func141 [x0] ["EC@V5[B;nzNXux]en=so@QNBHTqFgbWT.Zmwqaae=x/^O.Bm2.WcO/ZkGR5u","?/HL<8/LpucaLpbHC>EjvaaT8IX6PSwPrIMAdJR//hPT:lsIzeGb:_ER?eO`","57GFbfY_Xcy1py>^x>p>/@=e.y4V@ba4gs9E03WK3FM8vGjp:mmzdebNKMUk","bmNkbV:32p.F.]uX@O/"]
abbrev SF:=rs func152 [x0,x1,x2] ["[?;Vz3vZRt2]@?3jPucM<Yfg`d1[ON:]x0.U6EJ]:Y0fN5A6=C0"] [] [8,9]
abbrev SG:=rs func160 [x0] ["z^AZHQ[3pd1O8.hrg?HxH`6CV0"]
theorem SH:dX 162 [x0,x1] (dn [.k 109 [0,1],.y 0,.B .geq 1 0,.Q 0] [x0,x1]):=rp func162
abbrev SI:=rs func164 [x0,x1,x2,x3] ["zc7U7a^i<BIWMEPVz:^n>H2oMKMbXfcHTP=<gXNEh8x4Hy[9Z;]9qVXZTDe0","=;YAr0NPgmYg?jcv9lja@kQY:FTww_G8iiTWj.XN?`[T8ssk6PPrWn/p:FA:","t7`58gfX^?<4>y?JV=Ku_93P2f;@pl=HH8xhc3Yzxt3inS4j2itv@l`BTrd9","<^gcGjW?<txaHu3C]gX?Kzsz6=PEDj?_N>O;84r[Y@jpX:ab5.eqlYsM^z5v",">=GhXV9HYkaV09.=Kp67yw9@w9[Gni;K5^fG.TkpP?1f8]yBxhjD5M?ePI]9","s0Dxv?BRSOg9xHnqu;B5j[04G7r^`5BhQHYq2Y8V3Y2o_<?:ol8iOrZeGUqv",";kFk;`Z21JX=7jP=5m[5y/uNTD1ckbE0Qn^/VBb[5o0klmaskxpypa9dCu?q","Ylf^iiFQkCYJBL:V[dTsHa8NOsnJ32.joeaT?[xQdXQdA8B1>txkSC.[DRYU","DXeRvWYwScMSt.A0CjuOw2OLZO]._o_]^?zNdSAUMt^iEner?qzi4b;`[XKd","2dL.Uve.N@47^2"] [] [12,14] [] [5,6,7,111,121] [(19,[0,1,2,3,4,6,5,7]),(21,[0,1,2,3,4,6,5,7])] [70,103,113,123,159]
abbrev aft:=rs func166 [x0,x1] ["Ep1.REOxfS4i0Pqum`QLdcDOJ4CqMe_zVjOpY@To98LV^TwnMAO53W?/"] [] [7,8] [(4,3),(5,3)]
abbrev afu:=rs func169 [x0,x1] ["lwph<g2yHci0SQrAj``ybCu1m`MP/"] [.U (.a 3 [0,0,0]) .eql 1 0]
abbrev afv:=rs func175 [x0] ["l<uqFadTTkMIiy9pBlsF`ZyP2`zmDaUP]k>2qLJ]75=AG2]=bu2nvCIUl/n2",";Kxzu[KUa3sb^MSI/"] [] [] [(2,1),(3,1),(4,1),(5,1)] [] [] [20,35]
abbrev afw:=rs func182 [x0,x1,x2,x3] ["aG?k2K]/9X4@/gpc0L`2V6?ampH4w0w^ndNca/JY6fbK=.^XoaN?FzdX3Gr7","0PiYg.lr@hln6CZ<f4Ah;il@pacUPbWN8rPyks<Q9bwUi<[3sEe=lYiJxGv4","5X5O<ODljL^RHI.nXS/7f@6FTZWUax0@4skLr2I@X[_QDlTsGuNHQ^mxu4wC","3CT`]ZEjBsW_mW^JnxJk^Q@o<cT>Qufk@eHK[xhcLfH4QZApTa7?MIodR392","s[CRQmvVbnbg3"] [] [] [] [] [] [27,33,39,46,54,72,92,99,121,132]
abbrev afx:=rs func200 [x0,x1] ["ECDWtOQ1ZXnLgZ`^2x98dPLv:a8qfpoU<4X?AO:>ou^a@u>tYkIqI=@x14uI","Ap^.:][CcEPz=7aeCr27XYj`HO7lA<s]uwqu/`5v?vEpl?mVc.ojxngc6oCF","IvbU;5Jb>pXy.<mb?w]IG?jxGbL<z:=yR:Thc?X[JOAWEBrqbaoYi<:`hson","Jdr4IF=?MyBpPXsVtVaOEld0F:XA>ffJ91l7:>gkkUo]wk2yOy]f]HGpY_Ic","pdeUf<Y<OyRRMcTx>v:v<fUirJLGILortGcI3?tXCCoL`Ib?7oS46a/z9wXf","j]eCdj:f2AZ[zCKSWg2mB`MOfjp3^Z>pX^]r0cB/QX]wxyVeyLdxC^@Js1Db","h[_y]JP>ra]/^n@:37>4:mf4fd`6w9GVJvuF9JK=5R/0qgI>b_UjH.cU<LRZ","I]l3Lwz.uuFOoJCd]1C/hHt/c6Hh[a[H<mTCksjAk</YFAyvsBvS1dJp9u6U","4/"] [] [3,4,6]
abbrev afy:=rs func201 [x0,x1] ["ECi`w7I`;xvGr4x=Zu`>4vYI:i8S1`A_wCcphmBQo?0t_A@:L_8GyF?AiPuP","=jQ`t;0G2h^V2H0:>3Y/nrR3UF_7HF8rAa2.hOIB>WMtmzula8kz=Jq6u_]Y","oIIs=Z9d<u_yDJv@jTXW[`wrUGdcO6`^DvXem3aNcANit2=QBB>UaU/lhAzJ","4:Jr.YtC:;vmI__lJ`G:uLwY@=gAWjf4=0`I17.nEp0ezrka:ic[pw@/[hE9",":1Gx.8glvA.2Dc8.18f"] [] [10]
abbrev afz:=rs func206 [x0,x1] ["5Z]Dd@=9ildXz[Nw5AOZUvRYWRVgBlDVE7N5EzPn7d3WmN8Wd7A]?tpad9zH","93uYYyFjIK;?]g`2FnThJ`CowCI1M"]
theorem SJ:dX 214 [x0,x1] (dn [.n 0,.y 0,.w [.l 1 3,.c 0 [.s 4 5 2,.v 7 [0],.c 0 [.Q 4],.p 4,.R 0 [4,0]],.y (-1),.Q 0] 2 [0,0]] [x0,x1]):=rp func214
abbrev afA:=rs func217 [x0,x1,x2,x3] ["Yg8Dl<Amf[BnEb`9Z206Lih95RWAN3`sTyjeNgC6@=T_kLxX3;O@0"] [] [9]
abbrev SL:=rs func219 [x0,x1,x2,x3] ["7UrwQvmcCSH?tbO0b<[NKK5/kYTQZ["] [] [] [] [] [] [14]
theorem afB:dX 246 [x0] (dn [.r [.N .str 0,.y 0,.e 1 0,.Gf 0 [.N .str 3,.y 16,.B .gtr 1 0,.Gf 0 [.x2 λr h=>mc (nv r 6) (I 0),.z (.int .u8 97),.l 1 0,.Gf 0 [.x2 λr h=>mc (nv r 9) (I 0),.z (.int .u8 122),.B .gtr 1 0,.R 0 [0]],.z tt,.R 0 [0]],.z tt,.R 0 [0]],.z tt,.R 0 [0]] 1,.c 0 [.z ff,.Q 0],.z ff,.y 0,.w [.N .str 5,.l 2 0,.c 0 [.x2 λr h=>mc (nv r 7) (nv r 3),.k 292 [0],.u 0,.c 0 [.Q 8],.p 6,.R 0 [6,0]],.w [.z (gv G0 1),.L 0,.n 0,.l 4 0,.c 0 [.L 3,.i 0 6,.e 0 15,.c 0 [.Q 14],.p 8,.R 0 [8,0]],.z tt,.Q 0] 2 [2,4]] 2 [1,0]] [x0]):=rp func246
abbrev afC:=rs func249 [x0] ["^SFB8PYHBADq[<dQ;@PxAZVPpDd]a`LS2D^.6m4/dHH^B.xG=VIUB/87NrwG","ZtF:^Q<o@@I>/;S`CfaWtZ2/:I1Y`>yX8[<oM92XPi?5lsR:HYBq5KC;Qp7[","3R5:xY0r>5>a>f]E`JAL40@h"]
abbrev afD:=rs func252 [x0,x1] ["Ej]ald`=:U5aQ9gEFj2z`Ud;wVDlo^Zyffv<?1=U>@Q[xBedgq3KH35r^3?k","HxiWP>Ik3zD@]ds94dqvPZr?KLLuoZbL8`nKj6`T@SGLWTjLxA/ObWrM^K?A","5?K5QN?tydd2>8"]
theorem SM:dX 262 [x0,x1,x2] (dn [.M 1 2,.r [.n 1,.B .leq 0 3,.G 0 [.fn 307 [] [2],.k 306 [4,0],.u 0,.R 0 [0]],.z ff,.R 0 [0]] 1,.Q 0] [x0,x1,x2]):=rp func262 [] [] [5]
abbrev SN:=rs func263 [x0] ["lO[/zuDo^siG@eB1p_5QpBO9Fm[_NKpt@tmp[/cmT5lI22[>Uv>K7dVpGdmi","9]j7AP:wmkli8rm7vp^=:ZtFKRBGXOTJSJiJuITdDgC^sM_2Dq@k<Kb:lDGX","8A:<]S@cNh>?zfo<4?iU?Z3@5_8zeerFf?ub;8]2=FOEr:.Gb@e6ceBtqpGu","P:ZvRR=j9okypw`IV@Glh9Et>Xo;UIOuJJN]2GYS7AbVO1Y_e9A6g2XVhngI","MQpRwvd`YEH>ZrOJMC@0t9Y=go0?N>;vInwDTKrKAN?FYwR/"]
abbrev SO:=rs func269 [x0,x1] ["zclv7hG^1>WmE"]
abbrev SP:=rs func272 [x0] ["wOI=pAKI^HrE[sv0F5W=tgJ"] [] [] [(2,9)] [5]
abbrev afE:=rs func276 [x0,x1,x2] ["EjE7W9oLvon@bV;NbHXSN]Ej1?z]v023<Ez.LLkCPjS9x]VY]pnLk30kMXpU","[K]qHetk;>SX/t8/w46"]
abbrev SQ:=rs func277 [x0,x1] ["aC^jj=D"]
abbrev SS:=rs func279 [x0,x1,x2,x3] ["9OKf`e9hUhqXmzh9KE;OgS/:0k<Sln?c/@b8Lf[yj`rZy3?3cEzVTC.wr.S6","BZnLitKWva[2"]
abbrev afF:=rs func287 [] ["zctPfIlgcA:fC4wMupGx1QVxOWET]<b5aa"] [.z (.str [108,97,116,116,105,99,101]),.z (.str [102,117,110,99,116,105,111,110]),.z (.str [111,110]),.z (.str [98,97,115,101]),.z (.str [118,105,101,119]),.z (.str [107,101,121]),.z (.str [100,101,110,121]),.z (.str [110,111,116]),.z (.str [105,110,116]),.z (.str [115,121,109])]
theorem SU:dX 296 [x0,x1] (dn [.k 328 [0,1],.y 0,.B .geq 1 0,.Q 0] [x0,x1]):=rp func296
abbrev SV:=rs func304 [x0] ["7VJN]zL3?o_U65X"]
abbrev SX:=rs func308 [x0,x1,x2] ["BII[?nvsCiM"]
theorem SY:dX 328 [x0,x1] (dn [.n 0,.y 0,.w [.l 1 3,.c 0 [.s 4 5 2,.v 7 [0],.c 0 [.Q 4],.p 4,.R 0 [4,0]],.y (-1),.Q 0] 2 [0,0]] [x0,x1]):=rp func328
theorem afG:dX 332 [x0,x1] (dn [.L 1,.v 0 [1],.u 0,.Q 0] [x0,x1]):=rp func332
theorem SZ:dX 337 [x0,x1] (dn [.I 4 0,.L 2,.S 4 1,.v 1 [0],.u 0,.Q 0] [x0,x1]):=rp func337
abbrev S0:=rs func365 [x0,x1,x2] ["Dc1YfSx.jj738"]
end
section
open Go.Proofs.Tryz
variable{x0 x1 x2 x3 x4 x5 x6 x7 x8 x9:AV}
abbrev r6:=rs func6 [x0,x1] ["Ej6;nf.k9uSvKo;;]h7`/t7>zD1kXS18XZ9pZvtHk0eI53dVlzMiOtQEmi;f","jeSRf.=:4b139]bJE`a=JddT[<5_H9SA"]
abbrev afH:=rs func14 [x0,x1,x2] ["Ej]:Ou7Sj<]J<iE<tm[;OXvyyn^xCB:WLdh?1ZgJSdR9A`Fr/dNmpg?KPPJ>","n[vDN4UqhUwpE8asLy0"]
abbrev afI:=rs func16 [] ["2KdPq<^BCipb9xJig`VqFmnQmChHfqKi2y1oiG13=C=.oAwj;i2mw^erh/5Z","[SuK4FD]X0awMDt5rmUvBRf:fz7A4CZN_QhSpf<kosWXBb^sQOULD?_5q^/t","`T8[<?`[[tSCUBI`^P:OWELu76YQbANx<m[:/rTH.CVk^xKLQ5z<yFtzPoJg","rSlok2rz`ahyvErzfNHWS/sbRRep>EZGkj4z1N>l^8?deDpc7?_=fLiuwMU>","`^ZshDeU[RrUfSe12RFeeQ?kaNY/"] [.z (.str [101,100,103,101]),.z (.str [112,97,116,104]),.z (.str [88]),.z (.str [89]),.x2 λr h=>De 3 1 false (nv r 0),.z (.str [90]),.x2 λr h=>De 3 1 false (nv r 0)] [0,2,3]
theorem S1:dX 28 [x0,x1] (dn [.k 77 [0,1],.y 0,.B .geq 1 0,.Q 0] [x0,x1]):=rp func28
abbrev S2:=rs func36 [x0,x1,x2] ["[?;Vz3v46_MR_OmoCM:xpaTwiVO2M/nDGHM>MMv2opxfQuPh8u@"] [] [8,9]
abbrev afJ:=rs func46 [x0,x1] ["zn<E`V/Md7BaNH1>myq4Hzbw:9ozXzolf.kmDHHgNpXfqc1ODp4D6gwB^t[F","Z?=c6wvyLtiEU.8Kwa03lC/LjUW1Q1S4l[l8Il]WKhA:/;_/1h2nRWxK0Y"] [.z .gH] [] [] [2,13] [] [37]
abbrev afK:=rs func54 [x0,x1] ["2/9O^o4qRn`1vJ1j4r/LMdPjJ:A3"]
abbrev afL:=rs func58 [x0,x1,x2] ["X9nT5nXPH45g=OgxK0"]
abbrev afM:=rs func65 [x0] ["E0u/VJamfF87BL?ORUTh@D<@3jy4Eko7Co/RhpMJA41THbx[u7B<:GoujTs`","=jxR//ZSM=Xp^Ovdi?_>;wCO3@UwGvOntck4o;6feb8@uhDWsPXJsSbfpY[7","fw7IendL=Zf6N4iqYkoW9wz_3^eKY`s.fgkvyJ`@=YMeddT^qdHSbH2^2BB?","DoKxYoWp3JBsnNQO`f^[]3m=A"] [] [6,8] [(2,2)] [11]
abbrev afN:=rs func79 [x0,x1,x2,x3,x4] ["aG?kX.nSp_;ZWqr/=Xr2?vBqhHYLQVcPcDO4UJfkf3nQSVBZ1AmhnWW>Ia?9","g^bSUueNJPxKLf9QBvJhX7=JmGhK9zoYX@P.7WmKc=b[Te4lgbas@>qMxwW]","dk8]v`RYz2ym8kk]h6:TRqer49jluJqdeyvQdQZx35vahR:FK=4HX?dm=q.B",":2tfe:ouWbs9ivi60sKixOVglmtVwF^xn>q.zVVNOK/_l^]XrxUMm92jsg2h","Fj[:bNdPTDFt=BtCj:8Y=1ks`odPho[9"] [] [] [] [] [] [30,37,44,52,61,80,103,111,134,146]
abbrev S3:=rs func82 [x0,x1] ["SsmNr?708b[2"]
abbrev S4:=rs func83 [x0,x1] ["PFYPDKo;E=ZWD@kf0WU6tmDMMxcY::`uieqJ/9myadRI?ax2uEU8"] [.z (.str [99,97,110,110,111,116,32,98,101,32,110,101,103,97,116,105,118,101]),.x2 λr h=>FV (nv r 1),.x2 λr h=>FV (nv r 7),.y2 λr h=>Df 3 40 [(I 0),.aq,(I 0)] (nv r 0) (nv r 4) h] [] [(4,3)]
abbrev afO:=rs func84 [x0] ["E0uBxYWoqUl6Adb1vzmTIm=NpJN/3JTi2wwLvD<v6z]wA>Li:WQMM5cjSrpp","FXWy?e9Q4`63:?M@W.ELsRRXa77OfCXJB?ot<zrW0hn@6SrHAq<oH:6X3V[b","k53G^VFsG]HDjmmtSBV3:kZgdVIOJolina6`6uvUb:vI;1I=Jf/_4d9uTpah","8lF2`AYiYvkCH5QSh.<kMS856MT5GvTO2Qox?afEN?S<e_Jq.N4rsal5A_O7","JEYiz^iH[hph5vA[MgeVxQ5"] [] [2,4,7] [(3,2)] [15] [] [18,61]
theorem KT:dX 93 [x0,x1] (dn [.n 0,.y 0,.w [.l 1 3,.c 0 [.s 9 5 2,.v 7 [0],.c 0 [.Q 4],.p 4,.R 0 [4,0]],.y (-1),.Q 0] 2 [0,0]] [x0,x1]):=rp func93
abbrev S5:=rs func95 [x0,x1,x2] ["ECi`mrwt>OaJ:AvaQ3xtm?Z04S=^3[S4^m/NBcaaulOA>pN9y"]
abbrev S6:=rs func96 [x0] ["lOSQLUIJjlPip9hCYQTOX1"]
abbrev afP:=rs func99 [x0,x1,x2] ["lcV>D>_/U^AkCyZQeHas=.2J/>9pBIkqPp5_0mYB:>M.9eOKv;w;0P:QR5Qa","/5PGVtXxif@J6bofNwfnYBnhhNIFCk>gQvXdaH]d29[swo;fV/N6skL]>hc>","V9AfWv_w65y`ku>PN:jIiNEA_;f`x7_"] [] [6,7]
abbrev S7:=rs func126 [x0,x1] [";VK`8tFw_hHJXbno4NHhzN_cNJeQ0"] [.iV [(132,362,(some (1,false)))] 6 [5,1],.iV [(132,365,(some (1,false)))] 6 [1,5]] [] [] [] [] [15,21]
abbrev afQ:=rs func128 [x0,x1,x2,x3] ["9OKf`>0:BBYuqBsjCf_YWUqEQYk5UyFB:<jfxf.8c/]^n8YXn=FviY1xr.S6","BZnLitKWva[2"]
theorem qS:dX 137 [x0] (dn [.r [.z (.int .u64 4294967296),.B .geq 1 0,.c 0 [.z (.int .u64 32),.B .shr 3 0,.y 32,.R 0 [1,0]],.y 0,.R 0 [3,0]] 2,.r [.z (.int .u64 65536),.B .geq 1 0,.c 0 [.z (.int .u64 16),.B .shr 3 0,.y 16,.B .add 6 0,.R 0 [2,0]],.R 0 [2,3]] 2,.r [.z (.int .u64 256),.B .geq 1 0,.c 0 [.z (.int .u64 8),.B .shr 3 0,.y 8,.B .add 6 0,.R 0 [2,0]],.R 0 [2,3]] 2,.x2 λr h=>pU (.int .u8) (nv r 0),.x2 λr h=>mc (.str adW) (nv r 0),.x2 λr h=>pU (.int .i64) (nv r 0),.B .add 4 0,.Q 0] [x0]):=rp func137
abbrev afR:=rs func145 [x0,x1] ["[?;07uq65412oLC?6P5K27DQ[k71DKQHnIfw./"]
abbrev afS:=rs func146 [x0,x1] ["lOiLoLbG;HWxRo7Huy<RtrNxf?]rrd=PKfpD]AylYZCd`bmnep>a.P0Ll>2p","6;eEbbx`?b@oa>EXzZCvz8RlU8OQAKVAT/JZ3abhQ?aBA6KRCg_d[fq./LNA","QjSrE3RPxOvzQ"] [.U (.a 4 [0,1,1,0]) .neq 2 0]
abbrev afT:=rs func147 [x0,x1] ["E2I1ulyLLB^H[j:rr=ZuQC1A3VU1;NYF3kA0i5U7l5ZfpmR0n9Q/"]
abbrev afU:=rs func148 [x0,x1] ["6jkfq`rcN0MD^b^"]
abbrev afV:=rs func149 [x0,x1] ["EjE^MEMFHC7;2M`dW_cnR:YzR38LSj1Zx5ZhNLU]f^IbcAQN>md90vTDj5h`","b;Jzo6><`0sz6"]
abbrev S8:=rs func158 [x0,x1] ["l<uNfUVi4J@9OZcdp5^1cPbi`hMnpNCgL>t7T9VDrvr=_>ki9rb51]QYDO4G","8mR8PfjfYtcISTk:bETam/2e]Bty=<pVPRxFA;4`rxogVkV9gBX/WRSNSJu;","/40YDC/"] [] [10] [(4,1),(8,1)] [] [] [12,43]
abbrev afW:=rs func168 [x0,x1] ["EjE7W9oLvon@bV;2_Lj32URe9s:zqsA<cTyl4KTS@FlPJ;GQqs.]VB]eOAa3","XRn<o4z0^Q.ZIYs/:^KyV:gjVWZ?8;>@M?TR_5EdHXWycJ0"]
abbrev afX:=rs func170 [x0] ["PgLeUT/1_B`[`/FmHB2"] [] [] [(2,3)] [5]
abbrev S9:=rs func172 [x0,x1] ["[x.1b2fEr/@xUZlJO.K@5"] [] [] [] [] [] [13]
abbrev afY:=rs func176 [x0,x1] ["EVhL/Pk1iTMmi<1OBF1h:48s"]
abbrev afZ:=rs func177 [x0,x1] ["8jZXPo0`CC7I>=m@;>]m:YhW^a5"]
abbrev af0:=rs func179 [x0] ["^SF:B5THBADq[4EiO/9OJc>lOtByaqkty9K.V8EL[2J>H2f@xx]gDLSVL6Wx","/[?2eXjbkciIC[.RDD56;;849ic]tyD5SlH/`?72"]
abbrev af1:=rs func193 [x0] ["lOzZgJT@Cpc02ZWOayaVrVKysJC>cYLbwVdY]miJXRI]gXu8qkyn1QYmOKkI","vcu;/2kAqOA4@fz2aWgLnK9JkTpKVvA[if<EL9Pp.7zZ/fi?PSefh:ehqeHh","ga/vkckhQ6POW=kFTAdeH=>_]==Yn6O=UN3b;HqA=tQDusjfRsGu0<xF]JEP","K1alIW<AN7/E2rRoTtz3pNJAkTPylsW10njf[Mo=b2.pwg04D1nhG7faQ_vS","Z=0U5Jpqhqriif=i^<hDH]NZyvaG/V0td_/y3Jn[?K78uzQ312;xPE4eBj<q","qdwB_KR3jC0VHlg8k=WkzgsSvfy1k7BI`LL=jM`:PO4QH2ZI=L85Kt0Cxx.7","zKfuPCjzuPt4wP.A_[;3YswqsIK`N>0EU2fuD53bK_Vr?q3OpoJLZ9?7S?1s","RZ=WLXSpaB[B_xZiU7refU41"]
abbrev af2:=rs func205 [x0,x1] ["ECSI`=vYU5yq6rHyVY9c5"]
abbrev af3:=rs func208 [x0,x1] ["_@FCsqPTSLyaZ7omTJep;Dd4]M1qv>"]
abbrev Ta:=rs func210 [x0] ["Eja7Wa;L;Jd?U8V8`=lEg2DdxCcJlL5lYhK2[tvlCO5Qdjdg<<QmWNfseVfI","k_A0wa/:ova``70R6<4VM?q1f;Wh8KNZTvlD3I8mgQIP0e_.HL_/bZLID;PU","P1fn8a2m@Tlli.Bgwh`Cf?M]=MvxY0T.uBkRaaZRBDUAG<HUJGVw]i^tChN5","mBh8i1Ik;Y3ZlW5IlaAh3rroXPoU.gEt1^B@.XiAJtjqbE@doMLKyFCHTQj6","TpkmZ;Ez_?jD`ZdJ98hs[qn?Ty>fYMQTK?kTNBuupWT2l=qwGC2K07JzWDY0","Y2yU94gpH8b`tlIZh=[liFPeiZy=]eNk>;eatmKPntcnI_;euMOC7JI1aEZY","p]_Nb5vibMsa=pl=?VASE=G`=g`wej:3GNph=<31F]a1yp0:YPnFtuQiYa2>","?946_.oMHG]O^uFJB1b5>sqtTPoo6ew`vm=0Z]_>RpCPHq5jVDS_3.IbffBP","AXjM^w;Y6"] [] [6,8,11] [] [17] [(6,[0,1,2,3,4,5,6,7,8,9,11,12,10,13]),(18,[0,1,2,3,4,5,6,7,8,10,11,9,12]),(30,[0,1,2,3,4,5,6,7,8,10,11,9,12])] [38,41,112,115,165,168]
abbrev af4:=rs func221 [x0,x1,x2] ["lZ>R@inIivF/4=0coOiya:1y59=[QmYN8mVR344=EXq8e8w"]
abbrev Tb:=rs func222 [x0] ["7x@QqPIEUG`<z=grQA5nUiEu8hj.36ULhE3QBwVCFuaf2ZUzIR2z]05a`urG","mDkB99.LQGLypu>ERwPcgzW;Uq4WOG2?z06htm8[qDKDUUzl/6WRkbUNd:zg","HT[z6CJEeZd3L?1NXYt=V3Kr=16MHfd[ojN`ZEVONPeWefrJZ:PUm.^O3j?M","wqK5B]hiuO]Y9>>_jPd"] [.z (.int .i32 97),.z (.int .i32 122),.z (.int .i32 65),.z (.int .i32 90),.z (.int .i32 65),.z (.int .i32 90)]
abbrev Tc:=rs func245 [x0] ["Hz"]
abbrev af5:=rs func248 [x0] ["5_v=Z[PrFdCDTEpCfq^Lfetf09vd`PzG2=PU_DdQ_"]
abbrev af6:=rs func254 [x0,x1,x2,x3] ["EjtxGV<aeposFVe>jiqCBJJ]zZ6y3@p1nN3_tJUsY]/4?YusxYK0/H[G]Jv]","[inlHEyXMFfCnf82oVPmLR0olT_T1nUh3z8xPYMYYEmjDaXNHF9GX60S^E>s","q8EH`/`Vd9j:A=w;t?gyD280x^1xF4JFT>?3IzHg75?7.<a5HNm2zbwYb`T1","Rf195p51_4jDRW5NAKx3KjEf=OEn9e1/xLmjXk=];OcZ[zI5AbH1.v]X"] [] [] [] [16] [] [41,88,124,142]
abbrev Td:=rs func261 [x0] ["lJSx0To2YF>S>UX^S:CvNK8^5.`]U3VJFc_Na=.Mb2je9WCwuz?bq`?7LZvl","[wNtfNqXefklGm.8BKcxW>OWzB^RyKW=kpwP:BfOVVnxBdAaBTuAAuMGLTJ?",">DWu]/[YNsdJEL_h6hw6nyxnP3"]
abbrev Tf:=rs func264 [x0,x1,x2] ["26CsZaxLc^6cxFLndShGEZ/rvjxASLm4;^T"]
abbrev Tg:=rs func265 [x0,x1,x2,x3] ["zclvp9>lAiSwae9_`?lB7"]
abbrev Th:=rs func274 [x0,x1] ["J`hGgYo]xN2E.ySR]gm0W`gjXSqXiWpjI7[qtyGJectCXxcgwZq8R9Ab`/G0","Gu.sbu4U]Yo3x03AiPwe69zKWaV`>jrpX7U3kT]w]yVMbRTOGgIOzfvBQ0<S","tc9k_/Nbxn;?gK/lYZ`I9M5h17LWh:NJ2TlyhksK.Uk:o/cXD<<?5><7=DZ[","FyrJmGJT2mr5@g/HlzS/bQwZSKyT7umvqSm<S7`po4<zic@XSP@aO::lZ<SJ","=`UWyA1DNE.^/CaUl2HY;FEN/mJyHOTs<E0_UGba:pRvBYN^`[_=rit5feXB","eMYVw`_gQohVn/76ooGo6.0b;E=7=KV=wy4gJi6.om^u16/xh<8UnxMI?9"] [] [5,6,7]
theorem af7:dX 299 [x0,x1] (dn [.I 7 0,.L 2,.S 7 1,.v 1 [0],.u 0,.Q 0] [x0,x1]):=rp func299
theorem Ti:dX 310 [x0,x1,x2] (dn [.M 1 2,.r [.n 1,.B .leq 0 3,.G 0 [.fn 337 [] [2],.k 159 [4,0],.u 0,.R 0 [0]],.z ff,.R 0 [0]] 1,.Q 0] [x0,x1,x2]):=rp func310 [] [] [5]
theorem Tj:dX 312 [x0,x1,x2] (dn [.M 1 2,.r [.n 1,.B .leq 0 3,.G 0 [.fn 339 [] [2],.k 338 [4,0],.u 0,.R 0 [0]],.z ff,.R 0 [0]] 1,.Q 0] [x0,x1,x2]):=rp func312 [] [] [5]
abbrev Tk:=rs func317 [x0,x1] ["5KFje[6VQn`wQkcg5.[wB4UbOC.`e0B5;M7"] [] [4] [] [] [] [17]
abbrev Tl:=rs func330 [x0,x1,x2] ["^@Qrp:lE^ouJJvvxJTLJfyXwTA4>t0D9Th;FyMKmyok4L=gscgY;PGsGzAG;","dMg]9Td]`PKb/3gVTn/SD;dMRW`kU_jS<8C/:dA6<w;uCQrTWgEZVt3Zk^C>","0zStNahhMw=MSv]Iew`uQ@HHp^iu:qH5K^MCYwXA<nh9"] [.z (.int .u8 32),.z (.int .u8 32)]
theorem af8:dX 331 [x0,x1] (dn [.k 343 [0,1],.y 0,.B .geq 1 0,.Q 0] [x0,x1]):=rp func331
theorem Tm:dX 339 [x0,x1] (dn [.I 9 0,.L 2,.S 9 1,.v 1 [0],.u 0,.Q 0] [x0,x1]):=rp func339
abbrev af9:=rs func362 [x0,x1,x2] ["kcN9aBA48D3"]
end
section
open Go.Proofs.Tryz
variable{x0 x1 x2 x3 x4 x5 x6 x7 x8 x9:AV}
abbrev r7:=rs func7 [x0,x1] ["EjEJRkmWXPJLaD6<Z1w:U;=E>e><.yryJtx7hd2T1qon`b<v@iL/LsWgv9XG","`PkXppPRI^Cus]qt9ThRbad;7I8q@7F1Kws6yd2K]0j7voQN?h`I0<16OWpu","qFzt@4SVuMTpnY6m<Upx7<p;Eh]UDWIeR=l.AzBX[cQggs/J6J:I3LF]QnzC","a=9>a?Iw@13IgG1/IbbxJSm.xYDr:=5baTZ:J0szxb@_XD[:]VZ9lhAu/^gE","sUo8NLv1/5;Iko@Mi/u<69LA0gD5F=?rGjHd@;<twq<0PT8[RmZuVh6"] [] [19] [(10,3),(14,3)] [] [] [52,54,57,63,65,119]
abbrev r8:=rs func8 [x0,x1] ["Ej]tz>RQl]3Sm:s><033r1P2"]
abbrev aga:=rs func17 [x0,x1,x2] ["Y@M/]l0[r<1m75uLLRoji1q_pTHrNPZmqD<Hxz"] [] [6]
abbrev Tn:=rs func21 [x0,x1] ["[?;07uq65412oLC?6P5K27DQ[k71DKQHnIfw./"]
abbrev agb:=rs func25 [x0,x1] ["z5^Rj/Vip3G`PB^Tom:Tkt3Oxq=Ktw<[L061aGM8Px57GaAOID[Bu9nxP]J6","YmN/aQGl11]0@Uc1/XhYLPfW]8Zyl0s:UyrSHxGA[xb18PcqkcepY.sSdk]T","uvvYlDKcDd0oz?a:UoKIOLb/u4UJNA4Ex6eV>1BMhl2Zd]W8Rs_nU;xYjmu;","f;nufwvKddgr<t9R?ZY_EiFSP8cc6bU"] [] [11] [] [2,36] [] [34,55]
abbrev To:=rs func30 [x0] ["PgLeUT/1_J^Xyt=_JB2"] [] [] [(2,3)] [5]
abbrev Tp:=rs func33 [x0,x1] ["E26]Z3Xg6eev?]0e0GB]GkF:f1vQ"]
abbrev Tq:=rs func37 [x0,x1] ["Elg[RXNNG4C/n?slpBx`yU5BxT=z"]
abbrev Ts:=rs func42 [x0,x1,x2] ["Ej8V`SyL0Bpmvof?I?iB<7Hc9c_DuDv/>E^8A0;qEvrzc97`c4vDCq:SeUUb","5VMh79oQ6pa/FY7=BKZkkdwAYunx5FFyXG8ajnaB:kvj_ILj616xAv?btXeJ","OksD]ZrC[gqCa6K^quUglmHez<A`vkD4;BBm<fJ6:TA/0k1L:M=3KgAttl/^","Q9qT2WnIIjH]6.><KyePFNAs"] [] [] [(6,3)] [42,80] [(14,[0,1,2,3,5,6,8,9,10,4,7,11,12])]
abbrev Tt:=rs func44 [x0] ["EVDp3@BwpLIBT;KL]WT=fB^8Olz=eyzVF3UnrBD=IUb9n0XR_R9F`kW9f<7a","^tIxO/ME7UnGHUKeyvE1QaVak4"] [] [5] [(2,2),(3,2)]
abbrev agc:=rs func71 [x0] ["SID>.@aj>]yyin4D4O<=n<12h9Uoi`FB1u5p/rk0SP@Y_e]ix"] [.z2 λr h=>jP ⟨false,1,[0]⟩ (nv r 13) (nv r 2) (nv r 0) h] [5]
abbrev Tu:=rs func76 [x0] ["NV_GZvzn;EPw=1"] [.iV [(17,358,none),(132,75,(some (1,false)))] 0 [],.iV [(132,365,(some (1,false)))] 4 [0,1],.iV [(132,363,none)] 6 []] [] [] [] [] [5,9,12,14]
abbrev Tv:=rs func80 [x0] ["Y@?qh/"]
abbrev agd:=rs func86 [x0,x1] ["X;j@@1qP2cIQWvE0iaWKR7TQAjnb<isAhDxDI?;GUCxPNPV1Ol?Bh<"]
abbrev age:=rs func89 [x0,x1,x2] ["EjXExCT3PEIeAOmVig7/"]
abbrev Tw:=rs func91 [x0,x1] ["EjYi>hxjn9CUYj:83eq4HBBdDhvJeZ63375Kh1ssHi1jaAQxZ?>?Np>s.;pq","GP8WOOB5?Yy=4k@nuE>HOCjdz9J/4r.hKKp_<V0Rx[/"] [] [6]
abbrev Tx:=rs func92 [x0] ["lOvB[z=cBnFz7l[b:PM31YCYULyDHm==x;;ycYn[vxFn_e[`s2RFoIVQXgEA","mLj@nEQ8@p^.looCeRS[:t5q5MCO^Y0XQSToUt`^E7=3@n_GcdvEM8TP/"] [] [] [] [] [] [22]
abbrev agf:=rs func98 [x0,x1,x2,x3] ["lqg/cwIei0OEh7nn94BzRK"] [] [] [] [] [] [10]
abbrev agh:=rs func105 [x0,x1] ["E`.U3uEIENX21N]FcGNHowygRPv>xdW9v;4@z@]wmP8Odd>b<wYt9cW>[7=3","/"] [.y 20000] [] [(4,3)] [] [(6,[0,2,3,5,6,1,4,7,8])] [19]
abbrev Ty:=rs func106 [x0] ["l<;F2hkn`;V7_cAIqyz.zM2DTQ1e4;V/s7Nl]f:f=mynyt@3a5H8`gnV]fis","qO?XMG5IXTdT6LE>Xas_kNT0Fqi^oZB07Adut>rMNzL`2F:<7v[V6h2;6CL6","m=]=GEIi<Tf[rED:UTs/puWW4jt>0;poJNLFNQ7ITWwVty58Id5V3;6JIVZf","5cz:"] [] [7,9] [(2,1),(3,1)]
abbrev agi:=rs func111 [x0] ["EC@0RqcTUrvhb70P^1usL/aX]IV.udp2wxU_HPsVA1.ePKIlAn3<Y?d;3bzK","v8dhIy4mJTEvid_E/Y:^mVE6w9H`>nkmPpcb227VV]9xkW6o9yyn]<i1`p36","ku5ZmXvU4s0cgi5LVLf00]ylIBlF?[HD1Z@W2Y0Fm3R=Q=^fnthIP`0tFgBL","wtXg<f@[pCanVH^FAwO[dZL]1ctfYicYqnsiY_CXBS8t;:;NP[cHab?Skxi9","gq=poZ^Gkl=8`EPT`xJG245I^9NU^1W1uH_a.WH1PVh6rsrnYWqddIMQgq:S","1QcBps^2@lY>W96uhhvyP3"]
abbrev agj:=rs func114 [x0] ["lOvB[S4Q5pFz7l[bMK@apUBC66co:FX04:cxC5jPmL8]:nayYJ_UQFT^6Ats","qvGwofnz_Rd4=3s]me2PHQIz;1vRZ:d/<46q[1zzuuK=xf].XCD2Tu1"]
abbrev agk:=rs func125 [x0] ["[x.1b2f5Q0uW8]h@6zu0"] [] [] [] [] [] [10]
abbrev agl:=rs func142 [x0] ["EV1[aAKub@dUIw30Z]6@G5^iCA`OP[[KKw[[Oux6=b:C4z0ignn1AkQf/NCp","fSI6bu>7r]_8]9Fb37D8Zg<Muxm<iv=f>0oW_0S9x<_[b`IA>ED_H;yzEurO","naXsR=rf1;]?tT_lOx3YSPPHotw1cfZSCtkOh:?dsf0>31ndINEMM?.zn/GC","RSF1j04LhGXMq/y4edQ_eVkMD=is<<CG_1V;SD94JPCNJlO7jvZ03:T8tIoa","t1kalo>cQX[WdExc=`?K^p_3iZop?xX2/Lk6T1C^^o?=[^dl[IA8i`0F0^7k","ovsAQeEX<bTedWwhySKX`Z3R=Ir1:xh?5Bamc:Ac<M3nbmh5zYs@c:<pm43b","227TS3VEFq:k63@`q1NPwhqF.Ib:1lx4EZ=[Wjs8S9hpxZpW7>WP<>s2D.27","ZdIsbQRh:pjVo6>b2jQ6uKWy^<P;jI_iNYNWP82x61_Kt<LIz9PgOvP13/vj","Dn0S`BxUYra6sWcC3BPz:^8^xj4rkdu8gB;ooyenKVkr05Va1/Cbe9d@9s>z","HZfTtb@`yrqLk8e/h=d_[vgJ_KL2qVvzZf;h[S5RemN@wqt?2ME<4sgilIAC","6:Fhn1"] [] [2,4,7,10,13] [(3,2),(5,2)] [] [] [42,92,138]
abbrev Tz:=rs func154 [x0,x1,x2] ["[?;Vz3vZRt2]@?3jPucM<Yfg`d1[ON:]x0.U6EJ]:Y0fN5A6=C0"] [] [8,9]
abbrev TA:=rs func156 [x0,x1] ["E26]Z3Xg6eev?]0e0GB]GkF:f1vQ"]
abbrev TB:=rs func173 [x0,x1] ["lk/pU`^RLGFS"]
abbrev agm:=rs func174 [x0,x1] ["l<uuozhi4J@9OZoVaPATJ:SgxlVtA]aC8NyK;zyfvjWGE?A2clO?6IGEtj7k","v_cl5=[2flYh9OEfIpRDK_em@?A.fR/rfv[HV4x7NWx6W.1>er`Sgw4f[.wA","`1Nx8?a^61;v1BuVaF@ViblXW?RNx"] [] [] [(4,1),(8,1)] [] [] [12,60]
abbrev agn:=rs func192 [x0] ["l^tDtsyO3bxNS?@G/cyB]9hKDAeg=<ekUUSAWO_=uQ1R?Au=uzR^a.]kKx50","2PgxU5NQICND8VQJ]luWXcoj4qGiOo`1r@BBeV28T9UyrUcYW=nyuAZd1J`j","]`2T4YeDVnK@I8J^jvPJg[HK.^Wow8"]
abbrev ago:=rs func196 [x0,x1] ["ECibVivWjKiOtXm[6ZY`2Cyq]pK:^9fOco[Z3EEh]:6J/8cfpePxnY@vS..J","tNunRIJW>FOTLgZ=T9H:omtg/gfjP_SA;vC4d_b:jpVaOz10rZeyHIn1.03[","1Qyf3kg5m`1O:/EoTTym3fx_evjhGNSA[_fq1RWT;rh.N_eV1h3rxYHTnbn9","kfkzG13=iscEPWvM>CrpDC?6yva/"] [] [] [(4,1),(8,1)]
abbrev agp:=rs func198 [x0,x1] ["EVwDz;Hn]Q/sqTTTFgWNXLDqRuT>0>fhf1"]
abbrev agq:=rs func202 [x0,x1] ["[?;07uq]>N6CIP@hU0NY:=KMrI9PjTFo]nwn;@A"] [.U (.a 4 [1,0,0,1]) .neq 1 0]
abbrev TC:=rs func211 [x0,x1] ["SW2fXBUzl/M_LJZsI7]0g^9R>8tUhR>?VhuN/5ImI;x:ObU=UNqSGd6gHk:3","[?UpPaFb3__:pCQd?Z@s1kN:Xn?pM4d]vMrmGb:]Zemxjo6XbxkebGYI@_KY",">PWtud/jG0vSjag9toy7SWu2cKd>r@cv5<0og1gFPAzjiVBS.0A:epfTb5TB","TfhpD[@[14j_k^[YMCMI/"] [] [4] [] [3] [(3,[0,1,3,4,2,5]),(9,[0,1,2,4,5,6,7,3,8])] [18,23,26,48,53,65,68]
abbrev TD:=rs func216 [x0,x1] ["l5ttTF:nA"]
theorem TE:dX 223 [x0,x1] (dn [.k 277 [0,1],.y 0,.B .geq 1 0,.Q 0] [x0,x1]):=rp func223
abbrev agr:=rs func224 [x0] ["EjE^:qVpvRe7_M_z8`j=sr`LwT/QNs"] [] [2]
abbrev ags:=rs func229 [x0,x1] ["lc.5qA]2boJ.z6iRdNdl//LP[kBl@sdlW82Qd>2qQ0Q=_<czBG=/_1c1wENz","`<D;jk0upOD39^h2EPzVg>0g@sw:x6ZB9WbJfX@j?Iirtmdt?/lFAd_IG8hf","L>ev8WYg"]
abbrev agt:=rs func230 [x0,x1] ["lO<evprfGPtsS4TolL24DAx5c7rRfVXOJ"] [] [] [(4,1)] [] [] [20]
abbrev agu:=rs func231 [x0,x1] ["PN6F9?hi_;1ZKGK<wWM419E@l.2czYOQl71"] [] [] [(4,1)]
abbrev agv:=rs func235 [x0,x1,x2] ["9OKf`e9Tn]0jT;TF5kH=Y<:qT.NIhRvVJwKH5NSXYyKbN2O9f[@Crg`pyrAZ","otJ6JOMe0"]
abbrev agw:=rs func247 [x0,x1] ["7H^?3`UIp[UuSPV3TycPFJEzE_"]
abbrev agx:=rs func253 [x0,x1] ["lqmX62KjcKNQbq5ZFC7niJfFOcALSey>UM7fmltA=kPp6=x?XH^X.EB]lNRR","fXJ0IH3>4/"]
theorem TF:dX 257 [x0,x1,x2] (dn [.M 1 2,.r [.n 1,.B .leq 0 3,.G 0 [.fn 297 [] [2],.k 296 [4,0],.u 0,.R 0 [0]],.z ff,.R 0 [0]] 1,.Q 0] [x0,x1,x2]):=rp func257 [] [] [5]
abbrev TG:=rs func275 [x0,x1] ["l<vlbcJffOwAnroSTNPX=`9WWsi<[qxHnC]x1Fp:rlVMNr]KcwK6]E_vG0_G","j0qbUs>0wn9c;_q4fg40n1Ngm[^Z.8oeW<[JY=1yVrSJ?SL^_XICk;g>wBJ6","fQ1Vga/O/5Fdu6`bQ6WDue@3j_v5_=]4>fu5?>ltd@?ggSU8`@JNIf:te_W<","uL[b7Seo8zuuo:yU9;q8`5mb^le8skwb:6ZVn?a<t:CV69Xcg[@3hMZRq3W=","ewjqo3d/T0It18WKA]8/2FK7JQ?Y^_r2S1WB8/W=9WK.se@l6Zz4hg_W4>Q_",">Wva2okCgk6mS5`J8KOdW`EN=n8wSQOIL7414GDzgJD=d3;JPt7vLbF4oe7g","Qk5OJ6UIo2kr6;hb6[ExT>A.6k]kAt2`;TxgJ8h27nP29DsMQXo]VkOLmG76","Xj?ve^f=p:OEB@CkRIg?"] [.z .gH,.N .map 0] [9,11,14] [] [19] [] [24,35,55,80,94]
theorem agy:dX 297 [x0,x1] (dn [.I 4 0,.L 2,.S 4 1,.v 1 [0],.u 0,.Q 0] [x0,x1]):=rp func297
theorem TH:dX 303 [x0,x1] (dn [.I 7 0,.L 2,.S 7 1,.v 1 [0],.u 0,.Q 0] [x0,x1]):=rp func303
theorem TI:dX 306 [x0,x1] (dn [.k 336 [0,1],.y 0,.B .geq 1 0,.Q 0] [x0,x1]):=rp func306
abbrev TJ:=rs func313 [x0] ["lOzZg^v<em>d3m6sdr=vsI_Snap.qPYyQdWF`QVxI8ggVnj3.ZvX6.Q1]Ixa","vwGxstApCtjjP=G3P/5ZRVw34aRtHY]mUT@Ahzt.1APM7;^=xIcsqbYu.P<A","HP5BenAQKF?iUf^ZidoK6>>4INniTO_QkfmKYtW<Ih0r];Ly[H<5o/r:0n8q","blY]QMOmyNg]dFmvq<G?q;cRB=yAuSJE4P^>N3@q7_sb7aHJ]=r@;f]Ta8`j",";RRbDdlT4QBblnMn/"]
abbrev TK:=rs func315 [x0,x1] ["lqmX62KjcKNO8W<xbKuP<aC5aVe8@tt1:a3]irrvi]g@]PovXn?>:<zzR:;d","6XdI6?<"] [] [6]
theorem agz:dX 322 [x0] (dn [.r [.z (.str []),.e 1 0,.Gf 0 [.N .str 2,.y 16,.B .gtr 1 0,.Gf 0 [.x2 λr h=>mc (nv r 5) (I 0),.z (.int .u8 97),.l 1 0,.Gf 0 [.x2 λr h=>mc (nv r 8) (I 0),.z (.int .u8 122),.B .gtr 1 0,.Gf 0 [.z (gv G0 2),.L 0,.k 162 [0,13],.R 0 [0]],.z tt,.R 0 [0]],.z tt,.R 0 [0]],.z tt,.R 0 [0]],.z tt,.R 0 [0]] 1,.c 0 [.z ff,.Q 0],.x2 λr h=>pU .bytes (nv r 1),.n 0,.z ff,.y 0,.w [.l 1 4,.c 0 [.i 6 2,.r [.r [.z (.int .u8 97),.B .leq 0 1,.G 0 [.z (.int .u8 122),.B .leq 3 0,.R 0 [0]],.R 0 [7]] 1,.c 0 [.R 0 [0]],.r [.z (.int .u8 65),.B .leq 0 2,.G 0 [.z (.int .u8 90),.B .leq 4 0,.R 0 [0]],.R 0 [8]] 1,.c 0 [.R 0 [0]],.r [.z (.int .u8 48),.B .leq 0 3,.G 0 [.z (.int .u8 57),.B .leq 5 0,.R 0 [0]],.R 0 [9]] 1,.c 0 [.R 0 [0]],.z (.int .u8 95),.e 4 0,.R 0 [0]] 1,.c 0 [.p 4,.R 0 [4,0]],.Q 6],.z tt,.Q 0] 2 [1,0]] [x0]):=rp func322
theorem TL:dX 344 [x0,x1] (dn [.n 0,.y 0,.w [.l 1 3,.c 0 [.i 5 2,.v 7 [0],.c 0 [.Q 4],.p 4,.R 0 [4,0]],.y (-1),.Q 0] 2 [0,0]] [x0,x1]):=rp func344
end
def fE(a b:Int):Int:=if a<b then -1 else if b<a then 1 else 0
def oe:d->d->Int
 |[],[]=>0
 |[],_::_=> -1
 |_::_,[]=>1
 |a::c,b::e=>if a=b then oe c e else fE a.toNat b.toNat
def nI(a w:aG):Int:=if a.ty≠w.ty then fE a.ty w.ty else if a.n≠w.n then fE a.n w.n else oe a.s w.s
def jQ:List aG->List aG->Int
 |[],[]=>0
 |[],_::_=> -1
 |_::_,[]=>1
 |a::c,b::d=>if nI a b=0 then jQ c d else nI a b
theorem TM(a:Int):fE a a=0:=by simp[fE]
theorem yi:fE f ca=0<->f=ca:=by
 grind[fE]
theorem zJ(a b:Int):PR C 148 [I a,I b] (I (fE a b)):=by
 apply afU.pr;simp only[A,eU,O,c5,Bl,Dx,decide_eq_true_eq,fE];grind
theorem KU(a:Int):PR C 138 [I a] ff:=by
 apply Sk.pr;simp
theorem TN(a:UInt8):PR C 245 [.int .u8 a.toNat] ff:=by
 apply Tc.pr;simp
theorem zK(a b:Int):PR C 81 [I a,I b] (I (fE a b)):=by
 apply Rz.pr;apply c (KU a);apply c (KU b);simp only[A,eU,O,c5,Bl,Dx,decide_eq_true_eq,fE,e6,if_false];grind
theorem agA(a b:UInt8):PR C 190 [.int .u8 a.toNat,.int .u8 b.toNat] (I (fE a.toNat b.toNat)):=by
 apply R5.pr;apply c (TN a);apply c (TN b);simp only[A,eU,O,c5,Bl,Dx,decide_eq_true_eq,fE,e6,if_false];grind
theorem agB(a b:UInt8):PR C 189 [.int .u8 a.toNat,.int .u8 b.toNat] (I (fE a.toNat b.toNat)):=by
 apply R4.pr;apply c (agA a b);simp
theorem Bz(b a:Nat):fE (b:Int) (a:Int)=if b<a then -1 else if a<b then 1 else 0:=by simp[fE]
theorem TP(a:d):oe [] a=fE (0:Nat) (Z a):=by
 cases a<;>simp[oe,fE]<;>omega
theorem TQ(a:d):oe a []=fE (Z a) (0:Nat):=by
 cases a<;>simp[oe,fE]<;>omega
theorem TR(a:List aG):jQ [] a=fE (0:Nat) (Z a):=by
 cases a<;>simp[jQ,fE]<;>omega
theorem TT(a:List aG):jQ a []=fE (Z a) (0:Nat):=by
 cases a<;>simp[jQ,fE]<;>omega
theorem GI{a b:UInt8}:(a.toNat:Int)=(b.toNat:Int)<->a=b:=by
 grind[UInt8.toNat_inj]
theorem agC(e f:d)(k:Sm e):PR C 204 [.str e,.str f] (I (oe e f)):=by
 apply afa.pr;unfold Sm at k;apply bG (λb:Nat=>[I 0,I b]) (λ_=>[]) (λb=>Z e -b) (λb=>b<=Z e/\b<=Z f/\oe e f=oe (e.drop b) (f.drop b)) 0 (by simp);rintro b ⟨m,n,g⟩ l p;simp only[bz,zA,O,i,G,A,jD,decide_eq_true_eq];by_cases h:b<Z e;by_cases j:b<Z f;rw[oI h,oI j,oe]at g;simp only[a,h,j,decide_true,if_true,c5,Dy h,Dy j,O,cv,Br,Kq,bne_iff_ne,ne_eq,GI];split;rename_i o;apply c (zJ _ _);simp_all
 rename_i heq;rw[if_pos (by grind)]at g;rw[aZ,O];grind;have:b=Z f:=by omega
 subst this;simp only[a,h,if_true,cn,decide_false,c5,e6,if_false];apply c (zJ _ _);rw[qq,TQ]at g;simp only[Bl,Dx,g,rh,Bz];omega;have:b=Z e:=by omega
 subst this;simp only[a,cn,e6,if_false,c5];apply c (zJ _ _);rw[qq,TP]at g;simp only[Bl,Dx,g,rh,Bz];omega
theorem KV(h:U<=N):fE ((0:Nat):Int) ((N -U:Nat):Int)=fE U N:=by
 simp only[Bz];omega
theorem KW(h:U<=N):fE ((N -U:Nat):Int) ((0:Nat):Int)=fE N U:=by
 simp only[Bz];omega
variable{F:Bool}
theorem agD(e f:d)(k:Sm e):PR C 188 [eS T cU e,eS F cU f,.fn 189 [] []] (I (oe e f)):=by
 apply RH.pr;unfold Sm at k;simp only[aX,O];apply bG (λb:Nat=>[I 0,I b]) (λ_=>[]) (λb=>Z e -b) (λb=>b<=Z e/\b<=Z f/\oe e f=oe (e.drop b) (f.drop b)) 0 (by simp);rintro b ⟨m,n,h⟩ l o;simp only[O,i,G,A,c6,c5,decide_eq_true_eq,beq_iff_eq,a,arO];split;rename_i j;simp only[aE j (Gk _),O,aJ,Gl];split;rename_i g;subst g;rw[qq,TQ,rh,KW (by omega)]at h;simp_all[Bz];rename_i g;have g:b<Z f:=by omega
 rw[oI j,oI g,oe]at h;simp only[aE g (Gk _),O,aJ,Gl,Bl,lL,e4,ns,dR,sQ];apply c (agB _ _);simp only[cv,O,c5,bne_iff_ne,ne_eq,yi,GI];split;simp_all;rename_i heq;rw[if_pos (by grind)]at h;rw[aZ,O];grind;rename_i j;have:b=Z e:=by omega
 subst this;apply c (zK _ _);rw[qq,TP,rh,KV (by omega)]at h;simp[h]
theorem agE(a w:aG)(b:Sm a.s):PR C 147 [.agg (cV a),.agg (cV w)] (I (nI a w)):=by
 apply afT.pr;simp only[Bn,O,bh,aJ,Dr,Gb,Gc,cv,c5,bne_iff_ne,ne_eq,nI,e];split;exact c (zJ _ _) (by simp);split;exact c (zJ _ _) (by simp);exact c (agC _ _ b) (by simp)
theorem TU(a w:aG)(b:Sm a.s):PR C 140 [.agg (cV a),.agg (cV w)] (I (nI a w)):=by
 apply RE.pr;simp only[Bn,O,bh,aJ,Dr,Gb,Gc,e];apply c (zK _ _);simp only[cv,O,c5,bne_iff_ne,ne_eq,yi,nI];split;simp;refine c (zK _ _) ?_;simp only[cv,O,c5,bne_iff_ne,ne_eq,yi];split;simp;simp only[Kp,O,Kr];exact c (agD _ _ b) (by simp)
def dF(a:List aG):Prop:=Sm a/\∀b∈a,Sm b.s
theorem mh(d e:List aG)(j:dF d):PR C 86 [eS T cV d,eS F cV e] (I (jQ d e)):=by
 apply agd.pr;let⟨j,n⟩:=j;unfold Sm at j;apply bG (λb:Nat=>[I 0,I b]) (λ_=>[]) (λb=>Z d -b) (λb=>b<=Z d/\b<=Z e/\jQ d e=jQ (d.drop b) (e.drop b)) 0 (by simp);rintro b ⟨l,m,f⟩ k o;simp only[bz,aX,O,i,G,A,jD,decide_eq_true_eq,a];by_cases g:b<Z d;by_cases h:b<Z e;rw[oI g,oI h,jQ]at f;simp only[g,h,decide_true,if_true,c5,aE g (s4 _),aE h (s4 _),O,u9];apply c (agE _ _ (by grind))
 simp only[cv,O,c5,bne_iff_ne,ne_eq];split;simp_all;rename_i heq;rw[if_pos (by omega)]at f;rw[aZ,O];grind;have:b=Z e:=by omega
 subst this;simp only[g,if_true,cn,decide_false,c5,e6,if_false];apply c (zJ _ _);rw[qq,TT,rh,KW (by omega)]at f;simp[f];have:b=Z d:=by omega
 subst this;simp only[cn,e6,if_false,c5];apply c (zJ _ _);rw[qq,TR,rh,KV (by omega)]at f;simp[f]
theorem agF(d e:List aG)(j:dF d):PR C 139 [eS T cV d,eS F cV e,.fn 140 [] []] (I (jQ d e)):=by
 apply RD.pr;let⟨j,n⟩:=j;unfold Sm at j;simp only[aX,O];apply bG (λb:Nat=>[I 0,I b]) (λ_=>[]) (λb=>Z d -b) (λb=>b<=Z d/\b<=Z e/\jQ d e=jQ (d.drop b) (e.drop b)) 0 (by simp);rintro b ⟨l,m,g⟩ k o;simp only[O,i,G,A,c6,c5,decide_eq_true_eq,beq_iff_eq,a,arO];split;rename_i h;simp only[aE h (s4 _),O,u9,xZ];split;rename_i f;subst f;rw[qq,TT,rh,KW (by omega)]at g;simp_all[Bz];rename_i f
 have f:b<Z e:=by omega
 rw[oI h,oI f,jQ]at g;simp only[aE f (s4 _),O,u9,Bm,lL,e4,ns,dR,sQ];apply c (args:=[.agg (cV d[b]),.agg (cV e[b])]) (TU _ _ (by grind));simp only[cv,O,c5,bne_iff_ne,ne_eq];split;simp_all;rename_i heq;rw[if_pos (by omega)]at g;rw[aZ,O];grind;rename_i h;have:b=Z d:=by omega
 subst this;apply c (zK _ _);rw[qq,TR,rh,KV (by omega)]at g;simp[g]
theorem KX(a b:List aG)(d:dF a):PR C 82 [eS T cV a,eS F cV b] (I (jQ a b)):=by
 apply S3.pr;exact c (agF _ _ d) (by simp)
def pc(a:Int):Bool:=y (97<=a)&&y (a<=122)||y (65<=a)&&y (a<=90)||y (48<=a)&&y (a<=57)||(a==95)
def fa(a:UInt8):Bool:=pc a.toNat
def og(e b:Int)(a:d):Bool:=
 match a with
 |[]=>ab
 |c::f=>y (Z a<=16)&&y (e<=c.toNat)&&y ((c.toNat:Int)<=b)&&f.all fa
def mR(a:d):Bool:=gM.contains a
def bY(a:d):Bool:=og 97 122 a&& !mR a
def isVar(a:d):Bool:=og 65 90 a
def nJ(a:aG):Bool:=if a.ty=1 then y (0<=a.n)&&y (a.n<=9999)&&(a.s==[])else(a.ty==2)&&(a.n==0)&&bY a.s
theorem agG(a:UInt8):PR C 232 [.int .u8 a.toNat] (.bool (fa a)):=by
 apply aea.pr;simp only[bz,hz,kL,c6,O,jD,G,qM,qP,fa,pc];grind
theorem TV(a:UInt8):PR C 292 [.int .u8 a.toNat] (.bool (fa a)):=by
 apply aeG.pr;simp only[bz,hz,kL,c6,O,jD,G,qM,qP,fa,pc];grind
theorem agH(a:Int):PR C 222 [.int .i32 a] (.bool (!pc a)):=by
 apply Tb.pr;simp only[bz,hz,kL,c6,O,bI,jD,G,qM,qP,pc];grind
theorem agI:PR C 287 [] (eS ab cS gM):=by
 apply afF.pr;show aM _ _ (eS ab cS gM) (eS ab cS gM);exact(F5 _ _).snap
theorem TW[BEq K][LawfulBEq K](h:U<Z x):(x.drop U).contains dW=((dW==x[U])||(x.drop (U+1)).contains dW):=by
 grind[List.drop_eq_getElem_cons]
theorem agJ(e:d):PR C 233 [.str e] (.bool (mR e)):=by
 apply aeB.pr;apply c (agI);apply bG (λb:Nat=>[ff,I b]) (λ_=>[]) (λb=>Z gM -b) (λb=>b<=Z gM/\mR e=(gM.drop b).contains e) 0 (by simp[mR]);rintro b ⟨m,f⟩ l j;simp only[aX,O,i,G,A,c5,decide_eq_true_eq,a];split;rename_i h;rw[TW h]at f;simp only[aE h (iS _),O,aJ,lO,gW,c5,beq_iff_eq];split;simp_all;rename_i g;have n:Z gM=10:=rfl;rw[aZ,O];refine j (b+1) ⟨h,?_⟩ (by omega);rw[f]
 have:(e==gM[b])=false:=by simpa usingλk=>g k.symm
 rw[this,l4];simp_all[uP]
theorem mS(e c:Int)(a:UInt8)(b:d):og e c (a::b)=(y (Z (a::b)<=16)&&y (e<=a.toNat)&&y ((a.toNat:Int)<=c)&&b.all fa):=rfl
theorem DH{a:UInt8}(b:97<=(a.toNat:Int))(c:(a.toNat:Int)<=122):fa a=true:=by grind[fa,pc]
theorem agK{a:UInt8}(b:65<=(a.toNat:Int))(c:(a.toNat:Int)<=90):fa a=true:=by grind[fa,pc]
variable{ee:K -> Bool}
theorem DI(h:U<Z x):(x.drop U).all ee=(ee x[U]&&(x.drop (U+1)).all ee):=by
 grind[List.drop_eq_getElem_cons]
@[simp] theorem BA(a:UInt8)(b:List UInt8):mc (.str (a::b)) (I 0)=aa (.int .u8 a.toNat):=rfl
theorem agL(f:d):PR C 179 [.str f] (.bool (bY f)):=by
 apply af0.pr;rcases f with _|⟨b,g⟩;simp[bz,bY,og];have k:¬((Z (b::g):Nat):Int)<1:=by simp;omega
 simp only[bz,zA,O,A,eU,jD,BA,decide_eq_false k,if_true,G,c5];by_cases l:(16:Int)<Z (b::g);have:bY (b::g)=false:=by simp only[bY,mS];rw[decide_eq_false (by omega)];simp
 simp_all;have m:Z (b::g)<=16:=by omega
 simp only[l,decide_false,if_true];by_cases n:(b.toNat:Int)<97;simp_all[bY,mS,decide_eq_false];simp only[n,decide_false,if_true];by_cases o:(122:Int)<b.toNat;simp_all[bY,mS,decide_eq_false];simp only[o,decide_false,e6,if_false];have p:bY (b::g)=((b::g).all fa&& !mR (b::g)):=by
  simp only[bY,mS,oF,DH (a:=b) (by omega) (by omega)];rw[decide_eq_true m,decide_eq_true (show(97:Int)<=b.toNat by omega),decide_eq_true (show(b.toNat:Int)<=122 by omega)];simp
 generalize b::g=f at*;apply bG (λe:Nat=>[ff,I e]) (λ_=>[]) (λe=>Z f -e) (λe=>e<=Z f/\f.all fa=(f.drop e).all fa) 0 (by simp);rintro e ⟨t,j⟩ r q;simp only[O,i,G,A,c5,decide_eq_true_eq,a];split;rename_i h;rw[DI h]at j;simp only[Dy h,O];apply c (agG _);simp only[bI,O,c5,hv];split;simp_all;rename_i s;rw[aZ,O];refine q (e+1) ⟨h,?_⟩ (by omega);simp_all;rename_i h;rw[uP (by omega)]at j;apply c (agJ _)
 simp[p,j]
theorem wB(a:aG):PR C 117 [.agg (cV a)] (.bool (nJ a)):=by
 apply ae0.pr;simp only[bz,Bn,O,bh,aJ,Dr,Gb,Gc,c6,hz,kL,gW,jD,c5,beq_iff_eq,G,e,nJ];split;simp_all;by_cases b:a.ty=2;by_cases d:a.n=0;simp only[b,d,if_true,beq_self_eq_true];exact c (agL _) (by simp);simp_all;simp[b]
theorem s9(f:d):PR C 246 [.str f] (.bool (bY f)):=by
 apply afB.pr rfl;simp only[cK,hZ];rcases f with _|⟨e,g⟩;simp[bz,bY,og];have n:(((Z (e::g):Nat):Int)==0)=false:=by simp;omega
 simp only[bz,zA,O,c6,A,eU,jD,BA,n,if_true,G,c5];by_cases o:(16:Int)<Z (e::g);have:bY (e::g)=false:=by simp only[bY,mS];rw[decide_eq_false (by omega)];simp
 simp_all;have p:Z (e::g)<=16:=by omega
 simp only[o,decide_false,if_true];by_cases q:(e.toNat:Int)<97;simp_all[bY,mS,decide_eq_false];simp only[q,decide_false,if_true];by_cases r:(122:Int)<e.toNat;simp_all[bY,mS,decide_eq_false];simp only[r,decide_false,e6,if_false];have D:bY (e::g)=((e::g).all fa&& !mR (e::g)):=by
  simp only[bY,mS,oF,DH (a:=e) (by omega) (by omega)];rw[decide_eq_true p,decide_eq_true (show(97:Int)<=e.toNat by omega),decide_eq_true (show(e.toNat:Int)<=122 by omega)];simp
 generalize e::g=f at*;apply bG (λb:Nat=>[ff,I b]) (λ_=>[]) (λb=>Z f -b) (λb=>b<=Z f/\f.all fa=(f.drop b).all fa) 0 (by simp);rintro b ⟨y,k⟩ w t;simp only[O,i,G,A,c5,decide_eq_true_eq,a];split;rename_i h;rw[DI h]at k;simp only[Dy h,O];apply c (TV _);simp only[bI,O,c5,hv];split;simp_all;rename_i j;rw[aZ,O];refine t (b+1) ⟨h,?_⟩ (by omega);simp_all;rename_i h;rw[uP (by omega)]at k
 have s:gv G0 1=.aH ab [eS ab cS gM] 0:=rfl;apply bG (λb:Nat=>[ff,I b]) (λ_=>[]) (λb=>Z gM -b) (λb=>b<=Z gM/\mR f=(gM.drop b).contains f) 0 (by simp[mR]);rintro m ⟨z,l⟩ x u;simp only[s,aJ,dj,aX,O,i,G,A,c5,decide_eq_true_eq,a];split;rename_i h;rw[TW h]at l;simp only[aE h (iS _),O,aJ,lO,gW,c5,beq_iff_eq];split;simp_all;rename_i j;have B:Z gM=10:=rfl;rw[aZ,O];refine u (m+1) ⟨h,?_⟩ (by omega);rw[l]
 have:(f==gM[m])=false:=by simpa usingλv=>j v.symm
 simp_all;simp_all[uP]
theorem GJ(e:d):PR C 249 [.str e] (.bool (isVar e)):=by
 apply afC.pr;rcases e with _|⟨f,g⟩;simp[bz,isVar,og];have n:(((Z (f::g):Nat):Int)==0)=false:=by simp;omega
 simp only[bz,zA,O,c6,A,eU,jD,BA,n,if_true,G,c5];by_cases o:(16:Int)<Z (f::g);have:isVar (f::g)=false:=by simp only[isVar,mS];rw[decide_eq_false (by omega)];simp
 simp_all;have p:Z (f::g)<=16:=by omega
 simp only[o,decide_false,if_true];by_cases r:(f.toNat:Int)<65;simp_all[isVar,mS,decide_eq_false];simp only[r,decide_false,if_true];by_cases t:(90:Int)<f.toNat;simp_all[isVar,mS,decide_eq_false];simp only[t,decide_false,e6,if_false];have x:isVar (f::g)=((f::g).drop 1).all fa:=by
  simp only[isVar,mS,List.drop_one,List.tail_cons];rw[decide_eq_true p,decide_eq_true (show(65:Int)<=f.toNat by omega),decide_eq_true (show(f.toNat:Int)<=90 by omega)];simp
 have y:1<=Z (f::g):=by simp
 generalize f::g=e at*;apply bG (λb:Nat=>[ff,I b]) (λ_=>[]) (λb=>Z e -b) (λb=>b<=Z e/\isVar e=(e.drop b).all fa) 1 ⟨y,x⟩;rintro b ⟨E,k⟩ m z;simp only[O,i,G,A,c5,decide_eq_true_eq,a];split;rename_i h;rw[DI h]at k;simp only[Dy h,O];apply c (TV _);simp only[bI,O,jD,cv];have go:fa e[b]=ad->(bd (aT .s .add (I ↑b) (I 1)) λB=>m [ff,B] []):=by
  intro j;rw[aZ,O];refine z (b+1) ⟨h,?_⟩ (by omega);simp_all
 rcases j:fa e[b]with _|_;have u:¬((e[b].toNat:Int)=95):=by intro q;simp[fa,pc,q]at j
 have D:(e[b].toNat:Int)<48\/(57:Int)<e[b].toNat:=by
  rcases Fc (e[b].toNat:Int) 48 with q|q;exact .inl q;rcases Fc 57 (e[b].toNat:Int)with l|l;exact .inr l;simp[fa,pc]at j;omega
 have w:((e[b].toNat:Int) !=95)=true:=by simpa using u
 simp only[ri,if_true,w,k,j,vX];by_cases v:(e[b].toNat:Int)<48;simp[v];simp_all;grind;simp_all[uP]
def b2(c:K->Bool)(b:List K):Int:=match b.findIdx? c with|aa a=>(a:Int)|ae=> -1
theorem TX(b:K->Bool)(a:List K):(0<=b2 b a)<->a.any b=true:=by
 grind[b2]
theorem ue(b:U<Z x)(d:∀a(c:a<Z x),a<U->ee x[a]=ab)(h:ee x[U]=ad):b2 ee x=U:=by
 grind[List.findIdx?_eq_some_iff_getElem,b2]
theorem wC(c:∀a(b:a<Z x),ee x[a]=ab):b2 ee x= -1:=by
 have:x.findIdx? ee=none:=by
  rw[y8];intro e d;obtain⟨a,b,rfl⟩:=kg.1 d;exact c a b
 simp[b2,this]
def TY(C:fu)(d:Nat)(h:Bool)(e k:AV)(c:List Obj)(Q:AV->List Obj->Prop):Prop:=
 bd (gu .sl e c) λl=>
 jB (λb a j=>
 bd (aT .s .lss (g b 1) l) λm=>
 ez m (
 bd (bP d e (g b 1) a) λn=>
 bd (aQ d h n a) λo=>
 cq (lL k [(AV.pl o)]) λi f=>
 cp C i f a λp=>
 ez p (
 Q (AV.pl (g b 1)) a) (
 bd (aT .s .add (g b 1) (I 1)) λq=>
 j [(g b 0),q] a)) (
 Q (AV.pl (I (-1))) a)) [(I 0),(I 0)] c
def fL(C:fu)(e:AV)(d r:AV):Prop:=∃b a,lL e [d]=aa (b,a)/\PR C b a r/\∀c,b7 c .dm (a.map AV.pl) a
variable{dG:AV}
theorem fL.cp{r:AV}(h:fL C E dG r)(f:kh r):cq (lL E [dG]) λb a=>cp C b a M kh:=by
 let⟨b,a,c,d,e⟩:=h;rw[c];exact⟨.dm,a,r,by decide,e M,d,(λdG=>by cases dG),f⟩
theorem vb{r:AV}(h:PR C U [E] r)(a:Im E):fL C (.fn U [] []) E r:=
 ⟨U,[E],rfl,h,λb=>by rw[bT.pl (by simp[a])];simp_all[bT.snap]⟩
theorem wD{f:K->AV}(c:List K)(o:Sm c)(q:∀b,Z (a7 b)=U)(p:∀F b l,aQ U T (.aH F (a7 b) 0) l=aa (f b))(r:∀b,(f b).pl=f b)
 (n:∀b∈c,fL C E (f b) (.bool (ee b))):TY C U T (eS F a7 c) E [] (λs m=>aM m .res s (I (b2 ee c))):=by
 unfold Sm at o;simp only[TY,aX,O];apply bG (λd:Nat=>[I 0,I d]) (λ_=>[]) (λd=>Z c -d) (λd=>d<=Z c/\∀e(j:e<Z c),e<d->ee c[e]=ab) 0 ⟨by simp,λe _ h=>absurd h (by omega)⟩;rintro d ⟨u,k⟩ t v;simp only[O,i,G,A,c5,decide_eq_true_eq,a];split;rename_i h;simp only[aE h (q _),O,p,r];apply(n _ (bn h)).cp;simp only[c5];split;rename_i g;simp[ue h k g];rename_i g;rw[aZ,O];grind;rename_i h
 simp[wC (λe j=>k e j (by omega))]
theorem agM{b:Lit->Bool}(f:E.pl=E)(a:List Lit)(e:Sm a)(d:∀c∈a,fL C E (.agg (bg F c)) (.bool (b c))):PR C 93 [eS T (bg F) a,E] (I (b2 b a)):=
 KT.pr (by simp[f]) (wD a e (jC F) (λ_ _ _=>rfl) (λ_=>rfl) d)
theorem TZ{b:S->Bool}(f:E.pl=E)(a:List S)(e:Sm a)(d:∀c∈a,fL C E (.agg (cF F c)) (.bool (b c))):PR C 78 [eS T (cF F) a,E] (I (b2 b a)):=
 Ry.pr (by simp[f]) (wD a e (fB F) (λ_ _ _=>rfl) (λ_=>rfl) d)
theorem agN{b:aK->Bool}(f:E.pl=E)(a:List aK)(e:Sm a)(d:∀c∈a,fL C E (.agg (cT c)) (.bool (b c))):PR C 214 [eS T cT a,E] (I (b2 b a)):=
 SJ.pr (by simp[f]) (wD a e kt (λ_ _ _=>rfl) (λ_=>rfl) d)
theorem agO{b:bQ->Bool}(f:E.pl=E)(a:List bQ)(e:Sm a)(d:∀c∈a,fL C E (.agg (bp F c)) (.bool (b c))):PR C 328 [eS T (bp F) a,E] (I (b2 b a)):=
 SY.pr (by simp[f]) (wD a e (kK F) (λ_ _ _=>rfl) (λ_=>rfl) d)
theorem agP{b:Fn->Bool}(f:E.pl=E)(a:List Fn)(e:Sm a)(d:∀c∈a,fL C E (.agg (cm F c)) (.bool (b c))):PR C 329 [eS T (cm F) a,E] (I (b2 b a)):=
 Sd.pr (by simp[f]) (wD a e (s5 F) (λ_ _ _=>rfl) (λ_=>rfl) d)
theorem agQ{b:cO->Bool}(f:E.pl=E)(a:List cO)(e:Sm a)(d:∀c∈a,fL C E (.agg (bO F c)) (.bool (b c))):PR C 333 [eS T (bO F) a,E] (I (b2 b a)):=
 Se.pr (by simp[f]) (wD a e (ji F) (λ_ _ _=>rfl) (λ_=>rfl) d)
theorem agR{b:aD->Bool}(f:E.pl=E)(a:List aD)(e:Sm a)(d:∀c∈a,fL C E (.agg (aS F c)) (.bool (b c))):PR C 336 [eS T (aS F) a,E] (I (b2 b a)):=
 Sy.pr (by simp[f]) (wD a e (mP F) (λ_ _ _=>rfl) (λ_=>rfl) d)
theorem agS{b:d->Bool}(g:E.pl=E)(a:List d)(f:Sm a)(e:∀c∈a,fL C E (.str c) (.bool (b c))):PR C 343 [eS T cS a,E] (I (b2 b a)):=
 aek.pr (by simp[g]) (wD a f iS (λ_ _ _=>rfl) (λ_=>rfl) e)
theorem agT{b:Int->Bool}(f:E.pl=E)(a:List Int)(e:Sm a)(d:∀c∈a,fL C E (I c) (.bool (b c))):PR C 344 [eS T cI a,E] (I (b2 b a)):=
 TL.pr (by simp[f]) (wD a e jh (λ_ _ _=>rfl) (λ_=>rfl) d)
theorem ta(h:PR C U [E,dG] (I (b2 ee x)))(d:∀a,b7 a .dm ([E,dG].map AV.pl) [E,dG]):
 cp C U [E,dG] [] λf=>bd (aT .s .geq f (I 0)) λg=>(λe b=>aM b .res e (.bool (x.any ee))) (AV.pl g) []:=by
 refine⟨.dm,_,_,by decide,d [],h,(λc=>by cases c),?_⟩;grind[hz,O,qM,qP,TX]
def h9(a:AV):Prop:=a.pl=a/\∀b,aM b .dm a a
theorem Im.still(h:Im E):h9 E:=⟨h.pl,λ_=>h.snap⟩
theorem h9.two(b:h9 E)(c:h9 dG):∀a,b7 a .dm ([E,dG].map AV.pl) [E,dG]:=λa=>by
 simp only[ej,ns,b.1,c.1];exact .ck (b.2 a) (.ck (c.2 a) (.nil _))
theorem agU{c:S->Bool}(b:h9 E)(a:List S)(f:Sm a)(e:∀d∈a,fL C E (.agg (cF F d)) (.bool (c d))):PR C 67 [eS T (cF F) a,E] (.bool (a.any c)):=
 aeU.pr (by simp[b.1]) (ta (TZ b.1 a f e) (h9.two (acX _ _ _).still b))
theorem KY{c:aK->Bool}(b:h9 E)(a:List aK)(f:Sm a)(e:∀d∈a,fL C E (.agg (cT d)) (.bool (c d))):PR C 159 [eS T cT a,E] (.bool (a.any c)):=
 RG.pr (by simp[b.1]) (ta (agN b.1 a f e) (h9.two (QB _ _).still b))
theorem agV{c:bQ->Bool}(b:h9 E)(a:List bQ)(f:Sm a)(e:∀d∈a,fL C E (.agg (bp F d)) (.bool (c d))):PR C 296 [eS T (bp F) a,E] (.bool (a.any c)):=
 SU.pr (by simp[b.1]) (ta (agO b.1 a f e) (h9.two (QD _ _ _).still b))
theorem agW{c:Fn->Bool}(b:h9 E)(a:List Fn)(f:Sm a)(e:∀d∈a,fL C E (.agg (cm F d)) (.bool (c d))):PR C 298 [eS T (cm F) a,E] (.bool (a.any c)):=
 Sr.pr (by simp[b.1]) (ta (agP b.1 a f e) (h9.two (QE _ _ _).still b))
theorem agX{c:cO->Bool}(b:h9 E)(a:List cO)(f:Sm a)(e:∀d∈a,fL C E (.agg (bO F d)) (.bool (c d))):PR C 302 [eS T (bO F) a,E] (.bool (a.any c)):=
 Su.pr (by simp[b.1]) (ta (agQ b.1 a f e) (h9.two (QF _ _ _).still b))
theorem agY{c:aD->Bool}(b:h9 E)(a:List aD)(f:Sm a)(e:∀d∈a,fL C E (.agg (aS F d)) (.bool (c d))):PR C 306 [eS T (aS F) a,E] (.bool (a.any c)):=
 TI.pr (by simp[b.1]) (ta (agR b.1 a f e) (h9.two (QG _ _ _).still b))
theorem agZ{c:d->Bool}(b:h9 E)(a:List d)(g:Sm a)(f:∀e∈a,fL C E (.str e) (.bool (c e))):PR C 331 [eS T cS a,E] (.bool (a.any c)):=
 af8.pr (by simp[b.1]) (ta (agS b.1 a g f) (h9.two (F5 _ _).still b))
theorem ag0{c:Int->Bool}(b:h9 E)(a:List Int)(f:Sm a)(e:∀d∈a,fL C E (I d) (.bool (c d))):PR C 334 [eS T cI a,E] (.bool (a.any c)):=
 Sf.pr (by simp[b.1]) (ta (agT b.1 a f e) (h9.two (Kj _ _).still b))
theorem ag1{c:Lit->Bool}(b:h9 E)(a:List Lit)(f:Sm a)(e:∀d∈a,fL C E (.agg (bg F d)) (.bool (c d))):PR C 338 [eS T (bg F) a,E] (.bool (a.any c)):=
 RR.pr (by simp[b.1]) (ta (agM b.1 a f e) (h9.two (QC _ _ _).still b))
def T0(d:Nat)(e h:AV)(c:List Obj)(Q:AV->List Obj->Prop):Prop:=
 bd (gu .sl e c) λi=>
 jB (λa b f=>
 bd (aT .s .lss (g a 1) i) λj=>
 ez j (
 bd (bP d e (g a 1) b) λk=>
 bd (aQ d ab k b) λl=>
 bd (aT .s .eql h l) λm=>
 ez m (
 Q (AV.pl (g a 1)) b) (
 bd (aT .s .add (g a 1) (I 1)) λn=>
 f [(g a 0),n] b)) (
 Q (AV.pl (I (-1))) b)) [(I 0),(I 0)] c
theorem T1[BEq K]{f:K->AV}(d:List K)(b:K)(p:Sm d)(r:∀b,Z (a7 b)=1)(q:∀T b m,aQ 1 ab (.aH T (a7 b) 0) m=aa (f b))(o:∀b l,aT .s .eql (f b) (f l)=aa (.bool (b==l))):
 T0 1 (eS T a7 d) (f b) [] (λu n=>aM n .res u (I (b2 (b==·) d))):=by
 unfold Sm at p;simp only[T0,aX,O];apply bG (λc:Nat=>[I 0,I c]) (λ_=>[]) (λc=>Z d -c) (λc=>c<=Z d/\∀e(j:e<Z d),e<c->(b==d[e])=ab) 0 ⟨by simp,λe _ h=>absurd h (by omega)⟩;rintro c ⟨w,k⟩ v x;simp only[O,i,G,A,c5,decide_eq_true_eq,a];split;rename_i h;simp only[aE h (r _),O,q,o,c5];split;rename_i g;simp[ue (ee:=(b==·)) h k g];rename_i g;rw[aZ,O];grind;rename_i h
 simp[wC (ee:=(b==·)) (λe j=>k e j (by omega))]
theorem GK(a:List d)(b:d)(c:Sm a):PR C 109 [eS T cS a,.str b] (I (b2 (b==·) a)):=
 RC.pr rfl (T1 (f:=.str) a b c iS (λ_ _ _=>rfl) (by simp))
theorem T2(a:List Int)(b:Int)(c:Sm a):PR C 77 [eS T cI a,I b] (I (b2 (b==·) a)):=
 Si.pr rfl (T1 (f:=I) a b c jh (λ_ _ _=>rfl) (by simp))
theorem T4[BEq K][LawfulBEq K](a:List K)(b:K):a.any (b==·)=a.contains b:=by
 grind
theorem yj(a:List d)(b:d)(c:Sm a):PR C 162 [eS T cS a,.str b] (.bool (a.contains b)):=by
 rw[<-T4];exact SH.pr rfl (ta (GK a b c) (h9.two (F5 _ _).still (Qv _).still))
theorem T5(a:List Int)(b:Int)(c:Sm a):PR C 28 [eS T cI a,I b] (.bool (a.contains b)):=by
 rw[<-T4];exact S1.pr rfl (ta (T2 a b c) (h9.two (Kj _ _).still (acQ _ _).still))
theorem ag2(a:UInt8):fa a=(!(((a.toNat:Int) !=95)&&((y ((a.toNat:Int)<48)||y (57<(a.toNat:Int)))&&(y ((((BitVec.ofInt 8 (a.toNat:Int)|||BitVec.ofInt 8 32).toNat:Nat):Int)<97)||y (122<(((BitVec.ofInt 8 (a.toNat:Int)|||BitVec.ofInt 8 32).toNat:Nat):Int)))))):=by
 have:∀b:Fin 256,pc (b.val:Int)=(!(((b.val:Int) !=95)&&((y ((b.val:Int)<48)||y (57<(b.val:Int)))&&(y ((((BitVec.ofInt 8 (b.val:Int)|||BitVec.ofInt 8 32).toNat:Nat):Int)<97)||y (122<(((BitVec.ofInt 8 (b.val:Int)|||BitVec.ofInt 8 32).toNat:Nat):Int)))))):=by decide+kernel
 exact this ⟨a.toNat,a.toNat_lt⟩
theorem ag3(bk:BK)(a:UInt8):aT bk .or (.int .u8 a.toNat) (.int .u8 32)=aa (.int .u8 ((BitVec.ofInt 8 (a.toNat:Int)|||BitVec.ofInt 8 32).toNat:Int)):=by
 have h:∀b:Fin 256,IntKind.u8.wrap ((BitVec.ofInt 8 (b.val:Int)|||BitVec.ofInt 8 32).toNat:Int)=((BitVec.ofInt 8 (b.val:Int)|||BitVec.ofInt 8 32).toNat:Int):=by decide+kernel
 have:=h ⟨a.toNat,a.toNat_lt⟩;exact congrArg (λb=>aa (AV.int .u8 b)) this
theorem T6(c:d)(g f:UInt8)(u:∀e:UInt8,(g.toNat:Int)<=e.toNat->(e.toNat:Int)<=f.toNat->fa e=ad):PR C 330 [.str c,.int .u8 g.toNat,.int .u8 f.toNat] (.bool (og g.toNat f.toNat c)):=by
 apply Tl.pr;rcases c with _|⟨e,j⟩;simp[bz,og];have n:((e::j)==([]:List UInt8))=false:=rfl;simp only[bz,zA,O,gW,A,eU,jD,BA,n,if_true,G,c5,Kp,Kr,aX];by_cases o:(16:Int)<Z (e::j);have:og g.toNat f.toNat (e::j)=false:=by simp only[mS];rw[decide_eq_false (by omega)];simp
 simp_all;have p:Z (e::j)<=16:=by omega
 simp only[o,decide_false,if_true];by_cases q:(e.toNat:Int)<g.toNat;simp_all[og,decide_eq_false];simp only[q,decide_false,if_true];by_cases r:(f.toNat:Int)<e.toNat;simp_all[og,decide_eq_false];simp only[r,decide_false,e6,if_false];have t:og g.toNat f.toNat (e::j)=(e::j).all fa:=by
  simp only[mS,oF,u e (by omega) (by omega)];rw[decide_eq_true p,decide_eq_true (show(g.toNat:Int)<=e.toNat by omega),decide_eq_true (show(e.toNat:Int)<=f.toNat by omega)];simp
 generalize e::j=c at*;apply bG (λb:Nat=>[ff,I b]) (λ_=>[]) (λb=>Z c -b) (λb=>b<=Z c/\c.all fa=(c.drop b).all fa) 0 (by simp);rintro b ⟨H,l⟩ m w;simp only[O,i,G,A,c5,decide_eq_true_eq,a];split;rename_i h;rw[DI h]at l;have v:aT .s .or (.int .u8 c[b].toNat) (.int .u8 (32))=aa (.int .u8 ((BitVec.ofInt 8 (c[b].toNat:Int)|||BitVec.ofInt 8 32).toNat:Int)):=ag3 .s c[b]
 simp only[aE h (Gk _),O,aJ,Gl,cv,jD,A,eU,v];have go:fa c[b]=ad->(bd (aT .s .add (I ↑b) (I 1)) λx=>m [ff,x] []):=by
  intro k;rw[aZ,O];refine w (b+1) ⟨h,?_⟩ (by omega);simp_all
 have no:fa c[b]=ab->aM [] .res (AV.pl ff) (.bool (og g.toNat f.toNat c)):=by
  intro k;simp[t,l,k]
 rw[ag2]at go no;revert go no;generalize((c[b].toNat:Int) !=95)=z;generalize y ((c[b].toNat:Int)<48)=F;generalize y (57<(c[b].toNat:Int))=B;generalize y ((((BitVec.ofInt 8 (c[b].toNat:Int)|||BitVec.ofInt 8 32).toNat:Nat):Int)<97)=D;generalize y (122<(((BitVec.ofInt 8 (c[b].toNat:Int)|||BitVec.ofInt 8 32).toNat:Nat):Int))=E;simp_all;simp_all[uP]
theorem KZ(a:d):PR C 309 [.str a] (.bool (isVar a)):=by
 apply Sb.pr;exact c (T6 a 65 90 (λf b e=>agK b e)) (by simp[isVar])
theorem ag4(a:d):mR a=(a==[108,97,116,116,105,99,101]||(a==[102,117,110,99,116,105,111,110]||(a==[111,110]||(a==[98,97,115,101]||(a==[118,105,101,119]||(a==[107,101,121]||(a==[100,101,110,121]||(a==[110,111,116]||(a==[105,110,116]||a==[115,121,109]))))))))):=by
 simp only[mR,gM,List.contains_cons,List.contains_nil,OT]
theorem yk(a:d):PR C 300 [.str a] (.bool (bY a)):=by
 apply Ss.pr;have yes:mR a=ad->aM [] .res (AV.pl ff) (.bool (bY a)):=by
  intro h;simp[bY,h]
 have no:mR a=ab->(cp C 330 [.str a,.int .u8 (97),.int .u8 (122)] [] λb=>aM [] .res (AV.pl b) (.bool (bY a))):=by
  intro h;exact c (T6 a 97 122 (λj e f=>DH e f)) (by simp[bY,h])
 rw[ag4]at yes no;simp only[bz,gW,O,G,c5];revert yes no;generalize(aM [] .res (AV.pl ff) (.bool (bY a)))=g;generalize(cp C 330 [.str a,.int .u8 (97),.int .u8 (122)] [] λb=>aM [] .res (AV.pl b) (.bool (bY a)))=i;intro yes no
 repeat' split
 all_goals grind
def wE:List (Nat×Nat):=[(118,3),(124,1),(267,1),(268,2),(271,4),(272,9)]
structure e8(C:fu):Prop where
 ag5:∀s:d,Sm s->PR C 321 [.str s,.fn 222 [] [],tt] (I (b2 (λc=> !fa c) s))
 BB:∀f sz,(f,sz)∈wE->∀b H,C f [.sl b []] H (.q (Z H+1) 0 0 0) (H++[.arr 0 sz [],.arr 0 sz []])
def iN(a:aK):Bool:=if a.aF=[]then nJ a.const else isVar a.aF&&y (a.const=⟨0,0,[]⟩)
def eX(b:Int)(c:K->Bool)(a:List K):Bool:=y ((Z a:Int)<=b)&&a.all c
def oh(a:Lit):Bool:=
 decide (0<=a.bb)&&y (1<=a.ax)&&y (a.ax<=5)&&eX 4 iN a.af&&
 (if(a.ax==5)=ad then a.au==[]else bY a.au)&&(if(a.ax==3||a.ax==4)=ad then bY a.aj else a.aj==[])&&(a.bind==[]||a.ax==1&&isVar a.bind)&&
 (if(a.ax==5)=ad then((Z a.af:Int)==2)&&y (1<=a.op)&&y (a.op<=4)else a.op==0)
def nK(r:aD):Bool:=
 decide (0<=r.bb)&&y (0<=r.aj.ax)&&y (r.aj.ax<=3)&&(r.au==[]||bY r.au)&&(!(r.au==[])|| !(y (0<(Z r.af:Int))|| !(r.aj.ax==0)))&&
 (if(r.aj.ax==1||r.aj.ax==3)=ad then bY r.aj.au else r.aj.au==[])&&(if(r.aj.ax==2||r.aj.ax==3)=ad then isVar r.aj.aF else r.aj.aF==[])&&
 eX 4 iN r.af&&eX 8 oh r.ai
def uf(a:Fn):Bool:=y (0<=a.bb)&&bY a.au&&bY a.aN&&((Z a.src:Int)==Z a.dst)&&eX 8 bY a.src&&eX 8 bY a.dst
def mT(a:Int):Bool:=a==1||a==2
def ug(a:cO):Bool:=
 decide (0<=a.bb)&&bY a.au&&(a.aN==[]||bY a.aN)&&eX 4 mT a.a6&&
 decide (0<=a.fy)&&y (a.fy<=(Z a.a6:Int))&&(a.fy==(Z a.a6:Int)||a.ek&&a.aN==[])
def zL(a:bQ):Bool:=y (0<=a.bb)
def rY(a:D):Bool:=eX 4 zL a.aw&&eX 8 uf a.aO&&eX 24 ug a.Q&&eX 40 nK a.ak
def T7(C:fu)(b:Nat)(e f:AV)(a:List Obj)(Q:AV->List Obj->Prop):Prop:=
 bd (j2 b e) λg=>
 bd (aQ 1 ab f a) λh=>
 bd (aQ b ad g a) λi=>
 cq (lL h [(AV.pl i)]) λd c=>
 cp C d c a λj=>
 bd (nw .not j) λk=>
 Q (AV.pl k) a
def T8(C:fu)(d e:AV)(a:List Obj)(Q:AV->List Obj->Prop):Prop:=
 bd (aQ 1 ab e a) λf=>
 cq (lL f [(AV.pl d)]) λc b=>
 cp C c b a λg=>
 bd (nw .not g) λh=>
 Q (AV.pl h) a
theorem BC(a:Z bF=U)(c:bF.all AV.bU=ad)(h:fL C E (.agg bF) (.bool T)):T7 C U (.agg bF) (.aH ad [E] 0) [] (λd b=>aM b .res d (.bool (!T))):=by
 simp only[T7,uc a c,O,aJ,dj,ac0 a,Bm];exact h.cp (by simp)
theorem T9(b:E.pl=E)(h:fL C dG E (.bool T)):T8 C E (.aH ad [dG] 0) [] (λc a=>aM a .res c (.bool (!T))):=by
 simp only[T8,O,aJ,dj,b];exact h.cp (by simp)
theorem yl(h:PR C U [dG,.aH ad [E] 0] (.bool (!T)))(d:h9 E)(b:h9 dG):fL C (.fn U [] [.aH ad [E] 0]) dG (.bool (!T)):=by
 have c:h9 (.aH ad [E] 0):=⟨rfl,λa=>.uV _ (by decide) _ _ _ _ (.ck (d.2 a) (.nil _))⟩;exact⟨U,[dG,.aH ad [E] 0],rfl,h,h9.two b c⟩
theorem ym(b:h9 E):h9 (.fn U [] [.aH ad [E] 0]):=
 ⟨rfl,λa=>.fn _ _ _ _ _ _ (.nil _) (.ck (.uV _ (by decide) _ _ _ _ (.ck (b.2 a) (.nil _))) (.nil _))⟩
def Ua(C:fu)(h i:Nat)(c j l:AV)(e:List Obj)(Q:AV->List Obj->Prop):Prop:=
 cq (nC 1 l e) λm a=>
 jn (λb=>
 bd (gu .sl c a) λn=>
 bd (aT .s .leq n j) λo=>
 gd o ad (
 (λp=>
 cp C h [c,p] a λq=>
 bd (nw .not q) λk=>
 b [k] a) (AV.fn i [] [(AV.pl m)])) (
 b [ff] a)) λd f=>
 Q (AV.pl (g d 0)) f
theorem ag6(a:Bool):NB (.bool a):=.bool a
theorem yn(m:∀i,gu .sl E i=aa (I z))(d:z=Z x)(c:Im E)(e:Im dG)(g:dG.bU=ad)
 (h:PR C U [E,.fn N [] [.aH ad [dG] 0]] (.bool (x.any λb=> !ee b))):Ua C U N E (I f) dG [] (λn j=>aM j .res n (.bool (eX f ee x))):=by
 have l:nC 1 dG []=aa (.ptr 0 0 0 0,[.arr 0 1 [[dG]]]):=by
  have k:dG.pl.cells=[dG]:=by rw[e.pl];cases dG<;>first|rfl|cases g
  have:dO 1 dG=aa [dG]:=by
   unfold dO;rw[k];exact if_pos ⟨rfl,by simp[g]⟩
  simp[nC,this]
 simp only[Ua,l,e4,bz,m,O,kL,jD,zz];split;rename_i a;refine eV (bF:=[E,.fn N [] [.aH ad [dG] 0]]) _ h ?_ (ag6 _) ?_;simp only[ej,ns,c.pl,acZ];refine .ck c.snap (.ck (.fn _ _ _ _ _ _ (.nil _) (.ck ?_ (.nil _))) (.nil _));exact .o2 0 0 0 0 1 [[dG]] [dG] [dG] rfl rfl (.ck e.snap (.nil _));have:x.all ee= !(x.any λb=> !ee b):=by simp[arP]
 simp only[bI,O,G,qM,qP,eX,this];rw[<-d,a,c3];rename_i a;have:y ((Z x:Int)<=f)=false:=by rw[<-d];simpa using a
 simp[eX,this]
theorem ag7(a:aK)(b:Im E)(h:fL C E (.agg (cT a)) (.bool T)):PR C 337 [.agg (cT a),.aH ad [E] 0] (.bool (!T)):=
 SZ.pr rfl (BC rfl rfl h)
theorem ag8(a:Lit)(b:Im E)(h:fL C E (.agg (bg T a)) (.bool F)):PR C 339 [.agg (bg T a),.aH ad [E] 0] (.bool (!F)):=
 Tm.pr rfl (BC rfl rfl h)
theorem ag9(a:bQ)(b:Im E)(h:fL C E (.agg (bp T a)) (.bool F)):PR C 297 [.agg (bp T a),.aH ad [E] 0] (.bool (!F)):=
 agy.pr rfl (BC rfl rfl h)
theorem aha(a:Fn)(b:Im E)(h:fL C E (.agg (cm T a)) (.bool F)):PR C 299 [.agg (cm T a),.aH ad [E] 0] (.bool (!F)):=
 af7.pr rfl (BC rfl rfl h)
theorem ahb(a:cO)(b:Im E)(h:fL C E (.agg (bO T a)) (.bool F)):PR C 303 [.agg (bO T a),.aH ad [E] 0] (.bool (!F)):=
 TH.pr rfl (BC rfl rfl h)
theorem ahc(a:aD)(b:Im E)(h:fL C E (.agg (aS T a)) (.bool F)):PR C 307 [.agg (aS T a),.aH ad [E] 0] (.bool (!F)):=
 Sw.pr rfl (BC rfl rfl h)
theorem ahd(a:d)(b:Im E)(h:fL C E (.str a) (.bool T)):PR C 332 [.str a,.aH ad [E] 0] (.bool (!T)):=
 afG.pr rfl (T9 rfl h)
theorem ahe(a:Int)(b:Im E)(h:fL C E (I a) (.bool T)):PR C 335 [I a,.aH ad [E] 0] (.bool (!T)):=
 RQ.pr rfl (T9 rfl h)
theorem Ub{d:aK->Bool}(b:Im E)(h:E.bU=ad)(a:List aK)(g:Sm a)(e:∀c∈a,fL C E (.agg (cT c)) (.bool (d c))):PR C 310 [eS T cT a,I f,E] (.bool (eX f d a)):=
 Ti.pr (by simp[b.pl]) (yn (by simp) rfl (QB T a) b h (KY (ym b.still) a g (λc i=>yl (ag7 c b (e c i)) b.still (by simp[Im.still]))))
theorem ahf{d:Lit->Bool}(b:Im E)(h:E.bU=ad)(a:List Lit)(g:Sm a)(e:∀c∈a,fL C E (.agg (bg F c)) (.bool (d c))):PR C 312 [eS T (bg F) a,I f,E] (.bool (eX f d a)):=
 Tj.pr (by simp[b.pl]) (yn (by simp) rfl (QC T F a) b h (ag1 (ym b.still) a g (λc i=>yl (ag8 c b (e c i)) b.still (by simp[Im.still]))))
theorem ahg{d:bQ->Bool}(b:Im E)(h:E.bU=ad)(a:List bQ)(g:Sm a)(e:∀c∈a,fL C E (.agg (bp F c)) (.bool (d c))):PR C 257 [eS T (bp F) a,I f,E] (.bool (eX f d a)):=
 TF.pr (by simp[b.pl]) (yn (by simp) rfl (QD T F a) b h (agV (ym b.still) a g (λc i=>yl (ag9 c b (e c i)) b.still (by simp[Im.still]))))
theorem ahh{d:Fn->Bool}(b:Im E)(h:E.bU=ad)(a:List Fn)(g:Sm a)(e:∀c∈a,fL C E (.agg (cm F c)) (.bool (d c))):PR C 258 [eS T (cm F) a,I f,E] (.bool (eX f d a)):=
 RM.pr (by simp[b.pl]) (yn (by simp) rfl (QE T F a) b h (agW (ym b.still) a g (λc i=>yl (aha c b (e c i)) b.still (by simp[Im.still]))))
theorem ahi{d:cO->Bool}(b:Im E)(h:E.bU=ad)(a:List cO)(g:Sm a)(e:∀c∈a,fL C E (.agg (bO F c)) (.bool (d c))):PR C 260 [eS T (bO F) a,I f,E] (.bool (eX f d a)):=
 RN.pr (by simp[b.pl]) (yn (by simp) rfl (QF T F a) b h (agX (ym b.still) a g (λc i=>yl (ahb c b (e c i)) b.still (by simp[Im.still]))))
theorem ahj{d:aD->Bool}(b:Im E)(h:E.bU=ad)(a:List aD)(g:Sm a)(e:∀c∈a,fL C E (.agg (aS F c)) (.bool (d c))):PR C 262 [eS T (aS F) a,I f,E] (.bool (eX f d a)):=
 SM.pr (by simp[b.pl]) (yn (by simp) rfl (QG T F a) b h (agY (ym b.still) a g (λc i=>yl (ahc c b (e c i)) b.still (by simp[Im.still]))))
theorem Uc{e:d->Bool}(b:Im E)(i:E.bU=ad)(a:List d)(h:Sm a)(g:∀c∈a,fL C E (.str c) (.bool (e c))):PR C 301 [eS T cS a,I f,E] (.bool (eX f e a)):=
 afe.pr (by simp[b.pl]) (yn (by simp) rfl (F5 T a) b i (agZ (ym b.still) a h (λc j=>yl (ahd c b (g c j)) b.still (by simp[Im.still]))))
theorem ahk{d:Int->Bool}(b:Im E)(h:E.bU=ad)(a:List Int)(g:Sm a)(e:∀c∈a,fL C E (I c) (.bool (d c))):PR C 305 [eS T cI a,I f,E] (.bool (eX f d a)):=
 Sv.pr (by simp[b.pl]) (yn (by simp) rfl (Kj T a) b h (ag0 (ym b.still) a g (λc i=>yl (ahe c b (e c i)) b.still (by simp[Im.still]))))
theorem ahl(a:Int):PR C 304 [I a] (.bool (mT a)):=by
 apply SV.pr;simp only[bz,c6,O,jD,G,qM,qP,mT];grind
theorem GL(b:d)(a c:Bool)(h:PR C U [.str b] (.bool c)):PR C 308 [.str b,.bool a,.fn U [] []] (.bool (if a=ad then c else b==[])):=by
 apply SX.pr;simp only[bI,O,c5,gW,zy];rcases a with _|_;simp;simp only[rf,e6,if_false,if_true];exact(vb h (by simp)).cp (by simp)
theorem e8.ahm(g:e8 C)(e:d):PR C 167 [.str e] (.bool (bY e)):=by
 apply Sp.pr rfl;simp only[cK,hZ];rcases e with _|⟨a,b⟩;simp[bz,bY,og];have h:((a::b)==([]:List UInt8))=false:=rfl;have o:∀f,fA (.arr 10) (gv G0 0) ae ae f=aa (eS ab cS gM):=λ_=>rfl;simp only[bz,zA,O,gW,A,eU,jD,BA,h,if_true,G,c5,o];by_cases i:(16:Int)<Z (a::b);have:bY (a::b)=false:=by simp only[bY,mS];rw[decide_eq_false (by omega)];simp
 simp_all;have j:Z (a::b)<=16:=by omega
 simp only[i,decide_false,if_true];by_cases l:(a.toNat:Int)<97;simp_all[bY,mS,decide_eq_false];simp only[l,decide_false,if_true];by_cases n:(122:Int)<a.toNat;simp_all[bY,mS,decide_eq_false];simp only[n,decide_false,if_true];apply c (yj gM (a::b) (by simp[Sm,gM]));have r:bY (a::b)=((a::b).all fa&& !mR (a::b)):=by
  simp only[bY,mS,oF,DH (a:=a) (by omega) (by omega)];rw[decide_eq_true j,decide_eq_true (show(97:Int)<=a.toNat by omega),decide_eq_true (show(a.toNat:Int)<=122 by omega)];simp
 have p:gM.contains (a::b)=mR (a::b):=rfl;rw[p];have s:Sm (a::b):=by unfold Sm;omega
 generalize a::b=e at*;rcases q:mR e with _|_;simp only[c5,e6,if_false];have m:PR C 277 [.str e,.fn 222 [] []] (I (b2 (λa=> !fa a) e)):=by
  apply SQ.pr;exact c (g.ag5 e s) (by simp)
 have k:PR C 223 [.str e,.fn 222 [] []] (.bool (e.any λa=> !fa a)):=
  TE.pr rfl (ta m (h9.two (Qv e).still (show Im (.fn 222 [] [])by simp).still))
 apply c k;simp[r,q,arP];simp_all
theorem e8.Ud(d:e8 C)(a:aG):PR C 101 [.agg (cV a)] (.bool (nJ a)):=by
 apply RA.pr;simp only[bz,Bn,O,bh,aJ,Dr,Gb,Gc,c6,hz,kL,gW,jD,c5,beq_iff_eq,G,e,nJ];split;simp_all;by_cases b:a.ty=2;by_cases f:a.n=0;simp only[b,f,if_true,beq_self_eq_true];exact c (d.ahm _) (by simp);simp_all;simp[b]
variable{iB:Prop}
theorem aV(a:T=ad->fp)(b:T=ab->iB):gd (.bool T) ad fp iB:=by
 cases T<;>simp_all[jD]
theorem dH(a:T=ab->fp)(b:T=ad->iB):gd (.bool T) ab fp iB:=by
 cases T<;>simp_all[jD]
def lP(a:bQ):Prop:=Sm a.az/\Sm a.eK
def zM(a:Fn):Prop:=Sm a.src/\Sm a.dst/\Sm a.gU
def DJ(a:cO):Prop:=Sm a.a6
def vc(a:Lit):Prop:=Sm a.af
def pZ(r:aD):Prop:=Sm r.af/\Sm r.ai/\∀a∈r.ai,vc a
structure eA(p:D):Prop where
 aw:Sm p.aw
 aN:∀l∈p.aw,lP l
 aO:Sm p.aO
 fn:∀l∈p.aO,zM l
 Q:Sm p.Q
 tb:∀l∈p.Q,DJ l
 ak:Sm p.ak
 iU:∀l∈p.ak,pZ l
theorem ahn(a:bQ):PR C 256 [.agg (bp T a)] (.bool (zL a)):=by
 apply aeE.pr;simp[zL]
theorem e8.Ue(b:e8 C)(a:aK):PR C 311 [.agg (cT a)] (.bool (iN a)):=by
 apply Sx.pr;have d:mb [I 0,I 0,.str []] []=aa (cV ⟨0,0,[]⟩):=rfl;simp only[bz,zC,O,bh,aJ,rV,gW,c5,beq_iff_eq,e,Kk,d,iN,G];split;exact c (b.Ud _) (by simp);exact c (KZ _) (aV (λh=>by simp[h]) (λh=>by simp[h]))
theorem aho(b:Fn)(k:zM b):PR C 259 [.agg (cm T b)] (.bool (uf b)):=by
 apply afc.pr;simp only[bz,F7,O,bh,aJ,QL,QM,Dt,Du,QP,aX,hz,c6,e,G];have j:∀a:d,fL C (.fn 300 [] []) (.str a) (.bool (bY a)):=by simp[vb,yk]
 unfold uf;refine aV (λf=>?_) (λf=>by simp only[f,vX,qM,qP]);refine c (yk _) (aV (λg=>?_) (λg=>by simp only[g,vX,CI,qM,qP]));refine c (yk _) (aV (λh=>?_) (λh=>by simp only[h,vX,CI,qM,qP]));refine aV (λm=>?_) (by simp_all);refine c (Uc (e:=bY) (by simp) rfl _ k.1 (λa _=>j a)) (aV (λi=>?_) (λi=>by simp only[i,vX,CI,qM,qP]));apply c (Uc (e:=bY) (by simp) rfl _ k.2.1 (λa _=>j a));simp_all
theorem ahp(a:cO)(n:DJ a):PR C 261 [.agg (bO T a)] (.bool (ug a)):=by
 apply Td.pr;simp only[bz,F8,O,bh,aJ,QQ,wx,QR,Ge,QS,QT,aX,A,hz,kL,c6,gW,jE,e,G];have l:PR C 305 [eS T cI a.a6,I 4,.fn 304 [] []] (.bool (eX 4 mT a.a6)):=ahk (d:=mT) (by simp) rfl _ n (by simp[vb,ahl]);have m:y (0<=a.bb)= !y (a.bb<0):=by rw[<-decide_not];congr 1;simp
 unfold ug;rw[m];have j:y (a.bb<0)=ab->bY a.au=ad->(a.aN==[]||bY a.aN)=ad->
  cp C 305 [eS T cI a.a6,I 4,.fn 304 [] []] [] λo=>bd (nw .not o) λp=>(ez (p) (aM [] .res (AV.pl ff) (.bool (!y (a.bb<0)&&bY a.au&&(a.aN==[]||bY a.aN)&&eX 4 mT a.a6&&y (0<=a.fy)&&y (a.fy<=(Z a.a6:Int))&&(a.fy==(Z a.a6:Int)||a.ek&&a.aN==[])))) (gd (.bool (y (0<=a.fy))) ad (gd (.bool (y (a.fy<=(Z a.a6:Int)))) ad (gd (.bool (a.fy==(Z a.a6:Int))) ab (gd (.bool a.ek) ad (aM [] .res (AV.pl (.bool (a.aN==[]))) (.bool (!y (a.bb<0)&&bY a.au&&(a.aN==[]||bY a.aN)&&eX 4 mT a.a6&&y (0<=a.fy)&&y (a.fy<=(Z a.a6:Int))&&(a.fy==(Z a.a6:Int)||a.ek&&a.aN==[])))) (aM [] .res (AV.pl ff) (.bool (!y (a.bb<0)&&bY a.au&&(a.aN==[]||bY a.aN)&&eX 4 mT a.a6&&y (0<=a.fy)&&y (a.fy<=(Z a.a6:Int))&&(a.fy==(Z a.a6:Int)||a.ek&&a.aN==[]))))) (aM [] .res (AV.pl tt) (.bool (!y (a.bb<0)&&bY a.au&&(a.aN==[]||bY a.aN)&&eX 4 mT a.a6&&y (0<=a.fy)&&y (a.fy<=(Z a.a6:Int))&&(a.fy==(Z a.a6:Int)||a.ek&&a.aN==[]))))) (aM [] .res (AV.pl ff) (.bool (!y (a.bb<0)&&bY a.au&&(a.aN==[]||bY a.aN)&&eX 4 mT a.a6&&y (0<=a.fy)&&y (a.fy<=(Z a.a6:Int))&&(a.fy==(Z a.a6:Int)||a.ek&&a.aN==[]))))) (aM [] .res (AV.pl ff) (.bool (!y (a.bb<0)&&bY a.au&&(a.aN==[]||bY a.aN)&&eX 4 mT a.a6&&y (0<=a.fy)&&y (a.fy<=(Z a.a6:Int))&&(a.fy==(Z a.a6:Int)||a.ek&&a.aN==[])))))):=by
  intro d g f;apply c l;simp only[d,g,f,ri,c3,bI,O];rcases q:eX 4 mT a.a6 with _|_;simp;simp only[c5,rf,e6,if_false,c3];refine aV (λb=>?_) (λb=>by simp only[b,vX,qM,qP]);refine aV (λh=>?_) (λh=>by simp only[h,vX,CI,qM,qP]);simp only[b,h,c3];refine dH (λk=>?_) (by simp_all);simp only[k,l4];exact aV (by simp_all) (by simp_all)
 refine dH (λd=>?_) (λd=>by simp only[d,rf,vX,c5,if_true,qM,qP]);apply c (yk _);refine dH (λg=>?_) (by simp_all);have i:bY a.au=true:=by simpa using g
 refine aV (λf=>?_) (λf=>?_);refine c (yk _) ?_;refine dH (λb=>?_) (λb=>by simp only[hv]at f b;simp only[f,b,arN,CI,vX,c5,if_true,qM,qP]);exact j d i (by grind);exact j d i (by grind)
open Go.Proofs.YtegalmbcaggfiaaGreatDoor Go.Deep
def E0(w:World):ar:=⟨w,λ_ a=>a<w.heap.size,λ_=>ae,λ_=>ae,[]⟩
theorem ahq(w:World):Good (E0 w)where
 iJ:=λ_ _ h=>h
 iK:=λ_ h=>h
 dJ:=λid b z e=>by cases e
 j0:=λi j b z a e=>by cases e
 blt:=λk b e=>by cases e
 mN:=λi j b e=>by cases e
 gL:=by grind[id,E0]
variable{hN:List Value}
theorem Uf{w:World}{base:Nat}{a:Addr}(h:w.cells? base a U=aa hN)(m:0<U):a.spot=ae/\∃b j f,w.heap[a.block]?=aa (.cells b j f)/\((bJ b).drop a.off).take U=hN/\a.off+U<=b.size:=by
 let⟨_,o,l⟩:=World.cells?_some h;have d:=l 0 m;have e0:a.add 0=a:=by simp[Addr.add]
 rw[e0,bq (by omega)]at d;unfold World.cell? at d;split at d
 case h_2=>cases d
 case h_1 b j f g=>
 split at d;cases d
 rename_i e;have e:a.spot=none:=by simpa using e
 have i:∀c,c<U->b[a.off+c]?=hN[c]?:=by
  intro c i;have:=l c i;by_cases k:c=0;subst k;rw[e0]at this;rw[<-this];simp[World.cell?,g,e];rw[<-this];simp[World.cell?,Addr.add,k,g]
 have n:a.off+U<=b.size:=by
  have:=i (U -1) (by omega);rw[bq (by omega)]at this;have:=(kZ.1 this).1;omega
 refine⟨e,b,j,f,g,y6 λc=>?_,n⟩;grind
section
variable{H:Type}{enc:TypeId×Value->H}{P:Program}{w:World}{sp:Nat->Bool}
def Rd(H:Type)(enc:TypeId×Value->H)(P:Program)(w:World)(sp:Nat->Bool)(h f:Nat)(b:K->List AV)(Q:K->Prop):Prop:=
 (∀a,Z (b a)=f/\∀i∈b a,i.bU=ad)/\∀(e:Nat)(c:List Value)(d:DataW H)(g:List MemPlace),DataW.trod enc P w 0 sp ad e h c=aa (d,g)->Rows.uptoBulk d<=1048576->∃a,RL (E0 w) (b a) c/\Q a
theorem ahr{b:DataW H}{a:List (DataW H)}(h:b∈a):Rows.uptoBulk b<=Rows.uptoBulkAll a:=by
 induction a with
 |nil=>cases h
 |cons d r c=>
  grind[Rows.uptoBulkAll]
theorem ahs(a:DataW H):1<=Rows.uptoBulk a:=by
 cases a with
 |lit b=>cases b<;>simp[Rows.uptoBulk]
 |_=>simp[Rows.uptoBulk]
theorem Ug:∀a:List (DataW H),Z a<=Rows.uptoBulkAll a
 |[]=>c7 _
 |d::a=>by
  have:=Ug a;grind[ahs,Rows.uptoBulkAll,List.length_cons]
theorem Uh(e:P.underlying U=aa (.int .i64)):Rd H enc P w sp U 1 (λa:Int=>[I a]) (λ_=>True):=by
 refine⟨(by simp),λb f g j h _=>?_⟩;rcases b with _|b;simp[DataW.trod]at h;unfold DataW.trod at h;simp only[e]at h;split at h<;>rename_i c<;>first|(cases h;done)|(cases c;done)|skip
 cases c
 rename_i i a;split at h;rename_i d;obtain⟨rfl,-⟩:=d;exact⟨a,.cons _ _ _ _ (.int _ _) .nil,trivial⟩;cases h
theorem aht(f:P.underlying U=aa .string):Rd H enc P w sp U 1 (λa:d=>[.str a]) (λa=>Sm a):=by
 refine⟨(by simp),λb i j k h e=>?_⟩;rcases b with _|b;simp[DataW.trod]at h;unfold DataW.trod at h;simp only[f]at h;split at h<;>rename_i c<;>first|(cases h;done)|(cases c;done)|skip
 cases c
 rename_i g;split at h;simp only[e7,eG]at h;let⟨h,_⟩:=h;subst h;simp only[Rows.uptoBulk]at e;exact⟨bJ g.data,.cons _ _ _ _ (.str _) .nil,by grind[Sm]⟩;cases h
theorem ahu(d:P.underlying U=aa .bool):Rd H enc P w sp U 1 (λa:Bool=>[.bool a]) (λ_=>True):=by
 refine⟨(by simp),λb e f i h g=>?_⟩;rcases b with _|b;simp[DataW.trod]at h;unfold DataW.trod at h;simp only[d]at h;split at h<;>rename_i c<;>first|(cases h;done)|(cases c;done)|skip
 cases c
 rename_i a;exact⟨a,.cons _ _ _ _ (.bool _) .nil,trivial⟩
theorem tc{Q:K->Prop}(q:P.underlying U=aa (.slice N))(ac:P.cellsOf N=z)(af:0<z)(am:∀J,sp J=ad)(u:Rd H enc P w sp N z a7 Q)(y:Bool):
 Rd H enc P w sp U 1 (λc:List K=>[eS y a7 c]) (λc=>Z c<=1048576/\∀e∈c,Q e):=by
 refine⟨λe=>⟨rfl,λo f=>by simp at f;subst f;rfl⟩,λa5 a4 B bb h V=>?_⟩;rcases open_slice q h with⟨rfl,C⟩|⟨a,len,cap,aF,aR,g,a3,rfl,-,ah,-,ak,aA,F⟩;exact⟨[],.cons _ _ _ _ (.jO _ _ _) .nil,by simp,by simp⟩;rw[ac]at F;rw[if_pos (am _)]at ak;have W:B=.slice ((ay len).map g) ((ay (aF -len)).map λb=>g (len+b)):=congrArg Prod.fst aA;subst W;simp only[Rows.uptoBulk]at V;have ai:=Ug ((ay len).map g)
 simp only[jX,List.length_range]at ai;have O:∀k,k<len->Rows.uptoBulk (g k)<=1048576:=λk Y=>by
  have:=ahr (a:=(ay len).map g) (b:=g k) (cy.2 ⟨k,by simpa using Y,rfl⟩);omega
 have key:∀b,b<=len->∃c:List K,Z c=b/\(∀e∈c,Q e)/\(0<b->a.spot=ae/\∃d l j,w.heap[a.block]?=aa (.cells d l j)/\a.off+b*z<=d.size/\RL (E0 w) (c.map a7).flatten (((bJ d).drop a.off).take (b*z))):=by
  intro b;induction b with
  |zero=>simp
  |succ b I=>
   intro a9;let⟨c,i,D,r⟩:=I (by omega);let⟨A,t,ax⟩:=F b (by omega);let⟨e,s,a6⟩:=u.2 aR A _ _ ax (O b (by omega));let⟨G,d,l,j,p,E,v⟩:=Uf t af;have S:(a.add (b*z)).block=a.block:=by unfold Addr.add;split<;>rfl
   have T:(a.add (b*z)).off=a.off+b*z:=by
    unfold Addr.add;split;rename_i C;rw[C]<;>rfl
    rfl
   rw[S]at p;rw[T]at E v;have au:a.spot=none:=by
    by_cases e0:b=0;subst e0;simpa[Addr.add]using G;exact(r (by omega)).1
   refine⟨c++[e],by simp[i],λa0 x=>?_,λ_=>⟨au,d,l,j,p,?_,?_⟩⟩;grind;grind;have q:((bJ d).drop a.off).take ((b+1)*z)=((bJ d).drop a.off).take (b*z)++A:=by
    rw[re,List.take_add,vU,E]
   rw[q,hJ,xC];refine RL.append ?_ (by grind);by_cases e0:b=0;subst e0;have:c=[]:=tO i;subst this;simpa using RL.nil;grind
 let⟨c,i,D,r⟩:=key len (c7 _);refine⟨c,.cons _ _ _ _ ?_ .nil,by omega,D⟩;by_cases e0:len=0;subst e0;have:c=[]:=tO i;subst this;exact .jO _ _ _;let⟨G,d,l,j,p,v,s⟩:=r (by omega);have L:a=⟨a.block,a.off,ae⟩:=by cases a;simp_all
 rw[L,<-i];have aj:Z (c.map a7)=Z c:=by simp
 have M:∀m∈((bJ d).drop a.off).take (len*z),m.oneCell'=true:=by
  have:∀{vs:List AV}{n:List Value},RL (E0 w) vs n->(∀o∈vs,o.bU=ad)->∀m∈n,m.oneCell'=true:=by
   intro vs n h;induction vs generalizing n with
   |nil=>intro _ m az;cases h;simp at az
   |cons o vs I=>
    cases h with
    |cons _ m _ n f q=>
     intro t a0 x;rcases b6.1 x with rfl|x;exact f.CU (t _ (by simp));grind
  refine this s λo f=>?_;simp only[uQ,cy]at f;obtain⟨_,⟨e,-,rfl⟩,f⟩:=f;exact(u.1 e).2 o f
 rw[<-i]at s M v ah;have:=R.sl (E:=E0 w) y (c.map a7) a.block a.off z cap d l j (by show a.block<w.heap.size;grind) p (λN X=>by
  obtain⟨e,-,rfl⟩:=cy.1 X;exact(u.1 e).1) (by omega) (by grind) (by grind) (by grind)
 rw[aj]at this;exact this
variable{rC:List Field}{dp:Nat}{oO:b0 -> List AV}
def Ui(a:K->List AV)(c:Nat):Prop:=∀b,Z (a b)=c/\∀d∈a b,d.bU=ad
def di(H:Type)(enc:TypeId×Value->H)(P:Program)(w:World)(sp:Nat->Bool)(e:List Field)(h g:Nat)(d:K->List AV)(Q:K->Prop):Prop:=
 Ui d g/\∀(j:Nat)(b:List Value)(c:List (DataW H×List MemPlace)),Z b=h+g->Z c=Z e->
  (∀(f:Nat)(a:Field),e[f]?=aa a->DataW.trod enc P w 0 sp ad j a.type ((b.drop a.offset).take (P.cellsOf a.type))=c[f]?)->Rows.uptoBulkAll (c.map (·.1))<=1048576->∃i,RL (E0 w) (d i) (b.drop h)/\Q i
theorem di.nil:di H enc P w sp [] U 0 (λ_:Unit=>[]) (λ_=>True):=
 ⟨λ_=>by grind,λc a d b _ _ _=>⟨(),by rw[uP (by omega)];exact .nil,trivial⟩⟩
theorem di.cons{c:Field}{g:b0->List AV}{Q:K->Prop}{d:b0->Prop}(u:c.type=U)(q:c.offset=N)(p:P.cellsOf U=z)(h:Rd H enc P w sp U z a7 Q)(r:di H enc P w sp rC (N+z) dp g d):
 di H enc P w sp (c::rC) N (z+dp) (λa:K×b0=>a7 a.1++g a.2) (λa=>Q a.1/\d a.2):=by
 refine⟨λa=>⟨by rw[gC,(h.1 a.1).1,(r.1 a.2).1],λj b=>?_⟩,λi n y E v f o=>?_⟩;rcases dt.1 b with b|b;exact(h.1 a.1).2 j b;exact(r.1 a.2).2 j b;cases y with
 |nil=>simp at v
 |cons k A=>
  have e:=f 0 c rfl;rw[u,q,p]at e;simp only[ej,Rows.uptoBulkAll]at o;let⟨l,B,s⟩:=h.2 i _ k.1 k.2 e (by omega);let⟨m,C,t⟩:=r.2 i n A (by omega) (by grind) (λx a7 D=>by simpa using f (x+1) a7 (by grind)) (by omega);refine⟨(l,m),?_,s,t⟩;grind[List.drop_drop,List.take_append_drop,RL.append]
theorem vd{a:Array Field}{Q:K->Prop}(j:P.underlying U=aa (.struct a))(n:P.cellsOf U=N)(h:di H enc P w sp (bJ a) 0 N a7 Q):Rd H enc P w sp U N a7 Q:=by
 refine⟨h.1,λl d e r g f=>?_⟩;obtain⟨c,k,rfl,b,o,q,m⟩:=DataW.trod_struct j g;have i:e=.agg (c.map (·.1)):=congrArg Prod.fst b;subst i;simp only[Rows.uptoBulk]at f;let⟨s,b,p⟩:=h.2 k d c (by omega) (by omega) (by grind) (by omega);grind
theorem Rd.conv{Q:K->Prop}{b:b0->Prop}(c:K->b0)(i:Ui oO N)(m:∀a,a7 a=oO (c a))(l:∀a,Q a->b (c a))(h:Rd H enc P w sp U N a7 Q):Rd H enc P w sp U N oO b:=
 ⟨i,λf d e k j g=>by
  let⟨a,o,n⟩:=h.2 f d e k j g;grind⟩
theorem ahv(x:P.underlying U=aa (.array 2 N))(v:P.cellsOf U=2)(t:P.cellsOf N=1)(u:P.underlying N=aa (.int .i64)):Rd H enc P w sp U 2 b3 (λ_=>True):=by
 refine⟨λF=>⟨rfl,λE h=>by simp[b3]at h;rcases h with rfl|rfl<;>rfl⟩,λC o p D q d=>?_⟩;obtain⟨j,i,rfl,y,g,z,f⟩:=DataW.trod_array x q;have s:p=.agg (j.map (·.1)):=congrArg Prod.fst y;subst s;simp only[Rows.uptoBulk]at d;rcases j with _|⟨k,_|⟨l,_|⟨_,_⟩⟩⟩<;>simp at z
 simp only[ej,ns,Rows.uptoBulkAll]at d;have r:=Uh (H:=H) (enc:=enc) (w:=w) (sp:=sp) u;have a:=f 0 (by omega);have b:=f 1 (by omega);rw[t]at a b;let⟨m,c,_⟩:=r.2 i _ k.1 k.2 a (by omega);let⟨n,e,_⟩:=r.2 i _ l.1 l.2 b (by omega);rw[v]at g;rcases o with _|⟨A,_|⟨B,_|⟨_,_⟩⟩⟩<;>simp at g
 refine⟨(m,n),?_,trivial⟩;simp at c e;exact RL.append c e
end
variable{rC:List Field}{dp:Nat}{oO:b0 -> List AV}
theorem Sm.of(h:Z x<=1048576):Sm x:=by grind[Sm]
variable{oU:Program}
section
variable{H:Type}{enc:TypeId×Value->H}{w:World}{sp:Nat->Bool}
abbrev j3(H:Type)(enc:TypeId×Value->H)(w:World)(sp:Nat->Bool)(c b:Nat)(a:K->List AV)(Q:K->Prop):Prop:=Rd H enc aU w sp c b a Q
theorem mi:j3 H enc w sp 3 1 cI (λ_=>True):=Uh (by kernel_rfl)
theorem qT:j3 H enc w sp 9 1 cS (λa=>Sm a):=aht (by kernel_rfl)
theorem ahw:j3 H enc w sp 4 1 cB (λ_=>True):=ahu (by kernel_rfl)
def yo(b:List Field):List (Nat×Nat):=b.map λa=>(a.type,a.offset)
theorem ahx{r:List (Nat×Nat)}(h:yo rC=(U,N)::r):∃a b,rC=a::b/\a.type=U/\a.offset=N/\yo b=r:=by
 rcases rC with _|⟨a,b⟩;cases h
 simp only[yo,ej,CF,eG]at h;exact⟨a,b,rfl,h.1.1,h.1.2,h.2⟩
theorem ve{r:List (Nat×Nat)}(h:(match oU.underlying U with|aa (.struct a)=>aa (yo (bJ a))|_=>ae)=aa r):∃a:Array Field,oU.underlying U=aa (.struct a)/\yo (bJ a)=r:=by
 grind
theorem di.e9{r:List (Nat×Nat)}{g:b0->List AV}{Q:K->Prop}{c:b0->Prop}(d:yo rC=(U,N)::r)(k:oU.cellsOf U=z)(h:Rd H enc oU w sp U z a7 Q)(l:∀b,yo b=r->di H enc oU w sp b (N+z) dp g c):
 di H enc oU w sp rC N (z+dp) (λa:K×b0=>a7 a.1++g a.2) (λa=>Q a.1/\c a.2):=by
 obtain⟨e,b,rfl,f,i,j⟩:=ahx d;grind[di.cons]
theorem di.vf(a:yo rC=[]):di H enc oU w sp rC U 0 (λ_:Unit=>[]) (λ_=>True):=by
 rcases rC with _|⟨b,c⟩;exact di.nil;cases a
theorem mU:aU.cellsOf 3=1:=by kernel_rfl
theorem p0:aU.cellsOf 9=1:=by kernel_rfl
theorem ahy:aU.cellsOf 4=1:=by kernel_rfl
theorem Uk:j3 H enc w sp 93 3 cV (λf=>Sm f.s):=by
 let⟨i,e,a⟩:=ve (oU:=aU) (U:=93) (r:=[(3,0),(3,1),(9,2)]) (by kernel_rfl);refine Rd.conv (λb:Int×Int×d×Unit=>(⟨b.1,b.2.1,b.2.2.1⟩:aG)) (λb=>⟨rfl,by simp[cV,AV.bU]⟩) (λb=>rfl) (λb h=>h.2.2.1)
  (vd e (by kernel_rfl) (di.e9 a mU mi λc a=>di.e9 a mU mi λc a=>di.e9 a p0 qT λc a=>di.vf a))
theorem ahz(c:∀a,sp a=ad)(a:Bool):j3 H enc w sp 36 1 (λb:List aG=>[eS a cV b]) (λb=>Z b<=1048576/\∀d∈b,Sm d.s):=tc (by kernel_rfl) (by kernel_rfl) (by decide) c Uk a
theorem K0(c:∀a,sp a=ad)(a:Bool):j3 H enc w sp 122 1 (λb:List d=>[eS a cS b]) (λb=>Z b<=1048576/\∀e∈b,Sm e):=tc (by kernel_rfl) (by kernel_rfl) (by decide) c qT a
theorem Ul(c:∀a,sp a=ad)(a:Bool):j3 H enc w sp 31 1 (λb:List Int=>[eS a cI b]) (λb=>Z b<=1048576/\∀d∈b,True):=tc (by kernel_rfl) (by kernel_rfl) (by decide) c mi a
theorem ahA(c:∀a,sp a=ad)(a:Bool):j3 H enc w sp 128 1 (λb:List (Int×Int)=>[eS a b3 b]) (λb=>Z b<=1048576/\∀f∈b,True):=tc (by kernel_rfl) (by kernel_rfl) (by decide) c (ahv (U:=131) (N:=3) (by kernel_rfl) (by kernel_rfl) (by kernel_rfl) (by kernel_rfl)) a
theorem ahB:j3 H enc w sp 168 4 cT (λ_=>True):=by
 let⟨g,c,a⟩:=ve (oU:=aU) (U:=168) (r:=[(9,0),(93,1)]) (by kernel_rfl);refine Rd.conv (λb:d×aG×Unit=>(⟨b.1,b.2.1⟩:aK)) (λb=>⟨rfl,by simp[cT,AV.bU]⟩) (λb=>rfl) (λb h=>trivial)
  (vd c (by kernel_rfl) (di.e9 a p0 qT λe a=>di.e9 a (z:=3) (by kernel_rfl) Uk λe a=>di.vf a))
theorem ahC:j3 H enc w sp 84 4 n9 (λ_=>True):=by
 let⟨g,e,a⟩:=ve (oU:=aU) (U:=84) (r:=[(3,0),(9,1),(9,2),(3,3)]) (by kernel_rfl);refine Rd.conv (λb:Int×d×d×Int×Unit=>(⟨b.1,b.2.1,b.2.2.1,b.2.2.2.1⟩:pV)) (λb=>⟨rfl,by simp[n9,AV.bU]⟩) (λb=>rfl) (λb h=>trivial)
  (vd e (by kernel_rfl) (di.e9 a mU mi λc a=>di.e9 a p0 qT λc a=>di.e9 a p0 qT λc a=>di.e9 a mU mi λc a=>di.vf a))
theorem Um(c:∀a,sp a=ad)(a:Bool):j3 H enc w sp 85 1 (λb:List aK=>[eS a cT b]) (λb=>Z b<=1048576/\∀d∈b,True):=tc (by kernel_rfl) (by kernel_rfl) (by decide) c ahB a
theorem Un:aU.cellsOf 85=1:=by kernel_rfl
theorem K1:aU.cellsOf 122=1:=by kernel_rfl
theorem Uo:aU.cellsOf 31=1:=by kernel_rfl
theorem ahD(f:∀e,sp e=ad)(e:Bool):j3 H enc w sp 87 9 (bg e) vc:=by
 let⟨j,g,a⟩:=ve (oU:=aU) (U:=87) (r:=[(3,0),(9,1),(3,2),(85,3),(9,4),(9,5),(3,6),(3,7),(3,8)]) (by kernel_rfl);refine Rd.conv (λb:Int×d×Int×List aK×d×d×Int×Int×Int×Unit=>(⟨b.1,b.2.1,b.2.2.1,b.2.2.2.1,b.2.2.2.2.1,b.2.2.2.2.2.1,b.2.2.2.2.2.2.1,b.2.2.2.2.2.2.2.1,b.2.2.2.2.2.2.2.2.1⟩:Lit)) (λb=>⟨rfl,by simp[bg,AV.bU,eS]⟩) (λb=>rfl) (λb h=>Sm.of h.2.2.2.1.1)
  (vd g (by kernel_rfl) (di.e9 a mU mi λc a=>di.e9 a p0 qT λc a=>di.e9 a mU mi λc a=>di.e9 a Un (Um f e) λc a=>di.e9 a p0 qT λc a=>di.e9 a p0 qT λc a=>
   di.e9 a mU mi λc a=>di.e9 a mU mi λc a=>di.e9 a mU mi λc a=>di.vf a))
theorem ahE(c:∀a,sp a=ad)(a:Bool):j3 H enc w sp 89 1 (λb:List Lit=>[eS a (bg a) b]) (λb=>Z b<=1048576/\∀d∈b,vc d):=tc (by kernel_rfl) (by kernel_rfl) (by decide) c (ahD c a) a
theorem ahF(f:∀c,sp c=ad)(c:Bool):j3 H enc w sp 91 9 (aS c) pZ:=by
 let⟨k,g,a⟩:=ve (oU:=aU) (U:=91) (r:=[(9,0),(3,1),(85,2),(84,3),(89,7),(3,8)]) (by kernel_rfl);refine Rd.conv (λb:d×Int×List aK×pV×List Lit×Int×Unit=>(⟨b.1,b.2.1,b.2.2.1,b.2.2.2.1,b.2.2.2.2.1,b.2.2.2.2.2.1⟩:aD)) (λb=>⟨rfl,by simp[aS,AV.bU,eS]⟩) (λb=>rfl) (λb h=>⟨Sm.of h.2.2.1.1,Sm.of h.2.2.2.2.1.1,h.2.2.2.2.1.2⟩)
  (vd g (by kernel_rfl) (di.e9 a p0 qT λe a=>di.e9 a mU mi λe a=>di.e9 a Un (Um f c) λe a=>di.e9 a (z:=4) (by kernel_rfl) ahC λe a=>di.e9 a (z:=1) (by kernel_rfl) (ahE f c) λe a=>di.e9 a mU mi λe a=>di.vf a))
theorem ahG(d:∀a,sp a=ad)(a c:Bool):j3 H enc w sp 25 1 (λb:List aD=>[eS c (aS a) b]) (λb=>Z b<=1048576/\∀e∈b,pZ e):=tc (by kernel_rfl) (by kernel_rfl) (by decide) d (ahF d a) c
theorem ahH(f:∀c,sp c=ad)(c:Bool):j3 H enc w sp 151 4 (bp c) lP:=by
 let⟨j,g,a⟩:=ve (oU:=aU) (U:=151) (r:=[(9,0),(122,1),(128,2),(3,3)]) (by kernel_rfl);refine Rd.conv (λb:d×List d×List (Int×Int)×Int×Unit=>(⟨b.1,b.2.1,b.2.2.1,b.2.2.2.1⟩:bQ)) (λb=>⟨rfl,by simp[bp,AV.bU,eS]⟩) (λb=>rfl) (λb h=>⟨Sm.of h.2.1.1,Sm.of h.2.2.1.1⟩)
  (vd g (by kernel_rfl) (di.e9 a p0 qT λe a=>di.e9 a K1 (K0 f c) λe a=>di.e9 a (z:=1) (by kernel_rfl) (ahA f c) λe a=>di.e9 a mU mi λe a=>di.vf a))
theorem ahI(f:∀c,sp c=ad)(c:Bool):j3 H enc w sp 212 7 (cm c) zM:=by
 let⟨j,g,a⟩:=ve (oU:=aU) (U:=212) (r:=[(9,0),(9,1),(3,2),(122,3),(122,4),(31,5),(3,6)]) (by kernel_rfl);refine Rd.conv (λb:d×d×Int×List d×List d×List Int×Int×Unit=>(⟨b.1,b.2.1,b.2.2.1,b.2.2.2.1,b.2.2.2.2.1,b.2.2.2.2.2.1,b.2.2.2.2.2.2.1⟩:Fn)) (λb=>⟨rfl,by simp[cm,AV.bU,eS]⟩) (λb=>rfl) (λb h=>⟨Sm.of h.2.2.2.1.1,Sm.of h.2.2.2.2.1.1,Sm.of h.2.2.2.2.2.1.1⟩)
  (vd g (by kernel_rfl) (di.e9 a p0 qT λe a=>di.e9 a p0 qT λe a=>di.e9 a mU mi λe a=>di.e9 a K1 (K0 f c) λe a=>di.e9 a K1 (K0 f c) λe a=>di.e9 a Uo (Ul f c) λe a=>di.e9 a mU mi λe a=>di.vf a))
theorem ahJ(f:∀e,sp e=ad)(e:Bool):j3 H enc w sp 48 7 (bO e) DJ:=by
 let⟨j,g,a⟩:=ve (oU:=aU) (U:=48) (r:=[(9,0),(31,1),(9,2),(3,3),(4,4),(3,5),(3,6)]) (by kernel_rfl);refine Rd.conv (λb:d×List Int×d×Int×Bool×Int×Int×Unit=>(⟨b.1,b.2.1,b.2.2.1,b.2.2.2.1,b.2.2.2.2.1,b.2.2.2.2.2.1,b.2.2.2.2.2.2.1⟩:cO)) (λb=>⟨rfl,by simp[bO,AV.bU,eS]⟩) (λb=>rfl) (λb h=>Sm.of h.2.1.1)
  (vd g (by kernel_rfl) (di.e9 a p0 qT λc a=>di.e9 a Uo (Ul f e) λc a=>di.e9 a p0 qT λc a=>di.e9 a mU mi λc a=>di.e9 a ahy ahw λc a=>di.e9 a mU mi λc a=>di.e9 a mU mi λc a=>di.vf a))
theorem ahK(c:∀a,sp a=ad)(a:Bool):j3 H enc w sp 22 1 (λb:List bQ=>[eS a (bp a) b]) (λb=>Z b<=1048576/\∀d∈b,lP d):=tc (by kernel_rfl) (by kernel_rfl) (by decide) c (ahH c a) a
theorem ahL(c:∀a,sp a=ad)(a:Bool):j3 H enc w sp 23 1 (λb:List Fn=>[eS a (cm a) b]) (λb=>Z b<=1048576/\∀d∈b,zM d):=tc (by kernel_rfl) (by kernel_rfl) (by decide) c (ahI c a) a
theorem ahM(c:∀a,sp a=ad)(a:Bool):j3 H enc w sp 24 1 (λb:List cO=>[eS a (bO a) b]) (λb=>Z b<=1048576/\∀d∈b,DJ d):=tc (by kernel_rfl) (by kernel_rfl) (by decide) c (ahJ c a) a
theorem ahN(d:∀b,sp b=ad)(b g:Bool):j3 H enc w sp 27 4 (cP b g) eA:=by
 let⟨k,i,a⟩:=ve (oU:=aU) (U:=27) (r:=[(22,0),(23,1),(24,2),(25,3)]) (by kernel_rfl);refine Rd.conv (λc:List bQ×List Fn×List cO×List aD×Unit=>(⟨c.1,c.2.1,c.2.2.1,c.2.2.2.1⟩:D)) (λc=>⟨rfl,by simp[cP,AV.bU,eS]⟩) (λc=>rfl) (λc h=>⟨Sm.of h.1.1,h.1.2,Sm.of h.2.1.1,h.2.1.2,Sm.of h.2.2.1.1,h.2.2.1.2,Sm.of h.2.2.2.1.1,h.2.2.2.1.2⟩)
  (vd i (by kernel_rfl) (di.e9 a (z:=1) (by kernel_rfl) (ahK d b) λf a=>di.e9 a (z:=1) (by kernel_rfl) (ahL d b) λf a=>di.e9 a (z:=1) (by kernel_rfl) (ahM d b) λf a=>di.e9 a (z:=1) (by kernel_rfl) (ahG d b g) λf a=>di.vf a))
theorem ahO(f:∀c,sp c=ad)(c:Bool):j3 H enc w sp 38 3 (cF c) (λe=>dF e.af):=by
 let⟨j,g,a⟩:=ve (oU:=aU) (U:=38) (r:=[(3,0),(36,1),(3,2)]) (by kernel_rfl);refine Rd.conv (λb:Int×List aG×Int×Unit=>(⟨b.1,b.2.1,b.2.2.1⟩:S)) (λb=>⟨rfl,by simp[cF,AV.bU,eS]⟩) (λb=>rfl) (λb h=>⟨Sm.of h.2.1.1,h.2.1.2⟩)
  (vd g (by kernel_rfl) (di.e9 a mU mi λd a=>di.e9 a (z:=1) (by kernel_rfl) (ahz f c) λd a=>di.e9 a mU mi λd a=>di.vf a))
theorem ahP(d:∀a,sp a=ad)(a c:Bool):j3 H enc w sp 28 1 (λb:List S=>[eS c (cF a) b]) (λb=>Z b<=1048576/\∀e∈b,dF e.af):=tc (by kernel_rfl) (by kernel_rfl) (by decide) d (ahO d a) c
end
variable{cj:Nat -> Bool}{bL:d}{oV:List MemPlace}{p:List d}
section
variable{H:Type}{enc:TypeId×Value->H}{P:Program}{w:World}
def uh{H:Type}(a:d):DataW H:=.lit (.string a)
theorem Up{held:Bool}(b:P.underlying N=aa .string)(h:DataW.trod enc P w 0 cj held U N hN=aa (uh bL,oV)):∃a:ByteArray,hN=[.string a]/\bJ a.data=bL:=by
 obtain⟨a,rfl,c,-⟩:=DataW.trod_string b h;refine⟨a,rfl,?_⟩;have:=congrArg Prod.fst c;simp only[uh,DataW.lit.injEq,Lit.string.injEq]at this;exact this.symm
theorem ahQ{held:Bool}(s:P.underlying N=aa (.array dp z))(n:P.underlying z=aa .string)(m:P.cellsOf z=1)(v:P.cellsOf N=dp)
 (h:DataW.trod enc P w 0 cj held U N hN=aa (.agg (p.map uh),oV)):Z hN=Z p/\∀(a:Nat)(c:d),p[a]?=aa c->∃b:ByteArray,hN[a]?=aa (Value.string b)/\bJ b.data=c:=by
 obtain⟨j,y,rfl,t,x,u,o⟩:=DataW.trod_array s h;have f:=congrArg Prod.fst t;simp only[DataW.agg.injEq]at f;have r:Z p=dp:=by
  have:=congrArg List.length f;simpa[u]using this
 refine⟨by omega,λa c i=>?_⟩;have q:a<dp:=by rw[<-r];exact(fH.1 i).1
 have g:=o a q;rw[m,I4,bq (by omega)]at g;have e:(j.map (·.1))[a]?=aa (uh c):=by rw[<-f];simp[i]
 rw[sN,bq (by omega)]at e;simp only[kf,e7]at e;obtain⟨b,l,k⟩:=Up n (oV:=(j[a]'(by omega)).2) (by rw[g,<-e]);refine⟨b,?_,k⟩;have:=congrArg (·[0]?) l;grind
theorem K2{k:ar}:∀{b:List Value}{g:List d},Z b=Z g->(∀(f:Nat)(i:d),g[f]?=aa i->∃a:ByteArray,b[f]?=aa (Value.string a)/\bJ a.data=i)->RL k (g.map .str) b
 |[],[],_,_=>.nil
 |c::b,l::g,e,h=>by
  obtain⟨a,j,rfl⟩:=h 0 l rfl;simp only[dj,e7]at j;subst j;exact .cons _ _ _ _ (.str a) (K2 (by grind) λf i m=>by simpa using h (f+1) i (by grind))
 |[],_::_,e,_=>by simp at e
 |_::_,[],e,_=>by simp at e
theorem ahR(A:p≠[])(V:P.underlying N=aa (.slice z))(S:P.underlying z=aa .string)(Q:P.cellsOf z=1)
 (h:DataW.trod enc P w 0 cj ab U N hN=aa (.slice (p.map uh) [],oV)):∃t,hN=[t]/\R (E0 w) (.sl ab (p.map λc=>[.str c])) t:=by
 rcases open_slice V h with⟨rfl,g⟩|⟨b,len,cap,Y,ax,F,ac,rfl,-,ai,-,T,E,x⟩;cases g
 have i:=congrArg Prod.fst E;simp only[DataW.slice.injEq]at i;obtain⟨i,-⟩:=i;have l:Z p=len:=by
  have:=congrArg List.length i;simpa using this
 rw[Q]at x;have aj:len<=Y:=by
  rw[T];split<;>omega
 have at_:∀(a:Nat)(c:d),p[a]?=aa c->(a=0->b.spot=ae)/\∃f m j,w.heap[b.block]?=aa (.cells f m j)/\∃e:ByteArray,f[b.off+a]?=aa (Value.string e)/\bJ e.data=c:=by
  intro a c r;have q:a<len:=by rw[<-l];exact(fH.1 r).1
  obtain⟨af,O,C⟩:=x a (by omega);have I:F a=uh c:=by
   have:=congrArg (·[a]?) i;simp[r,q]at this;exact this.symm
  rw[I]at C;obtain⟨e,rfl,M⟩:=Up S C;obtain⟨am,f,m,j,k,v,B⟩:=Uf O (by decide);have K:(b.add (a*1)).block=b.block:=by unfold Addr.add;split<;>rfl
  have L:(b.add (a*1)).off=b.off+a:=by
   unfold Addr.add;split;rename_i g;simp at g;simp[g];simp
  rw[K]at k;rw[L]at v;refine⟨(by grind[Addr.add]),f,m,j,k,e,?_,M⟩;have:=congrArg (·[0]?) v;simpa[List.getElem?_take,arQ]using this
 obtain⟨X,y⟩:∃s,p[0]?=aa s:=by
  cases p with
  |nil=>grind
  |cons s _=>simp
 obtain⟨g,f,m,j,k,-⟩:=at_ 0 X y;have H:b=⟨b.block,b.off,ae⟩:=by cases b;simp_all
 have o:∀(a:Nat)(c:d),p[a]?=aa c->∃e:ByteArray,f[b.off+a]?=aa (Value.string e)/\bJ e.data=c:=by grind
 have B:b.off+len<=f.size:=by
  have ak:0<len:=by
   cases p with
   |nil=>exact absurd rfl A
   |cons _ _=>simp at l;omega
  obtain⟨e,n,-⟩:=o (len -1) (p[len -1]'(by omega)) (bq _);have:=(kZ.1 n).1;omega
 have u:Z (((bJ f).drop b.off).take len)=Z p:=by simp;omega
 have J:=K2 (k:=E0 w) u (λa c r=>by
  grind)
 refine⟨_,rfl,?_⟩;rw[H,<-l];have ah:(p.map λc=>[AV.str c]).flatten=p.map .str:=by
  clear J u B o k g y at_ i E l A h;induction p with
  |nil=>rfl
  |cons s au W=>simp[W]
 have:=R.sl (E:=E0 w) ab (p.map λc=>[AV.str c]) b.block b.off 1 cap f m j (by show b.block<w.heap.size;grind) k (by grind) (by simp;omega) (by simp;omega) (by grind) (λt D=>by
  simp only[jX,I4,l]at D;obtain⟨a,q,rfl⟩:=kg.1 D;let⟨e,n,_⟩:=o a (p[a]'(by omega)) (bq _);have:(((bJ f).drop b.off).take len)[a]?=aa (Value.string e):=by rw[List.getElem?_take_of_lt (by omega),arQ];simpa using n
  rw[bq q]at this;simp only[e7]at this;rw[this]<;>rfl)
 grind
end
def cL:Code->Code|.seq a _=>a|c=>c
def cR:Code->Code|.seq _ a=>a|c=>c
def nq(a:WS->Prop):fg->WS->Prop:=λc b=>match c with|.norm=>a b|_=>False
def wF:bS:=⟨[0,1,2,3,4,5,6,7,8,9,10,11,12,13,14,28,29,30,36],[30,36],[],[],[],[(3,[0,2,4,1,3,5,6,7,8,9,10,11])]⟩
theorem ahS{C:fu}:GG C E M jv=jg aU G0 C wF (pS [39]) (cL (Tryz.f72.body.getD .skip)) {env:=o7 0 [E],bx:=[],hp:=M} (nq λa=>jg aU G0 C wF (pS [39]) (cL (cR (Tryz.f72.body.getD .skip))) a (nq λa=>jg aU G0 C wF (pS [39]) (cL (cR (cR (Tryz.f72.body.getD .skip)))) a (nq jv))):=by kernel_rfl
variable{oM oT oP:AV}
theorem Uq{C:fu}{a b c:AV}{Q:AV->List Obj->Prop}:KO C E dG oM oT oP a b c M Q=jg aU G0 C wF (pS [39]) (cR (cR (cR (cR (Tryz.f72.body.getD .skip))))) {env:=o7 1 [E,dG,oM,oT,oP,a,b,c],bx:=[],hp:=M} (λe d=>match e with|.exit _=>False|_=>Dp aU (bJ Tryz.f72.results) d Q):=by kernel_rfl
section
def vg:Code->Array Oper|.region _ a _=>a|_=>#[]
def BD(a:Oper):Op×Option Tmp×Option (Nat×Bool)×List Nat:=(a.op,a.dst,a.guard,bJ ((a.after.filter (Region.binds .any)).map (·.on)))
def T3:List (Op×Option Tmp×Option (Nat×Bool)×List Nat):=
 [(.move (.tmp 5),aa 19,ae,[]),(.makeSlice 31 (.tmp 19) (.tmp 19),aa 20,ae,[0,0]),(.move (.tmp 5),aa 21,ae,[]),(.makeSlice 31 (.tmp 21) (.tmp 21),aa 22,ae,[2,2]),
  (.move (.tmp 5),aa 23,ae,[]),(.makeSlice 31 (.tmp 23) (.tmp 23),aa 24,ae,[4,4]),(.alloc 31,aa 6,ae,[]),(.alloc 31,aa 7,ae,[]),(.alloc 31,aa 8,ae,[]),
  (.store 31 (.tmp 6) (.tmp 20),ae,ae,[6,1,0,1,6,7,8]),(.store 31 (.tmp 7) (.tmp 22),ae,ae,[7,3,9,0,1,2,3,6,7,8,9]),(.store 31 (.tmp 8) (.tmp 24),ae,ae,[8,5,10,0,1,2,3,4,5,6,7,8,9,10])]
theorem ahT:(bJ (vg (cL (cR (cR (cR (Tryz.f72.body.getD .skip))))))).map BD=T3:=by kernel_rfl
theorem ahU:qK aU 31=aa (1,[I 0],8):=by kernel_rfl
theorem ahV:qw aU 31=aa [.aq]:=by kernel_rfl
theorem Ur:bj aU 31=1:=by kernel_rfl
theorem ahW:(aU.info? 31).isSome=true:=by kernel_rfl
def p1(done:List Nat)(a:Nat):Prop:=(a<3/\2*a+1∈done)\/(3<=a/\3+a∈done)
structure J(s3:AS)(n:Nat)(done:List Nat)(id:Nat->Nat)(s:AS):Prop where
 env:∀k,k<19->k≠6->k≠7->k≠8->look k s.env=look k s3.env
 bx:s.bx=s3.bx
 mv:∀j,j<3->2*j∈done->look (19+2*j) s.env=aa (I n)
 ms:∀j,j<3->2*j+1∈done->look (20+2*j) s.env=aa (.q (id j) 0 0 n)/\s.hp[id j]?=aa (.arr 0 1 (dh n [I 0]))
 al:∀j,j<3->6+j∈done->look (6+j) s.env=aa (.ptr (id (3+j)) 0 0 0)/\s.hp[id (3+j)]?=aa (.arr 0 1 [[if 9+j∈done then .q (id j) 0 0 n else .aq]])
 dep:∀j,j<3->9+j∈done->2*j+1∈done/\6+j∈done
 ge:∀j,j<6->p1 done j->Z s3.hp<=id j/\id j<Z s.hp
 inj:∀i j,i<6->j<6->p1 done i->p1 done j->id i=id j->i=j
 DK:∀k,k<Z s3.hp->s.hp[k]?=s3.hp[k]?
 len:Z s3.hp<=Z s.hp
theorem J.start(a:AS)(b:Nat)(id:Nat->Nat):J a b [] id a:=
 ⟨λ_ _ _ _ _=>rfl,rfl,by grind,by grind,by grind,by grind,by grind[p1],by grind[p1],λ_ _=>rfl,c7 _⟩
variable{s3:AS}{n:Nat}{done:List Nat}{id:Nat->Nat}{s:AS}
theorem J.move(h:J s3 n done id s)(r:U<3):J s3 n (2*U::done) id {s with env:=put (19+2*U) (I n) s.env}:=by
 have i:∀a,p1 (2*U::done) a->a<6->p1 done a:=by
  rintro a (⟨d,f⟩|⟨d,f⟩) b;rcases b6.1 f with e|e;omega;exact .inl ⟨d,e⟩;rcases b6.1 f with e|e;omega;exact .inr ⟨d,e⟩
 have l:∀a,a<3->(9+a∈2*U::done<->9+a∈done):=by grind
 refine⟨λq d f m o=>?_,h.bx,λa b c=>?_,λa b c=>?_,λa b c=>?_,λa b c=>?_,λa b g=>h.ge a b (i a g b),λa k b j g p=>h.inj a k b j (i a g b) (i k p j),h.DK,h.len⟩;rw[fQ,if_neg (by omega)];exact h.env q d f m o;rw[fQ];split;rfl;rename_i t;rcases b6.1 c with e|e;omega;exact h.mv a b e;rcases b6.1 c with e|e;omega;rw[fQ,if_neg (by omega)];exact h.ms a b e;rcases b6.1 c with e|e;omega
 rw[fQ,if_neg (by omega)];simp only[l a b];exact h.al a b e;have:=h.dep a b ((l a b).1 c);grind
theorem J.make(h:J s3 n done id s)(B:U<3)(A:2*U+1∉done):
 J s3 n ((2*U+1)::done) (λf=>if f=U then Z s.hp else id f) {s with env:=put (20+2*U) (.q (Z s.hp) 0 0 n) s.env,hp:=s.hp++[.arr 0 1 (dh n [I 0])]}:=by
 have o:∀a,p1 ((2*U+1)::done) a->a<6->a=U\/(a≠U/\p1 done a):=by
  rintro a (⟨g,i⟩|⟨g,i⟩) b;rcases b6.1 i with e|e
  left;omega
  by_cases m:a=U;omega;exact .inr ⟨m,.inl ⟨g,e⟩⟩;rcases b6.1 i with e|e;omega;exact .inr ⟨by omega,.inr ⟨g,e⟩⟩
 have v:∀a,a<3->(9+a∈(2*U+1)::done<->9+a∈done):=by grind
 have lt:∀a,a<Z s.hp->(s.hp++[Obj.arr 0 1 (dh n [I 0])])[a]?=s.hp[a]?:=λa b=>oG b;refine⟨λf g i w x=>?_,h.bx,λa b d=>?_,λa b d=>?_,λa b d=>?_,λa b d=>?_,λa b c=>?_,λa r b p c k l=>?_,λf z=>?_,?_⟩;rw[fQ,if_neg (by omega)];exact h.env f g i w x;rcases b6.1 d with e|e;omega;rw[fQ,if_neg (by omega)];exact h.mv a b e;by_cases m:a=U;subst m;rw[fQ,if_pos rfl,if_pos rfl];exact⟨rfl,by simp⟩
 have e:=(b6.1 d).resolve_left (by omega);let⟨t,u⟩:=h.ms a b e;grind[fQ];have e:=(b6.1 d).resolve_left (by omega);let⟨t,u⟩:=h.al a b e;have:=(h.ge (3+a) (by omega) (.inr ⟨by omega,by rw[show 3+(3+a)=6+a by omega];exact e⟩)).2;rw[fQ,if_neg (by omega),if_neg (by omega)];refine⟨t,(lt _ this).trans ?_⟩;rw[u];simp only[v a b];by_cases y:9+a∈done;have m:a≠U:=λe=>A (by subst e;exact(h.dep a b y).1)
 grind;grind;have:=h.dep a b ((v a b).1 d);grind;rcases o a c b with e|⟨e,c⟩;rw[if_pos e];simp;exact h.len;have:=h.ge a b c;grind;rcases o a c b with e|⟨e,c⟩<;>rcases o r k p with j|⟨j,k⟩
 omega;rw[if_pos e,if_neg j]at l;have:=(h.ge r p k).2;omega;rw[if_neg e,if_pos j]at l;have:=(h.ge a b c).2;omega;rw[if_neg e,if_neg j]at l;exact h.inj a r b p c k l;have:=h.len;exact(lt f (by omega)).trans (h.DK f z);have:=h.len;simp;omega
theorem J.alloc(h:J s3 n done id s)(A:U<3)(z:6+U∉done):
 J s3 n ((6+U)::done) (λf=>if f=3+U then Z s.hp else id f) {s with env:=put (6+U) (.ptr (Z s.hp) 0 0 0) s.env,hp:=s.hp++[.arr 0 1 [[.aq]]]}:=by
 have m:∀a,p1 ((6+U)::done) a->a<6->a=3+U\/(a≠3+U/\p1 done a):=by
  rintro a (⟨g,i⟩|⟨g,i⟩) b;rcases b6.1 i with e|e;omega;exact .inr ⟨by omega,.inl ⟨g,e⟩⟩;rcases b6.1 i with e|e
  left;omega
  by_cases p:a=3+U;omega;exact .inr ⟨p,.inr ⟨g,e⟩⟩
 have r:∀a,a<3->(9+a∈(6+U)::done<->9+a∈done):=by grind
 have lt:∀a,a<Z s.hp->(s.hp++[Obj.arr 0 1 [[AV.aq]]])[a]?=s.hp[a]?:=λa b=>oG b;refine⟨λf g i v w=>?_,h.bx,λa b d=>?_,λa b d=>?_,λa b d=>?_,λa b d=>?_,λa b c=>?_,λa q b o c k l=>?_,λf y=>?_,?_⟩;rw[fQ,if_neg (by omega)];exact h.env f g i v w;rcases b6.1 d with e|e;omega;rw[fQ,if_neg (by omega)];exact h.mv a b e;have e:=(b6.1 d).resolve_left (by omega);let⟨t,u⟩:=h.ms a b e;grind[fQ];by_cases p:a=U
 subst p;have x:9+a∉done:=λe=>z (h.dep a b e).2;rw[fQ,if_pos rfl,if_pos rfl];simp[r a b,x];have e:=(b6.1 d).resolve_left (by omega);let⟨t,u⟩:=h.al a b e;grind[fQ];have:=h.dep a b ((r a b).1 d);grind;rcases m a c b with e|⟨e,c⟩;rw[if_pos e];simp;exact h.len;have:=h.ge a b c;grind;rcases m a c b with e|⟨e,c⟩<;>rcases m q k o with j|⟨j,k⟩
 omega;rw[if_pos e,if_neg j]at l;have:=(h.ge q o k).2;omega;rw[if_neg e,if_pos j]at l;have:=(h.ge a b c).2;omega;rw[if_neg e,if_neg j]at l;exact h.inj a q b o c k l;have:=h.len;exact(lt f (by omega)).trans (h.DK f y);have:=h.len;simp;omega
theorem J.store(h:J s3 n done id s)(A:U<3)(B:9+U∉done)(x:6+U∈done)(c:2*U+1∈done):
 J s3 n ((9+U)::done) id {s with hp:=s.hp.set (id (3+U)) (.arr 0 1 [[.q (id U) 0 0 n]])}:=by
 have l:∀a,p1 ((9+U)::done) a->a<6->p1 done a:=by
  rintro a (⟨c,f⟩|⟨c,f⟩) b;rcases b6.1 f with e|e;omega;exact .inl ⟨c,e⟩;rcases b6.1 f with e|e;omega;exact .inr ⟨c,e⟩
 have k:p1 done (3+U):=.inr (by grind);have y:=h.ge (3+U) (by omega) k;refine⟨λm c f t u=>h.env m c f t u,h.bx,λa b d=>?_,λa b d=>?_,λa b d=>?_,λa b d=>?_,λa b j=>?_,λa p b o j v=>h.inj a p b o (l a j b) (l p v o),λm w=>?_,?_⟩;exact h.mv a b (by grind);have e:=(b6.1 d).resolve_left (by omega);let⟨g,r⟩:=h.ms a b e;refine⟨g,?_⟩;have:id (3+U)≠id a:=λi=>by
  have:=h.inj _ _ (by omega) (by omega) k (.inl ⟨b,e⟩) i;omega
 grind;have e:=(b6.1 d).resolve_left (by omega);let⟨g,r⟩:=h.al a b e;refine⟨g,?_⟩;simp only;by_cases z:a=U;grind;have C:id (3+U)≠id (3+a):=λi=>by
  have:=h.inj _ _ (by omega) (by omega) k (.inr (by grind)) i;omega
 grind;rcases b6.1 d with e|e;grind;have:=h.dep a b e;grind;have:=h.ge a b (l a j b);simp;omega;simp only;rw[uS (by omega)];exact h.DK m w;grind
variable{G:Nat->Option (List AV)}{A:bS}
theorem ahX{s:AS}(c:n<=1000000)(a:look U s.env=aa (I n)):
 aW aU G A s fZ (.makeSlice 31 (.tmp U) (.tmp U))=aa (.q (Z s.hp) 0 0 n,{s with hp:=s.hp++[.arr 0 1 (dh n [I 0])]}):=by
 have b:u4 1 [I 0] 8 (I n) (I n) s.hp=aa (.q (Z s.hp) 0 0 n,s.hp++[.arr 0 1 (dh n [I 0])]):=by
  unfold u4;simp only;rw[if_pos (by simp;omega),eR]
 have:=(Q8 ahU b).1;simp only[aW,l,a,nr];exact this
theorem ahY{s:AS}(a:U∉A.lb):aW aU G A s (aa U) (.alloc 31)=aa (.ptr (Z s.hp) 0 0 0,{s with hp:=s.hp++[.arr 0 1 [[.aq]]]}):=by
 simp_all[aW,ahV,Ur]
theorem ahZ{s:AS}{id:Nat}{a:AV}(b:look U s.env=aa (.ptr id 0 0 0))(c:look N s.env=aa (.q z 0 0 n))(d:s.hp[id]?=aa (.arr 0 1 [[a]])):
 aW aU G A s fZ (.store 31 (.tmp U) (.tmp N))=aa (.undef,{s with hp:=s.hp.set id (.arr 0 1 [[.q z 0 0 n]])}):=by
 simp_all[aW,l,nr,vZ,AV.pl,AV.cells,Ur,oF,AO,AV.bU,ahW,and_self,e3]
theorem ah0{s3:AS}(V:look 5 s3.env=aa (I n))(ai:n<=1000000)(ah:A.lb=[]):∀(q done:List Nat)(id:Nat->Nat)(s:AS),pL (vg (cL (cR (cR (cR (Tryz.f72.body.getD .skip)))))) done q->J s3 n done id s->
 ∃j k i,J s3 n i k j/\(∀a,a<12->a∈i)/\l9 aU G (vg (cL (cR (cR (cR (Tryz.f72.body.getD .skip)))))) (gJ (vg (cL (cR (cR (cR (Tryz.f72.body.getD .skip)))))) q) s j:=by
 have F:=ahT;generalize vg (cL (cR (cR (cR (Tryz.f72.body.getD .skip)))))=o at F⊢;have am:o.size=12:=by
  have:=congrArg List.length F;simpa[T3]using this
 intro q;induction q with
 |nil=>
  intro done id s y h;exact⟨s,id,done,h,λa af=>y a (by omega),JW⟩
 |cons a q ax=>
  intro done id s y h;let⟨C,⟨c,D,Y⟩,y⟩:=y;have af:a<12:=by
   rw[<-am];exact(kZ.1 D).1
  have ak:T3[a]?=aa (BD c):=by
   rw[<-F,sN,Array.getElem?_toList,D]<;>rfl
  have aj:gJ o (a::q)=c::gJ o q:=by simp[gJ,D]
  rw[aj];have ac:c.guard=ae->gh o s c=aa true:=by grind[gh]
  have U:∀z,z∈(BD c).2.2.2->z∈done:=by
   intro z P;simp only[BD,E8,Array.mem_map,Array.mem_filter]at P;obtain⟨e,⟨Z,X⟩,rfl⟩:=P;exact Y e Z X
  have key:∀(L:AS)(N:AV)(B:AS)(k:Nat->Nat),c.guard=ae->aW aU G A s c.dst c.op=aa (N,L)->gn c.dst (N,L)=B->J s3 n (a::done) k B->∃j k i,J s3 n i k j/\(∀a,a<12->a∈i)/\l9 aU G o (c::gJ o q) s j:=by
   intro L N B k u t v W;let⟨j,au,i,Q,S,R⟩:=ax (a::done) k B y W;exact⟨j,au,i,Q,S,JX (ac u) t (by rw[v];exact R)⟩
  have K:∀b,b<3->a=2*b->c.op=.move (.tmp 5)->c.dst=aa (19+2*b)->c.guard=ae->∃j k i,J s3 n i k j/\(∀a,a<12->a∈i)/\l9 aU G o (c::gJ o q) s j:=by
   intro b r e u t v;subst e;refine key s (I n) _ id v (by rw[u];simp only[aW,l,h.env 5 (by omega) (by omega) (by omega) (by omega),V,nr,AV.pl]) ?_ (h.move r);rw[t]<;>rfl
  have H:∀b,b<3->a=2*b+1->c.op=.makeSlice 31 (.tmp (19+2*b)) (.tmp (19+2*b))->c.dst=aa (20+2*b)->c.guard=ae->2*b∈done->∃j k i,J s3 n i k j/\(∀a,a<12->a∈i)/\l9 aU G o (c::gJ o q) s j:=by
   intro b r e u t v x;subst e;refine key _ _ _ _ v (by rw[u];exact ahX ai (h.mv b r x)) ?_ (h.make r C);rw[t]<;>rfl
  have az:∀b,b<3->a=6+b->c.op=.alloc 31->c.dst=aa (6+b)->c.guard=ae->∃j k i,J s3 n i k j/\(∀a,a<12->a∈i)/\l9 aU G o (c::gJ o q) s j:=by
   intro b r e u t v;subst e;refine key _ _ _ _ v (by rw[u,t];exact ahY (by rw[ah];simp)) ?_ (h.alloc r C);rw[t]<;>rfl
  have M:∀b,b<3->a=9+b->c.op=.store 31 (.tmp (6+b)) (.tmp (20+2*b))->c.dst=ae->c.guard=ae->6+b∈done->2*b+1∈done->∃j k i,J s3 n i k j/\(∀a,a<12->a∈i)/\l9 aU G o (c::gJ o q) s j:=by
   intro b r e u t v x O;subst e;refine key _ _ _ _ v (by rw[u];exact ahZ (h.al b r x).1 (h.ms b r O).1 (h.al b r x).2) ?_ (h.store r C x O);rw[t]<;>rfl
  have T:a=0\/a=1\/a=2\/a=3\/a=4\/a=5\/a=6\/a=7\/a=8\/a=9\/a=10\/a=11:=by omega
  have p:∀{w:Op×Option Tmp×Option (Nat×Bool)×List Nat},T3[a]?=aa w->c.op=w.1/\c.dst=w.2.1/\c.guard=w.2.2.1/\∀z∈w.2.2.2,z∈done:=by
   intro w E;rw[ak]at E;simp only[e7]at E;subst E;exact⟨rfl,rfl,rfl,U⟩
  rcases T with e|e|e|e|e|e|e|e|e|e|e|e<;>rw[e]at p
  let⟨d,f,g,_⟩:=p rfl;exact K 0 (by omega) e d f g;let⟨d,f,g,m⟩:=p rfl;exact H 0 (by omega) e d f g (m 0 (by simp));let⟨d,f,g,_⟩:=p rfl;exact K 1 (by omega) e d f g;let⟨d,f,g,m⟩:=p rfl;exact H 1 (by omega) e d f g (m 2 (by simp));let⟨d,f,g,_⟩:=p rfl;exact K 2 (by omega) e d f g;let⟨d,f,g,m⟩:=p rfl;exact H 2 (by omega) e d f g (m 4 (by simp));let⟨d,f,g,_⟩:=p rfl;grind;let⟨d,f,g,_⟩:=p rfl;grind
  let⟨d,f,g,_⟩:=p rfl;grind;let⟨d,f,g,m⟩:=p rfl;exact M 0 (by omega) e d f g (m 6 (by simp)) (m 1 (by simp));let⟨d,f,g,m⟩:=p rfl;exact M 1 (by omega) e d f g (m 7 (by simp)) (m 3 (by simp));let⟨d,f,g,m⟩:=p rfl;exact M 2 (by omega) e d f g (m 8 (by simp)) (m 5 (by simp))
end
end AM
end Go
