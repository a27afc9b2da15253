/- The law DeriveSequencesUptoCardSaid: part 2 of 14 of the proof. No condition. -/
import Derived.Test.YtegalmbcaggfiaaGreatDoorXa
import Derived.Laws.BitsLemmas
import Derived.Test.YtegalmbcaggfiaaGreatDoorProg
import Derived.KernelRfl
import Derived.Deep.Slices
import Derived.Test.YtegalmbcaggfiaaGreatDoorRows
import Derived.OpenShut
import Derived.ProofKit
import Derived.Deep.DeepHandedRow
import Derived.Lib.LaidTab
import Derived.ChangeStays
import Derived.ReadAgain
set_option maxRecDepth 100000
open List renaming length->Z,range->ay,map->QU,replicate->db,all_eq_not_any_not->arB,getElem?_drop->arC,range'_succ->ary
open Option renaming some->aa,none->ae,map_map->tI,map_none->Cu
open Bool renaming true->ad,false->ab,false_and->vQ,or_self->arz
open Decidable renaming decide->y
open Array renaming toList->bI
open Int renaming ofNat->cu,ofNat_inj->arA
open Go.Proofs.Tryz renaming prog->aU
open List.Sublist renaming append->avA
open Nat renaming mul_one->IT
namespace Go
namespace AM
variable{L n:AS}{u:TypeId}{kh:AS}{cr:TypeId}{cH:Oper -> Bool}{o:Array Oper}{B:Oper}{ry:Nat -> Nat -> Bool}{U N:Nat}
section
variable{P:Program}{G:Nat->Option (List AV)}{An:Nat->bR}{X:fq}{A:bR}
def JU(b:Oper):Bool:=
 match b.op with
 |.call a=>match a.callee with|.builtin .append=>ad|_=>ab
 |_=>ab
theorem acz{b a d:AV}(f:n.hp=L.hp)(h:oT P L u b a=aa (d,kh)):kh={L with hp:=kh.hp}/\oT P n u b a=aa (d,{n with hp:=kh.hp}):=by
 have e:∀c,oS n c a=oS L c a:=by simp_all[oS]
 unfold oT at h⊢;simp only[e,f]
 repeat' split at h
 all_goals grind
theorem acA{b c a:AV}(d:n.hp=L.hp)(h:tN P L u cr b c=aa (a,kh)):kh={L with hp:=kh.hp}/\(∀e,a.gF e=ab)/\tN P n u cr b c=aa (a,{n with hp:=kh.hp}):=by
 unfold tN at h⊢;simp only[d]
 repeat' split at h
 all_goals first|(simp at h;done)|(simp at h;let⟨rfl,rfl⟩:=h;grind[AV.gF])
variable(P)in
 def FG(b:AS)(c d:TypeId)(a e:AV):Option (AV×AS):=if qq P d then oT P b c a e else tN P b c d a e
theorem JV{c f b:AV}(d:n.hp=L.hp)(h:FG P L u cr c f=aa (b,kh)):kh={L with hp:=kh.hp}/\(∀a,b.gF a=ab)/\FG P n u cr c f=aa (b,{n with hp:=kh.hp}):=by
 unfold FG at h⊢;split at h<;>rename_i e
 have:=acz d h;exact⟨this.1,λa=>P0 h a,by rw[if_pos e];exact this.2⟩;have:=acA d h;exact⟨this.1,this.2.1,by rw[if_neg e];exact this.2.2⟩
theorem acB(h:er P G An X cH A o B L n)(f:JU B=ad):
 ∃c t,n=et B.dst c {L with hp:=t}/\(∀I,c.gF I=ab)/\∀b,Ag o B L b->b.hp=L.hp->er P G An X cH A o B b (et B.dst c {b with hp:=t}):=by
 unfold JU at f;split at f
 case h_2=>cases f
 case h_1 d R=>
 split at f
 case h_2=>cases f
 case h_1 N=>
 cases h with
 |skip k=>exact⟨.aB [],L.hp,rfl,λ_=>rfl,λb q j=>by rw[<-j];exact .skip (by rw[q.wanted];exact k)⟩
 |op r k a=>
  let⟨c,g⟩:=r;have u:∀b:AS,aV P G A b B.dst B.op=ko P b .append d.argTypes.toList (d.args.toList.map (l G b)):=by simp_all[aV]
  have key:∃m p e i,d.argTypes.toList=[m,p]/\d.args.toList.map (l G L)=[e,i]/\FG P L m p e i=aa (c,g):=by
   rw[u L]at a;generalize d.argTypes.toList=J at a⊢;generalize d.args.toList.map (l G L)=v at a⊢
   match J,v,a with
   |[m,p],[e,i],a=>
    exact⟨m,p,e,i,rfl,rfl,a⟩
   |[],_,a=>simp[ko]at a
   |[_],_,a=>simp[ko]at a
   |_::_::_::_,_,a=>simp[ko]at a
   |[_,_],[],a=>simp[ko]at a
   |[_,_],[_],a=>simp[ko]at a
   |[_,_],_::_::_::_,a=>simp[ko]at a
  let⟨m,p,e,i,x,y,s⟩:=key;refine⟨c,g.hp,?_,(JV (n:=L) rfl s).2.1,λb q j=>?_⟩;have:=(JV (n:=L) rfl s).1;show gj B.dst (c,g)=gj B.dst (c,{L with hp:=g.hp});grind;have C:=(JV j s).2.2;have E:d.args.toList.map (l G b)=[e,i]:=by
   rw[<-y];exact sM λK U=>q.op K (by grind[Op.operands,Call.operands])
  have D:aV P G A b B.dst B.op=aa (c,{b with hp:=g.hp}):=by
   rw[u b,x,E];exact C
  exact .op (c,{b with hp:=g.hp}) (by rw[q.wanted];exact k) D
 |uP w z V args M W r S j k H F O f a T Q=>
  grind[ja]
 |uQ w z args r t j k H F a=>
  grind[ja]
abbrev Tr:=List (Nat×List Obj×List (Nat×List AV))
variable(P G An X A)in
 inductive qB(hc:Oper->Bool)(ops:Array Oper):List Nat->Tr->AS->AS->Prop
 |nil (s:AS):qB hc ops [] [] s s
 |still (i:Nat) (o:Oper) (rest:List Nat) (tr:Tr) (s s1 s':AS) (ho:ops[i]?=aa o) (h:er P G An X hc A ops o s s1) (hq:aC P A hc o≠.jb) (t:qB hc ops rest tr s1 s'):qB hc ops (i::rest) tr s s'
 |zh (i:Nat) (o:Oper) (rest:List Nat) (tr:Tr) (s s1 s':AS) (ho:ops[i]?=aa o) (h:er P G An X hc A ops o s s1) (hq:aC P A hc o=.jb) (t:qB hc ops rest tr s1 s'):qB hc ops (i::rest) ((i,s1.hp,s1.bx)::tr) s s'
variable(P G An X A)in
 inductive wb(hc:Oper->Bool)(ops:Array Oper)(dyn:Nat->Nat->Bool):List Nat->Tr->AS->AS->Prop
 |nil (s:AS):wb hc ops dyn [] [] s s
 |still (i:Nat) (o:Oper) (rest:List Nat) (tr:Tr) (s s1 s':AS) (ho:ops[i]?=aa o) (h:er P G An X hc A ops o s s1) (hq:aC P A hc o≠.jb) (t:wb hc ops dyn rest tr s1 s')
  (hst:∀e∈tr,dyn i e.1=ad->∃v,s1=et o.dst v s/\er P G An X hc A ops o {s with hp:=e.2.1,bx:=e.2.2} (et o.dst v {s with hp:=e.2.1,bx:=e.2.2})):wb hc ops dyn (i::rest) tr s s'
 |zh (i:Nat) (o:Oper) (rest:List Nat) (tr:Tr) (s s1 s':AS) (ho:ops[i]?=aa o) (h:er P G An X hc A ops o s s1) (hq:aC P A hc o=.jb) (t:wb hc ops dyn rest tr s1 s'):wb hc ops dyn (i::rest) ((i,s1.hp,s1.bx)::tr) s s'
theorem qB.ops:∀{j:List Nat}{i:Tr}{b c:AS},qB P G An X A cH o j i b c->nV P G An X A o (gG o j) b c
 |_,_,_,_,.nil b=>.nil _ _ _
 |_,_,_,_,.still e f a i b l c d h k g=>by
  have:gG o (e::a)=f::gG o a:=by simp[gG,d]
  rw[this];exact h.cons (qB.ops g)
 |_,_,_,_,.zh e f a i b l c d h k g=>by
  have:gG o (e::a)=f::gG o a:=by simp[gG,d]
  rw[this];exact h.cons (qB.ops g)
def nt(bk:Nat->Prop)(d e:Tr):Prop:=∀b∈e,∃a∈d,a.1=b.1/\a.2.1=b.2.1/\∀c,¬bk c->look c a.2.2=look c b.2.2
theorem nt.refl(bk:Nat->Prop)(a:Tr):nt bk a a:=λb h=>by grind
variable{rn:Tr}
theorem nt.trans{bk:Nat->Prop}{a b:Tr}(f:nt bk rn a)(g:nt bk a b):nt bk rn b:=λc h=>by
 let⟨d,e,i,j,k⟩:=g c h;let⟨l,p,m,n,o⟩:=f d e;grind
theorem nt.mono{bk b:Nat->Prop}{a:Tr}(h:∀c,bk c->b c)(f:nt bk rn a):nt b rn a:=λd e=>by
 let⟨g,l,i,j,k⟩:=f d e;grind
theorem nt.cons{bk:Nat->Prop}{a:Tr}(b:Nat×List Obj×List (Nat×List AV))(d:nt bk rn a):nt bk (b::rn) (b::a):=λc hf=>by
 rcases b5.1 hf with rfl|hf;grind;let⟨e,f,h⟩:=d c hf;grind
def FH(P:Program)(A:bR)(c:Oper->Bool)(f:Array Oper)(e:List Nat)(b:Nat):Prop:=∃d∈e,∃a,f[d]?=aa a/\aC P A c a=.box/\a.dst=aa b
def CY(P:Program)(A:bR)(b:Oper->Bool)(d:Array Oper)(e:Nat->Nat->Bool)(f g:Nat)(a c:Oper):Bool:=
 wa P A b d a c||(Oper.apart d a c&&y (aC P A b c=.jb)&&(((y (aC P A b a=.pure)||y (aC P A b a=.rd))&&e f g)||(y (aC P A b a=.box)&&a.guard.isNone&&JU c)))
def P6(P:Program)(A:bR)(g:Oper->Bool)(a:Array Oper)(f:Nat->Nat->Bool)(b c:Nat):Prop:=∀d e,a[b]?=aa d->a[c]?=aa e->CY P A g a f b c d e=ad
def CZ(P:Program)(G:Nat->Option (List AV))(An:Nat->bR)(X:fq)(A:bR)(d:Oper->Bool)(f:Array Oper)(i:Nat->Nat->Bool)(j:Nat)(a:Oper)(g k:AS)(l:Tr):Prop:=
 (aC P A d a=.pure\/aC P A d a=.rd)->∃h,k=et a.dst h g/\∀c∈l,i j c.1=ad->∀b,Ag f a g b->b.hp=c.2.1->(∀e,oY f a g e->look e b.bx=look e c.2.2)->er P G An X d A f a b (et a.dst h b)
theorem Ag.trans(h:Ag o B L n)(c:Ag o B n kh):Ag o B L kh:=λb a=>(c b a).trans (h b a)
theorem P7(h:er P G An X cH A o B L n)(a:aC P A cH B=.pure\/aC P A cH B=.rd):n.hp=L.hp/\n.bx=L.bx:=by
 obtain⟨b,rfl,_⟩:=pJ h a;grind[rJ,rK]
theorem acC{a:Oper}(h:CY P A cH o ry U N B a=ad)(v:er P G An X cH A o B L n)(k:er P G An X cH A o a n kh)(s:ze P A cH B L)(z:ze P A cH a L)
 (g:CZ P G An X A cH o ry U B L n rn)(V:aC P A cH a=.jb->(N,kh.hp,kh.bx)∈rn):
 ∃i,er P G An X cH A o a L i/\er P G An X cH A o B i kh/\
  (aC P A cH a=.jb->i.hp=kh.hp/\∀c,¬(aC P A cH B=.box/\B.dst=aa c)->look c i.bx=look c kh.bx)/\(aC P A cH B=.jb->kh.hp=n.hp/\kh.bx=n.bx):=by
 unfold CY at h;rw[hX]at h;rcases h with d|h
 ·let⟨i,C,l⟩:=swap v k d s z
  refine⟨i,C,l,λq=>?_,λq=>?_⟩;have hp:aC P A cH B=.pure:=by
   unfold wa at d;rw[bc]at d;have:=d.2;rw[q]at this;cases F:aC P A cH B<;>simp[F]at this⊢
  grind[P7];have hp:aC P A cH a=.pure:=by
   unfold wa at d;rw[bc]at d;have:=d.2;rw[q]at this;cases H:aC P A cH a<;>simp[H]at this⊢
  grind[P7]
 simp only[bc,hX,decide_eq_true_eq]at h;let⟨⟨D,I⟩,S⟩:=h;let⟨x,Z,ac⟩:=Oper.apart_spec D;rcases S with⟨T,p⟩|⟨⟨t,J⟩,E⟩;obtain⟨Y,rfl,M⟩:=g T;obtain⟨j,f,y,rfl,m⟩:=FD k (by grind);have u:=V I;rw[rJ,rK]at u;refine⟨_,m L (FE x Y L).symm (by rw[rJ]) (by rw[rK]),?_,by grind[rJ,rK],by grind⟩;have:=M _ u p (et a.dst j {L with hp:=f,bx:=y}) (λc g=>by grind[v8]) (by rw[rJ]) (by grind[rK]);grind[FC,JP]
 have K:B.guard=none:=by simpa using J
 obtain⟨b,w,p,rfl,l⟩:=zd v t K;have r:=s t b p;rw[qz r]at k;obtain⟨j,f,rfl,Q,m⟩:=acB k E;have O:∀c∈a.looksAt o,look c (put b (AV.lp b 0) L.env)=look c L.env:=by grind[fO]
 refine⟨_,m L (λc g=>(O c g).symm) rfl,?_,λ_=>⟨by simp[rJ],λc g=>?_⟩,by grind⟩;have:=l (et a.dst j {L with hp:=f}) (λc g=>by grind[v8]);have R:jc b (et a.dst j {L with hp:=f}).env=true:=by
  rcases W:a.dst with _|e;exact r;exact xJ (Q b) r
 rw[qz R,rK,rJ]at this;have e:({env:=put b (.lp b 0) (et a.dst j {L with hp:=f}).env,bx:=put b w L.bx,hp:=f}:AS)=et a.dst j {env:=put b (.lp b 0) L.env,bx:=put b w L.bx,hp:=f}:=by
  rcases W:a.dst with _|e;rfl;grind[et,gj,AZ]
 grind;simp only[rK];grind[fO]
variable{bq:List Nat}{rn:Tr}
theorem acD{d:Option Tmp}{e c:AV}(h:et d e L=et d c L)(b:AS):et d e b=et d c b:=by
 rcases d with _|d;rfl;have a:=congrArg (λL:AS=>look d L.env) h;simp only[et,gj,fO,if_true,e1]at a;rw[a]
theorem P8(h:er P G An X cH A o B L n)(e:aC P A cH B=.box->B.guard=ae)(d:ze P A cH B L)(g:B.dst≠aa U):look U n.env=look U L.env:=by
 by_cases a:aC P A cH B=.box;obtain⟨b,k,c,rfl,_⟩:=zd h a (e a);rw[qz (d a b c)];grind[fO];obtain⟨j,i,f,rfl,_⟩:=FD h a;grind[v8]
theorem JW(z:zf P A cH o)(w:o[U]?=aa B):∀{m t:List Nat}{l:Tr}{n e r:AS},U∉m->m.Nodup->(∀a∈m,P6 P A cH o ry U a)->l9 P A cH o (U::m) n->er P G An X cH A o B n e->CZ P G An X A cH o ry U B n e l->
 qB P G An X A cH o (m++t) l e r->∃p,qB P G An X A cH o (m++U::t) p n r/\nt (λk=>aC P A cH B=.box/\B.dst=aa k) (if aC P A cH B=.jb then(U,e.hp,e.bx)::l else l) p
 |[],t,l,n,e,r,_,_,_,_,D,_,j=>by
  by_cases C:aC P A cH B=.jb;exact⟨_,.zh U B t l n e r w D C j,by simp_all[nt.refl]⟩;exact⟨_,.still U B t l n e r w D C j,by simp_all[nt.refl]⟩
 |a::m,t,l,n,e,r,T,a2,S,L,D,V,j=>by
  have a3:=kZ.1 a2;have ca:a≠U:=λc=>T (by simp[c]);have core:∀(b:Oper)(g:AS)(s:Tr),o[a]?=aa b->er P G An X cH A o b e g->(∀c∈s,c∈l)->(aC P A cH b=.jb->(a,g.hp,g.bx)∈l)->qB P G An X A cH o (m++t) s g r->
   ∃f p,er P G An X cH A o b n f/\qB P G An X A cH o (m++U::t) p f r/\nt (λk=>aC P A cH B=.box/\B.dst=aa k) (if aC P A cH B=.jb then(U,e.hp,e.bx)::s else s) p/\
    (aC P A cH b=.jb->f.hp=g.hp/\∀k,¬(aC P A cH B=.box/\B.dst=aa k)->look k f.bx=look k g.bx):=by
   intro b g s i x a4 a9 j;have ai:=L U (by simp) B w;have J:=L a (by simp) b i;have H:=S a (by simp) B b w i;let⟨f,u,v,y,Q⟩:=acC H D x ai J V a9;have aj:Oper.apart o B b=true:=by
    unfold CY wa at H;simp only[hX,bc]at H;rcases H with h|h;exact h.1;exact h.1.1
   let⟨br,Y,Z⟩:=Oper.apart_spec aj;have R:Ag o B n f:=λk aZ=>P8 u (z.guard a b i) J (λc=>Z k c aZ);have ax:l9 P A cH o (U::m) f:=l9.step z (bq:=U::m) (U:=a) (by grind) i u (λI M=>L I (by
    grind))
   have aE:CZ P G An X A cH o ry U B f g s:=by
    intro q;let⟨W,af,ah⟩:=V q;let⟨v2,O,_⟩:=pJ v q;have az:ze P A cH b e:=λam d F=>by
     refine P1 D (z.guard U B w) ?_ (J am d F);grind
    have ba:∀E,et B.dst v2 E=et B.dst W E:=by
     intro E;rcases F:B.dst with _|d;rfl;have N:=P8 x (z.guard a b i) az (λc=>Y d F c);rw[O,af,F]at N;simp only[et,gj,fO,if_true,e1]at N;rw[N]
    refine⟨W,by rw[O,ba],λc C au E a5 aA ak=>?_⟩;refine ah c (a4 c C) au E (R.trans a5) aA λk aR=>ak k ?_;let⟨I,M,off,a0⟩:=aR;exact⟨I,M,off,by rw[R I M];exact a0⟩
   let⟨p,bi,cl⟩:=JW z w (λc=>T (by simp[c])) a3.2 (λbm be=>S bm (by simp[be])) ax v aE j;refine⟨f,p,u,bi,?_,y⟩;by_cases C:aC P A cH B=.jb;grind;grind
  rw[hD]at j;cases j with
  |still _ b _ _ _ g _ i x q j=>
   let⟨f,p,u,v,y,_⟩:=core b g l i x (λ_ h=>h) (λc=>absurd c q) j;exact⟨p,.still a b _ _ _ f _ i u q v,y⟩
  |zh _ b _ s _ g _ i x q j=>
   let⟨f,p,u,v,y,Q⟩:=core b g s i x (λc h=>by simp[h]) (λ_=>by simp) j;refine⟨_,.zh a b _ _ _ f _ i u q v,?_⟩;let⟨ce,ci⟩:=Q q;intro ac K;rcases b5.1 K with rfl|K;grind;let⟨c,bv,bD⟩:=y ac K;grind
theorem JX(g:zf P A cH o):∀{c E:List Nat}{q:Tr}{j z:AS},pK (P6 P A cH o ry) c E->E.Nodup->c.Nodup->l9 P A cH o c j->wb P G An X A cH o ry c q j z->
 ∃l,qB P G An X A cH o E l j z/\nt (FH P A cH o c) q l
 |_,_,_,_,_,.nil,_,_,_,h=>by
  cases h
  exact⟨[],.nil _,nt.refl _ _⟩
 |_,_,q,j,z,.cons e c D a0 J x,u,am,m,h=>by
  have r:=kZ.1 am;have K:(D++a0).Nodup:=by
   have:=u;rw[tJ]at this⊢;let⟨T,U,V⟩:=this;exact⟨T,(kZ.1 U).2,λM W N g=>V M W N (by simp[g])⟩
  have H:e∉D:=by
   rw[tJ]at u;exactλak=>u.2.2 e ak e (by simp) rfl
  have F:l9 P A cH o (e::D) j:=λf d=>by
   rcases b5.1 d with rfl|d;exact m _ (by simp);exact m f (by simp[(pK.mem x f).1 (by simp[d])])
  have sub:∀a,FH P A cH o c a->FH P A cH o (e::c) a:=by
   rintro a ⟨f,d,h⟩;exact⟨f,by simp[d],h⟩
  have L:∀(b:Oper),o[e]?=aa b->∀a,(aC P A cH b=.box/\b.dst=aa a)->FH P A cH o (e::c) a:=λb i a h=>⟨e,by simp,b,i,h⟩;cases h with
  |still _ b _ q _ p _ k i w B az=>
   have t:l9 P A cH o c p:=l9.step g r.1 k i (λf d=>m f (by simp[d]));let⟨C,y,s⟩:=JX g x K r.2 t B;have n:CZ P G An X A cH o ry e b j p C:=by
    intro v;let⟨v0,e0,_⟩:=pJ i v;refine⟨v0,e0,λQ ah a4 aZ aA a5 Y=>?_⟩;let⟨O,af,ba,be,aR⟩:=s Q ah;let⟨bi,a2,R⟩:=az O af (by grind);let⟨v2,a3,S,_⟩:=pJ R v;have:=S aZ (λa n=>aA a n) (.inr ⟨by grind,λa ai=>?_⟩);grind[acD];have I:oY o b j a:=ai;rw[Y a I,<-aR a];rintro⟨f,d,aE,ax,Z,ac⟩;have au:=m f (by simp[d]) aE ax Z a ac;let⟨a9,_,off,aj⟩:=I;exact A0 au aj
   let⟨l,r3,r4⟩:=JW g k H (by grind) J F i n y;rw[if_neg w]at r4;exact⟨l,r3,(s.mono sub).trans (r4.mono (L b k))⟩
  |zh _ b _ q _ p _ k i w B=>
   have t:l9 P A cH o c p:=l9.step g r.1 k i (λf d=>m f (by simp[d]));let⟨C,y,s⟩:=JX g x K r.2 t B;have n:CZ P G An X A cH o ry e b j p C:=λv=>by grind
   let⟨l,r3,r4⟩:=JW g k H (by grind) J F i n y;rw[if_pos w]at r4;exact⟨l,r3,((s.mono sub).cons _).trans (r4.mono (L b k))⟩
theorem P9{q:Nat->Nat->Prop}:∀(c d:List Nat),c.Nodup->d.Nodup->(∀a,a∈d<->a∈c)->c.Pairwise (λi a=>q i a\/List.Sublist [i,a] d)->pK q c d
 |[],d,_,_,j,_=>by
  have:d=[]:=aaJ.2 λa p=>by simpa using(j a).1 p
  subst this;exact .nil
 |i::c,d,u,E,j,C=>by
  have x:i∈d:=(j i).2 (by simp);obtain⟨f,k,rfl⟩:=EX x;have n:=kZ.1 u;have t:=AE.1 C;have g:=tJ.1 E;have y:=kZ.1 g.2.1;have I:i∉f:=λh=>g.2.2 i h i (by simp) rfl;have D:(f++k).Nodup:=by
   rw[tJ];exact⟨g.1,y.2,λe o b w=>g.2.2 e o b (by simp[w])⟩
  have s:∀a,a∈f++k<->a∈c:=by
   intro a;have:=j a;simp only[dm,b5]at this⊢;constructor;grind;grind
  refine .cons i c f k (λe o=>?_) (P9 c (f++k) n.2 D s ?_);have v:e∈c:=(s e).1 (by simp[o]);rcases t.1 e v with h|h;exact h;exfalso;let⟨G,K,l,r,m⟩:=List.sublist_append_iff.1 h
  match G,l,r with
  |[],l,_=>
   grind
  |b::J,l,r=>
   grind
  refine t.2.imp_of_mem ?_;intro a F p A h;rcases h with h|h;exact .inl h;have z:a≠i:=by rintro rfl;exact n.1 p
  have B:F≠i:=by rintro rfl;exact n.1 A
  have m:=h.filter (λH=>H≠i);simp only[EY,List.filter_nil,ne_eq,z,B,not_false_eq_true,decide_true,if_true,yS,decide_false,not_true,eZ,if_false]at m;exact .inr (m.trans (avA IX IX))
def FI(a:Nat->Nat->Bool):List Nat->Bool
 |[]=>ad
 |i::b=>b.all (a i)&&FI a b
theorem Qa:∀{a:List Nat},FI ry a=ad->a.Pairwise (λi b=>ry i b=ad)
 |[],_=>.nil
 |i::a,h=>by
  simp only[FI,bc,eL]at h;exact AE.2 ⟨h.1,Qa h.2⟩
def A1(P:Program)(A:bR)(b:Oper->Bool)(a:Array Oper)(c d:Nat):Bool:=
 match a[c]?,a[d]? with
 |aa e,aa f=>y (aC P A b e=.rd)&&y (aC P A b f=.jb)&& !((zg a.toList #[]).getD d 0).testBit c
 |_,_=>ab
def Qb(a d:Oper)(b c:Nat):Bool:=a.guard.isNone&&(y (b=c)||a.dst.isNone||a.dst !=d.dst)
def C0(P:Program)(A:bR)(f:Oper->Bool)(a:Array Oper)(d:List Nat):Bool:=
 decide d.Nodup&&d.all (· <a.size)&&(ay a.size).all (· ∈d)&&
 FI (λb c=>match a[b]?,a[c]? with|aa e,aa g=>((zg a.toList #[]).getD c 0).testBit b||CY P A f a (A1 P A f a) b c e g|_,_=>ad) d&&
 (ay a.size).all λc=>(ay a.size).all λb=>
  match a[b]?,a[c]? with
  |aa e,aa g=> !y (aC P A f e=.box)||Qb e g b c
  |_,_=>ad
theorem acE(q:C0 P A cH o bq=ad)(F:l9 P A cH o bq L)(h:wb P G An X A cH o (A1 P A cH o) bq rn L n):∀k,pF o [] k->nV P G An X A o (gG o k) L n:=by
 intro k r;unfold C0 at q;simp only[bc,decide_eq_true_eq]at q;let⟨⟨⟨⟨s,d⟩,t⟩,I⟩,u⟩:=q;simp only[eL,iw,decide_eq_true_eq]at d t;let⟨B,R,N⟩:=JT r;have w:∀a,a∈k<->a∈bq:=λa=>⟨λh=>t a (CV r a h),λh=>(N a (d a h)).resolve_left (by simp)⟩;have D:zf P A cH o:=by
  have key:∀(b a:Nat)(c e:Oper),o[b]?=aa c->o[a]?=aa e->aC P A cH c=.box->c.guard=ae/\(b≠a->c.dst=ae\/c.dst≠e.dst):=by
   intro b a c e m p f;have l:b<o.size:=(kY.1 m).1;have g:a<o.size:=(kY.1 p).1;simp only[eL]at u;have:=u a (iw.2 g) b (iw.2 l);simp only[m,p,f,Qb,decide_true,sN,l3,bc,hX,decide_eq_true_eq,IU,bne_iff_ne,ne_eq]at this;refine⟨this.1,λx=>?_⟩;rcases this.2 with(h|h)|h;omega;exact .inl h;exact .inr h
  exact{
   guard:=λb j i f=>(key b b j j i i f).1
   slot:=λb a j z i y x f O v=>by
    rcases(key b a j z i y f).2 x with h|h;rw[v]at h;cases h;rw[v]at h;exactλC=>h C.symm}
 refine(JX D (P9 bq k s B w ?_) B s F h).elim λS h=>h.1.ops;apply(Qa I).imp_of_mem;intro b a l g hp;let⟨c,m⟩:∃c,o[b]?=aa c:=⟨o[b]'(d b l),by simp[d b l]⟩;let⟨e,p⟩:∃e,o[a]?=aa e:=⟨o[a]'(d a g),by simp[d a g]⟩;simp only[m,p,hX]at hp;rcases hp with hp|hp
 right
 have E:=JR (d:=o) o.toList #[] (λJ=>by simp) (λJ b h=>by simp at h) a b hp;have H:=(w a).2 g;obtain⟨K,M,rfl⟩:=EX H;have Q:=(JS r (by simp) K a M rfl b E).resolve_left (by simp);grind
 left
 intro j z i y;grind
end
variable{bq:List Nat}{rn:Tr}
abbrev I(a:Int):AV:=.int .i64 a
abbrev tt:AV:=.bool ad
abbrev ff:AV:=.bool ab
def pM(b:List Nat)(a:Oper):Bool:=match a.op with|.call _=>a.dst.any (· ∈b)|_=>ab
inductive EV where
 |av(v:AV)
 |lp(k off:Nat)
 |sk
def EV.val:EV->AV
 |.av b=>b.pl
 |.lp a off=>.lp a off
 |.sk=>.aB []
def EV.v:EV->AV
 |.av a=>a
 |.lp _ _=>.undef
 |.sk=>.aB []
structure WS where
 env:List (Nat×EV)
 bx:List (Nat×List AV)
 hp:List Obj
def fP(b:List (Nat×EV)):List (Nat×AV):=b.map λa=>(a.1,a.2.val)
def WS.as(a:WS):AS:={env:=fP a.env,bx:=a.bx,hp:=a.hp}
variable{K:Type}
def bd(c:Option K)(a:K->Prop):Prop:=match c with|aa b=>a b|ae=>False
variable{bZ:Type}
def cj(c:Option (K×bZ))(b:K->bZ->Prop):Prop:=match c with|aa a=>b a.1 a.2|ae=>False
def ez(c:AV)(a b:Prop):Prop:=match c.pl with|.bool ad=>a|.bool ab=>b|_=>False
def ob(a b:AV):Prop:=a=b
def jn(a:(List AV->List Obj->Prop)->Prop)(b:List AV->List Obj->Prop):Prop:=a b
def jA(c:List AV->List Obj->(List AV->List Obj->Prop)->Prop)(b:List AV)(a:List Obj):Prop:=
 ∀I:List AV->List Obj->Prop,(∀b a,c b a I->I b a)->I b a
def g(a:List AV)(b:Nat):AV:=a.getD b .undef
def tS(a:List AV):Nat->Nat->List AV
 |0,_=>[]
 |n+1,b=>g a b::tS a n (b+1)
def dS(b:Nat)(a:AV):Option (List AV):=if Z a.pl.cells=b/\a.pl.cells.all AV.bU=ad then aa a.pl.cells else ae
def nu(a:AV):Option AV:=if a.pl.bU=ad then aa a.pl else ae
def ft(b:Nat)(a:List Obj):Option (AV×List Obj):=aa (.q (Z a) 0 0 0,a++[.arr 0 b []])
def lA(b:Nat)(c:List AV)(a:List Obj):Option (AV×List Obj):=aa (.ptr (Z a) 0 0 0,a++[.arr 0 b [c]])
def j0(b:Nat)(c:AV):Option AV:=(dS b c).map λa=>.aH ab a 0
def nw(b:Nat)(d:AV)(a:List Obj):Option (AV×List Obj):=(dS b d).map λc=>(.ptr (Z a) 0 0 0,a++[.arr 0 b [c]])
def Qc(c a b:AV):Option AV:=match c.pl with|.bool d=>aa (if d then a else b)|_=>ae
def ma(cells:List AV):List (Nat×Nat×AV)->Option (List AV)
 |[]=>aa cells
 |(off,size,a)::b=>if Z a.pl.cells=size/\off+size<=Z cells/\a.pl.cells.all AV.bU=ad then ma (eV cells off a.pl.cells) b else ae
def fQ(c:Nat)(d:List AV)(b:Nat)(parts:List (Nat×AV)):Option AV:=(lH c (db b d) parts).map λa=>.sl ab a
def FJ(c:Nat)(e:List AV)(b:Nat)(parts:List (Nat×AV))(a:List Obj):Option (AV×List Obj):=(lH c (db b e) parts).map λd=>(.q (Z a) 0 0 b,a++[.arr 0 c d])
def wc(b:List Obj):AV->Option (List AV×Nat)
 |.aH _ a off=>aa (a,off)
 |.ptr id g e off=>
  match b[id]? with
  |aa (.arr d _ c)=>if d=g then(c[e]?).map λa=>(a,off)else ae
  |_=>ae
 |_=>ae
def aQ(b:Nat)(d:Bool)(e:AV)(c:List Obj):Option AV:=
 match wc c e with
 |aa (a,off)=>if off+b<=Z a then aa (qo d ((a.drop off).take b))else ae
 |ae=>ae
def dp(a:Nat)(h i:AV)(b:List Obj):Option (List Obj):=
 let new:=i.pl.cells
 if Z new=a/\new.all AV.bU=ad then
  match h with
  |.ptr id g f off=>
   match b[id]? with
   |aa (.arr e a d)=>
    if e=g then
     match d[f]? with
     |aa c=>if off+Z new<=Z c then aa (b.set id (.arr e a (d.set f (eV c off new))))else ae
     |ae=>ae
    else ae
   |_=>ae
  |_=>ae
 else ae
def dD(a:Nat)(h:AV)(b:List Obj):Option AV:=
 match h with
 |.aH c d off=>aa (.aH c d (off+a))
 |.ptr id g f off=>
  match b[id]? with
  |aa (.arr e _ _)=>if e=g then aa (.ptr id g f (off+a))else ae
  |_=>ae
 |_=>ae
def iH(v:AV)(a:List Obj):Option AV:=match v with|.fn d b c=>aa (.fn d b c)|v=>dD 0 v a
def pN(len d:Nat)(e c:AV)(b:List Obj):Option AV:=
 match c.pl with
 |.int _ a=>if 0<=a/\a<len then dD (a.toNat*d) e b else ae
 |_=>ae
def bT(c:Nat)(k i:AV)(d:List Obj):Option AV:=
 match i.pl with
 |.int _ a=>
  match k with
  |.sl e f=>
   if 0<=a then
    match f[a.toNat]? with
    |aa b=>if Z b=c then aa (.aH e b 0)else ae
    |ae=>ae
   else ae
  |.q id g off len=>
   if 0<=a/\a<len then
    match d[id]? with
    |aa (.arr h j _)=>if h=g/\j=c then aa (.ptr id g (off+a.toNat) 0)else ae
    |_=>ae
   else ae
  |_=>ae
 |_=>ae
def C1(off b:Nat)(c:Bool)(d:AV):Option AV:=
 match d with
 |.agg a=>if off+b<=Z a then aa (qo c ((a.drop off).take b))else ae
 |_=>ae
def mb(e c:AV):Option AV:=
 match e,c.pl with
 |.str d,.int _ a=>if 0<=a then(d[a.toNat]?).map λb=>.int .u8 b.toNat else ae
 |_,_=>ae
inductive BK where
 |s
 |b
 |n
 |a(n:Nat)(ks:List Nat)
def aT(bk:BK)(op:BinOp)(x j:AV):Option AV:=
 match x,j with
 |.int e d,.int h c=>
  match op with
  |.shl=>if c<0 then ae else aa (.int e (e.wrap (d*2^(min c.toNat e.bits))))
  |.shr=>if c<0 then ae else aa (.int e (d.fdiv (2^(min c.toNat e.bits))))
  |_=>if e=h then kE op e d c else ae
 |.str d,.str c=>vU op d c
 |.bool d,.bool c=>
  match bk,op with
  |.b,.eql=>aa (.bool (d==c))
  |.b,.neq=>aa (.bool (!(d==c)))
  |_,_=>ae
 |.agg f,.agg bs=>
  match bk with
  |.a g i=>
   if Z f=g/\Z bs=g then
    match op,fZ i f bs with
    |.eql,aa r=>aa (.bool r)
    |.neq,aa r=>aa (.bool (!r))
    |_,_=>ae
   else ae
  |_=>ae
 |x,.aq=>
  match bk,op,x.Cx with
  |.n,.eql,aa c=>aa (.bool c)
  |_,_,_=>ae
 |_,_=>ae
inductive CK where
 |int(k:IntKind)
 |str
 |bytes
 |no
def pO(d:CK)(f:AV):Option AV:=
 match d,f with
 |.int b,.int _ e=>aa (.int b (b.wrap e))
 |.str,.str a=>aa (.str a)
 |.bytes,.str a=>aa (.sl ab (a.map λc=>[.int .u8 c.toNat]))
 |_,_=>ae
def uW(f:Nat)(g:List AV)(bytes:Nat)(d c:AV)(b:List Obj):Option (AV×List Obj):=
 match d,c with
 |.int _ a,.int _ e=>if a=e/\0<=a/\a*bytes<=2^47/\a<2^47 then aa (.q (Z b) 0 0 a.toNat,b++[.arr 0 f (db a.toNat g)])else ae
 |_,_=>ae
inductive SK where
 |str
 |sl(sz:Nat)
 |arr(n:Nat)
def fy(o:SK)(r:AV)(c a:Option AV)(j:List Obj):Option AV:=
 match o,r with
 |.arr n,.aH d e 0=>if c.isNone&&a.isNone&&y (Z e=n)then aa (.sl d (e.map λl=>[l]))else ae
 |.sl _,.aq=>match eO 0 0 a,eO 0 0 c with|aa _,aa _=>aa .aq|_,_=>ae
 |.sl _,.dG=>match eO 0 0 a,eO 0 0 c with|aa _,aa _=>aa .dG|_,_=>ae
 |.str,.str d=>
  match eO (Z d) (Z d) a with
  |aa h=>
   match eO h 0 c with
   |aa b=>aa (.str ((d.take h).drop b))
   |ae=>ae
  |ae=>ae
 |.sl i,.sl k f=>
  match eO (Z f) (Z f) a with
  |aa h=>
   match eO h 0 c with
   |aa b=>if f.all (λe=>Z e==i)then aa (.sl k ((f.take h).drop b))else ae
   |ae=>ae
  |ae=>ae
 |.sl i,.q id g off len=>
  match eO len len a with
  |aa h=>
   match eO h 0 c,j[id]? with
   |aa b,aa (.arr m p _)=>if m=g/\p=i then aa (.q id g (off+b) (h -b))else ae
   |_,_=>ae
  |ae=>ae
 |_,_=>ae
structure KD where
 ag:Bool
 n:Nat
 ks:List Nat
def KD.eq(a:KD):AV->AV->Option Bool
 |.int d b,.int e c=>if d=e/\a.ks=[0]/\a.ag=ab/\a.n=1 then aa (b==c)else ae
 |.str b,.str c=>if a.ks=[1]/\a.ag=ab/\a.n=1 then aa (b==c)else ae
 |.agg b,.agg c=>if a.ag=ad/\Z b=a.n/\Z c=a.n then fZ a.ks b c else ae
 |_,_=>ae
def KD.find(a:KD)(c:AV):List AV->Nat->Option (Option Nat)
 |[],_=>aa ae
 |x::d,b=>
  match a.eq c x with
  |aa ad=>aa (aa b)
  |aa ab=>KD.find a c d (b+1)
  |ae=>ae
def mc(b:List Obj):AV->Option (List AV×List AV)
 |.ih a vs=>aa (a,vs)
 |.b7 id=>match b[id]? with|aa (.mp _ a vs)=>aa (a,vs)|_=>ae
 |_=>ae
def JY(a:KD)(f:AV)(ok:Bool)(e c:AV)(b:List Obj):Option AV:=
 match y4 b e,a.ks,a.ag,f with
 |aa d,[0],ab,.int .i64 0=>CA d c ok
 |_,_,_,_=>ae
def iI(b:KD)(c:AV)(ok:Bool)(e a:AV)(d:List Obj):Option AV:=
 match mc d e with
 |aa (h,vs)=>
  if(b.eq a a).isSome then
   match b.find a h 0 with
   |aa (aa g)=>match vs[g]? with|aa f=>aa (if ok then .aB [f,.bool ad]else f)|ae=>ae
   |aa ae=>aa (if ok then .aB [c,.bool ab]else c)
   |ae=>ae
  else ae
 |ae=>JY b c ok e a d
def jO(d:KD)(h a f:AV)(b:List Obj):Option (List Obj):=
 match h with
 |.b7 id=>
  match b[id]? with
  |aa (.mp e c vs)=>
   if(d.eq a.pl a.pl).isSome then
    match d.find a.pl c 0 with
    |aa (aa g)=>aa (b.set id (.mp e c (vs.set g f.pl)))
    |aa ae=>aa (b.set id (.mp e (c++[a.pl]) (vs++[f.pl])))
    |ae=>ae
   else ae
  |_=>ae
 |_=>ae
def A2(d:KD)(f:AV)(g a:AV)(b:List Obj):Option (AV×List Obj):=
 match g with
 |.b7 id=>
  match b[id]? with
  |aa (.mp ad c vs)=>
   if(d.eq a.pl a.pl).isSome then
    match d.find a.pl c 0 with
    |aa (aa e)=>match vs[e]? with|aa h=>aa (.aB [h,.int .i64 e],b)|ae=>ae
    |aa ae=>aa (.aB [f,.int .i64 (Z c)],b.set id (.mp ad (c++[a.pl]) (vs++[f])))
    |ae=>ae
   else ae
  |_=>ae
 |_=>ae
def A3(d e f:AV)(a:List Obj):Option (List Obj):=
 match d,e with
 |.b7 id,.int _ (.ofNat c)=>
  match a[id]? with
  |aa (.mp ad b vs)=>if c<Z b then aa (a.set id (.mp ad b (vs.set c f.pl)))else ae
  |_=>ae
 |_,_=>ae
def A4(c:KD)(f b:AV)(a:List Obj):Option (List Obj):=
 match f with
 |.b7 id=>
  match a[id]? with
  |aa (.mp g e vs)=>
   if(c.eq b.pl b.pl).isSome then
    match c.find b.pl e 0 with
    |aa (aa d)=>aa (a.set id (.mp ab (e.eraseIdx d) (vs.eraseIdx d)))
    |aa ae=>aa a
    |ae=>ae
   else ae
  |_=>ae
 |_=>ae
def FK:AV->Option AV
 |.aq=>aa (.int .i64 0)
 |_=>ae
def JZ(b:AV)(a:List Obj):Option (AV×List Obj):=
 match b with
 |.int .i64 _=>aa (.b7 (Z a),a++[.mp ad [] []])
 |_=>ae
def C2(d e:Nat)(g:List AV)(c f:AV)(b:List Obj):Option (AV×List Obj):=
 match c,f with
 |.aq,.int .i64 a=>if 0<a/\a*e<=2^47 then aa (.q (Z b) 0 0 a.toNat,b++[.arr 0 d (db a.toNat g)])else ae
 |_,_=>ae
def C3(c:Nat)(h:List AV)(f:AV)(a:List Obj):Option (List Obj):=
 match f with
 |.q id g off len=>
  match a[id]? with
  |aa (.arr d e b)=>if d=g/\e=c then aa (a.set id (.arr g c (b.take off++(db len h++b.drop (off+len)))))else ae
  |_=>ae
 |_=>ae
inductive LK where
 |str|sl|map
 |arr(n:Nat)
def gk(e:LK)(g:AV)(b:List Obj):Option AV:=
 match e,g with
 |.str,.str c=>aa (.int .i64 (Z c))
 |.sl,.aq=>aa (.int .i64 0)
 |.sl,.dG=>aa (.int .i64 0)
 |.sl,.sl _ d=>aa (.int .i64 (Z d))
 |.sl,.q _ _ _ len=>aa (.int .i64 len)
 |.arr f,_=>aa (.int .i64 f)
 |.map,.b7 id=>match b[id]? with|aa (.mp _ a _)=>aa (.int .i64 (Z a))|_=>ae
 |.map,.ih a _=>aa (.int .i64 (Z a))
 |_,_=>ae
def ij(c:List Obj)(b:Nat):AV->Option (List (List AV))
 |.aq=>aa []
 |.dG=>aa []
 |.sl _ a=>if a.all (λf=>Z f==b)then aa a else ae
 |.q id g off len=>
  match c[id]? with
  |aa (.arr h i a)=>if h=g/\i=b/\off+len<=Z a then aa ((a.drop off).take len)else ae
  |_=>ae
 |.str d=>if b=1 then aa (d.map λe=>[.int .u8 e.toNat])else ae
 |_=>ae
def cJ(c bytes:Nat)(d i:AV)(b:List Obj):Option (AV×List Obj):=
 match ij b c i with
 |aa a=>
  if d.isNil=ad then if Z a*bytes<=2^47 then aa (.q (Z b) 0 0 (Z a),b++[.arr 0 c a])else ae else
  match d with
  |.q id g 0 len=>
   match b[id]? with
   |aa (.arr f h e)=>
    if f=g/\len<=Z e/\h=c/\(len+Z a)*bytes<=2^47 then
     aa (.q id (g+1) 0 (len+Z a),b.set id (.arr (g+1) c (e.take len++a)))
    else ae
   |_=>ae
  |_=>ae
 |ae=>ae
def fH(a:Nat)(b:AV):Option AV:=match b with|.aB vs=>vs[a]?|_=>ae
def A5(a:Nat)(d:AV):Option AV:=match d with|.iface b c=>if b=a then aa c else ae|_=>ae
def PR(C:fq)(c:Nat)(args:List AV)(r:AV):Prop:=∃b a,C c args [] b a/\aM a .res b r
def cp(C:fq)(e:Nat)(args:List AV)(c:List Obj)(d:AV->Prop):Prop:=
 ∃a b r,a≠Md.res/\b6 c a (args.map AV.pl) b/\PR C e b r/\(a=.cb->NB r)/\d r
def ch(C:fq)(d:Nat)(args:List AV)(b:List Obj)(c:AV->List Obj->Prop):Prop:=
 ∃r a,C d (args.map AV.pl) b r a/\c r a
def lK(b:AV)(args:List AV):Option (Nat×List AV):=match b with|.fn a first cap=>aa (a,first.map AV.pl++args++cap.map AV.pl)|_=>ae
def rL(g:List (Nat×Nat×Option (Nat×Bool)))(i:AV)(args:List AV)(c:List Obj):Option (Nat×List AV):=
 match i with
 |.iface f b=>
  match look f g with
  |aa (a,ae)=>aa (a,b.pl::args)
  |aa (a,aa (e,d))=>(aQ e d b c).map λh=>(a,h.pl::args)
  |ae=>ae
 |_=>ae
section
variable(P:Program)(G:Nat->Option (List AV))(C:fq)(A:bR)(hc:Oper->Bool)
def gv(b:Nat):AV:=match G b with|aa a=>.aH ab a 0|ae=>.undef
def qC(a:WS):Operand->EV
 |.tmp d=>(look d a.env).getD (.av .undef)
 |.const e=>.av ((rF e).getD .undef)
 |.global c=>.av (gv G c)
 |.func b=>.av (.fn b [] [])
def bX(a:WS)(b:Operand):AV:=(qC G a b).v
def uX(a:Nat):List (Nat×EV)->Bool
 |[]=>ad
 |(_,.lp c _)::b=>c !=a&&uX a b
 |_::b=>uX a b
def nx(c:Option Tmp)(d:EV)(a:WS):WS:=
 match c with
 |aa b=>{a with env:=put b d a.env}
 |ae=>a
def A6(place:Nat->Option (Nat×Nat)):List (Nat×AV)->Option (List (Nat×Nat×AV))
 |[]=>aa []
 |(a,e)::r=>match place a,A6 place r with|aa (c,d),aa b=>aa ((c,d,e)::b)|_,_=>ae
def J0(g:TypeId)(parts:List (Nat×AV)):Option (List AV×List (Nat×Nat×AV)):=
 match P.underlying g,qp P g with
 |aa (.struct f),aa e=>if f.all λa=>(P.info? a.type).isSome then(A6 (λc=>(f[c]?).map λa=>(a.offset,bh P a.type)) parts).map λd=>(e,d)else ae
 |aa (.array _ b),aa e=>if 0<bh P b then(A6 (λc=>aa (c*bh P b,bh P b)) parts).map λd=>(e,d)else ae
 |_,_=>ae
def xL(a:TypeId):Bool:=(fp P a||bh P a==1)&&(P.underlying a).isSome
def A7(c:TypeId):BK:=
 match P.underlying c with
 |aa .bool=>.b
 |aa (.slice _)=>.n
 |_=>
  if P.eqGuardType P.depth c=ab/\fp P c=ad then
   match nn P 100 c with
   |aa d=>.a (bh P c) d
   |ae=>.s
  else .s
def C4(d b:TypeId):CK:=
 match P.underlying d,P.underlying b with
 |aa (.int _),aa (.int c)=>.int c
 |aa .string,aa .string=>.str
 |aa .string,aa (.slice a)=>
  match P.underlying a with
  |aa (.int .u8)=>if bh P a=1 then .bytes else .no
  |_=>.no
 |_,_=>.no
def J1(c:TypeId):Option SK:=
 match P.underlying c with
 |aa .string=>aa .str
 |aa (.slice a)=>if 0<bh P a then aa (.sl (bh P a))else ae
 |aa (.array b a)=>if bh P a=1 then aa (.arr b)else ae
 |_=>ae
def qD(a:TypeId):Option KD:=(nS P a).map λks=>{ag:=fp P a,n:=bh P a,ks:=ks}
def J2(b:TypeId):Option LK:=
 match P.underlying b with
 |aa .string=>aa .str
 |aa (.slice _)=>aa .sl
 |aa (.array a _)=>aa (.arr a)
 |aa (.map _ _)=>aa .map
 |_=>ae
def qE(c:TypeId):Option (Nat×List AV×Nat):=
 match P.underlying c with
 |aa (.slice a)=>match qp P a with|aa b=>if Z b=bh P a/\0<bh P a then aa (bh P a,b,uL P a)else ae|ae=>ae
 |_=>ae
def J3(a:WS)(m:Builtin)(r:List TypeId)(args:List AV)(d:EV->WS->Prop):Prop:=
 match m,r,args with
 |.len,[c],[e]=>match J2 P c with|aa p=>bd (gk p e a.hp) λb=>d (.av b) a|ae=>False
 |.append,[c,l],[i,e]=>
  if qq P l then
   match qE P c with
   |aa (h,_,g)=>if 0<g then cj (cJ h g i e a.hp) λb f=>d (.av b) {a with hp:=f}else False
   |ae=>False
  else
   match qE P c,P.underlying l with
   |aa (h,k,g),aa (.int .i64)=>if 0<g then cj (C2 h g k i e a.hp) λb f=>d (.av b) {a with hp:=f}else False
   |_,_=>False
 |.cap,[c],[e]=>match P.underlying c with|aa (.slice _)=>bd (FK e) λb=>d (.av b) a|_=>False
 |.clear,[c],[e]=>match qE P c with|aa (h,k,_)=>bd (C3 h k e a.hp) λf=>d (.av (.aB [])) {a with hp:=f}|ae=>False
 |.delete,[c,_],[q,n]=>
  match P.underlying c with
  |aa (.map o _)=>match qD P o with|aa i=>bd (A4 i q n a.hp) λf=>d (.av (.aB [])) {a with hp:=f}|ae=>False
  |_=>False
 |.min,_,j=>bd (tO j) λb=>d (.av b) a
 |.max,_,j=>bd (sR j) λb=>d (.av b) a
 |_,_,_=>False
def C5(a:WS)(y:Option Tmp)(op:Op)(c:EV->WS->Prop):Prop:=
 match op with
 |.move e=>c (.av (bX G a e)) a
 |.assign e=>
  match e,y with
  |.const (.slice ae 0 0),aa g=>match look g A.acc with|aa u=>cj (ft u a.hp) λd f=>c (.av d) {a with hp:=f}|ae=>c (.av .aq) a
  |_,_=>c (.av (bX G a e)) a
 |.pick k q r=>bd (Qc (bX G a k) (bX G a q) (bX G a r)) λd=>c (.av d) a
 |.alloc i=>
  match qp P i,y with
  |aa j,aa g=>
   if Z j=bh P i then
    if g∈A.lb then if uX g a.env then c (.lp g 0) {a with bx:=put g j a.bx}else False
    else cj (lA (bh P i) j a.hp) λd f=>c (.av d) {a with hp:=f}
   else False
  |_,_=>False
 |.box i e=>
  match y with
  |aa g=>
   if g∈A.lb then
    if uX g a.env then
     if fp P i then bd (dS (bh P i) (bX G a e)) λl=>c (.lp g 0) {a with bx:=put g (tS l (bh P i) 0) a.bx}
     else if bh P i=1 then bd (nu (bX G a e)) λk=>c (.lp g 0) {a with bx:=put g [k] a.bx}else False
    else False
   else if g∈A.own then cj (nw (bh P i) (bX G a e) a.hp) λd f=>c (.av d) {a with hp:=f}
   else bd (j0 (bh P i) (bX G a e)) λd=>c (.av d) a
  |ae=>False
 |.build b x=>
  match J0 P b (x.toList.map λm=>(m.1,bX G a m.2))with
  |some (j,C)=>bd (ma j C) λl=>c (.av (.agg l)) a
  |none=>False
 |.buildSlice b p x=>
  match qE P b with
  |aa (u,j,_)=>
   if p*u<=2^24 then
    if p==0 then if x.isEmpty then c (.av .dG) a else False
    else if y.any (· ∈A.own)then cj (FJ u j p (x.toList.map λm=>(m.1,bX G a m.2)) a.hp) λd f=>c (.av d) {a with hp:=f}
    else bd (fQ u j p (x.toList.map λm=>(m.1,bX G a m.2))) λd=>c (.av d) a
   else False
  |ae=>False
 |.load b q=>
  if xL P b then
   match qC G a q with
   |.lp h off=>
    match look h a.bx with
    |aa l=>if off+bh P b<=Z l then c (.av (qo (fp P b) ((l.drop off).take (bh P b)))) a else False
    |ae=>False
   |.av d=>bd (aQ (bh P b) (fp P b) d a.hp) λw=>c (.av w) a
   |.sk=>False
  else False
 |.store b q d=>
  if(P.info? b).isSome then
   match qC G a q with
   |.lp h off=>
    match look h a.bx with
    |aa l=>
     if off+bh P b<=Z l then
      if fp P b then bd (dS (bh P b) (bX G a d)) λF=>c (.av .undef) {a with bx:=put h (eV l off (tS F (bh P b) 0)) a.bx}
      else if bh P b=1 then bd (nu (bX G a d)) λk=>c (.av .undef) {a with bx:=put h (eV l off [k]) a.bx}else False
     else False
    |ae=>False
   |.av m=>bd (dp (bh P b) m (bX G a d) a.hp) λf=>c (.av .undef) {a with hp:=f}
   |.sk=>False
  else False
 |.nilCheck e=>
  match qC G a e with
  |.lp h off=>c (.lp h off) a
  |.av d=>bd (iH d a.hp) λw=>c (.av w) a
  |.sk=>False
 |.binOp op b e M _=>bd (aT (A7 P b) op (bX G a e) (bX G a M)) λw=>c (.av w) a
 |.unOp op _ e=>bd (np op (bX G a e)) λw=>c (.av w) a
 |.convert q r e=>bd (pO (C4 P q r) (bX G a e)) λw=>c (.av w) a
 |.makeInterface b e=>match P.underlying b with|aa (.interface _)=>False|aa _=>c (.av (.iface b (bX G a e).pl)) a|ae=>False
 |.makeFunc s first cap=>match s with|.func s=>c (.av (.fn s (first.toList.map λe=>(bX G a e).pl) (cap.toList.map λe=>(bX G a e).pl))) a|_=>False
 |.makeMap b (aa e)=>match P.underlying b with|aa (.map _ _)=>cj (JZ (bX G a e) a.hp) λd f=>c (.av d) {a with hp:=f}|_=>False
 |.makeMap _ ae=>cj (aa (AV.b7 (Z a.hp),a.hp++[.mp ad [] []])) λd f=>c (.av d) {a with hp:=f}
 |.makeSlice b C k=>
  match qE P b with
  |aa (u,j,E)=>cj (uW u j E (bX G a C) (bX G a k) a.hp) λd f=>c (.av d) {a with hp:=f}
  |ae=>False
 |.range b e=>match P.underlying b with|aa .string=>cj (vW (bX G a e) a.hp) λd f=>c (.av d) {a with hp:=f}|_=>False
 |.next e r=>if r then cj (tP (bX G a e) a.hp) λd f=>c (.av d) {a with hp:=f}else False
 |.slice b e I H J=>
  match J1 P b,J with
  |aa K,ae=>bd (fy K (bX G a e) (I.map (bX G a)) (H.map (bX G a)) a.hp) λd=>c (.av d) a
  |_,_=>False
 |.fieldAddr b e s=>
  match P.underlying b with
  |aa (.struct B)=>
   match B[s]? with
   |aa n=>
    if 0<bh P n.type then
     match qC G a e with
     |.lp h D=>c (.lp h (D+n.offset)) a
     |.av d=>bd (dD n.offset d a.hp) λw=>c (.av w) a
     |.sk=>False
    else False
   |ae=>False
  |_=>False
 |.field b e s=>
  match P.underlying b with
  |aa (.struct B)=>match B[s]? with|aa n=>if xL P n.type then bd (C1 n.offset (bh P n.type) (fp P n.type) (bX G a e)) λw=>c (.av w) a else False|ae=>False
  |_=>False
 |.indexAddr b e t=>
  match P.underlying b with
  |aa (.array len i)=>
   if 0<bh P i then
    match qC G a e with
    |.lp h D=>match bX G a t with|.int _ p=>if 0<=p/\p<len then c (.lp h (D+p.toNat*bh P i)) a else False|_=>False
    |.av d=>bd (pN len (bh P i) d (bX G a t) a.hp) λw=>c (.av w) a
    |.sk=>False
   else False
  |aa (.slice i)=>if 0<bh P i then bd (bT (bh P i) (bX G a e) (bX G a t) a.hp) λw=>c (.av w) a else False
  |_=>False
 |.index b e t=>
  match P.underlying b with
  |aa .string=>bd (mb (bX G a e) (bX G a t)) λw=>c (.av w) a
  |_=>False
 |.lookup b o h ok=>
  match P.underlying b with
  |aa (.map v z)=>
   match qD P v,sP P z with
   |aa g,aa j=>bd (iI g j ok (bX G a o) (bX G a h) a.hp) λw=>c (.av w) a
   |_,_=>False
  |_=>False
 |.mapEntry b o h=>
  match P.underlying b with
  |aa (.map v z)=>
   match qD P v,sP P z with
   |aa g,aa j=>cj (A2 g j (bX G a o) (bX G a h) a.hp) λd f=>c (.av d) {a with hp:=f}
   |_,_=>False
  |_=>False
 |.entryStore _ o L d=>bd (A3 (bX G a o) (bX G a L) (bX G a d) a.hp) λf=>c (.av .undef) {a with hp:=f}
 |.mapUpdate b o h d|.insert b o h d=>
  match P.underlying b with
  |aa (.map v _)=>match qD P v with|aa g=>bd (jO g (bX G a o) (bX G a h) (bX G a d) a.hp) λf=>c (.av .undef) {a with hp:=f}|ae=>False
  |_=>False
 |.extract e t=>bd (fH t (bX G a e)) λw=>c (.av w) a
 |.typeAssert e _ b ok=>match P.underlying b with|aa (.interface _)=>False|aa _=>if ok then False else bd (A5 b (bX G a e)) λw=>c (.av w) a|ae=>False
 |.call k=>match k.callee with|.builtin r=>J3 P a r k.argTypes.toList (k.args.toList.map (bX G a)) c|_=>False
 |_=>False
def A8(name:String)(d:TypeId):Option (Nat×Option (Nat×Bool)):=
 match(P.info? d).bind λe=>e.methods.find? (·.name==name)with
 |some c=>
  match c.path.toList,c.func,P.underlying d with
  |[],aa (b,ad),aa (.pointer _)=>aa (b,ae)
  |[],aa (b,ab),aa (.pointer a)=>if xL P a then aa (b,aa (bh P a,fp P a))else ae
  |_,_,_=>ae
 |none=>ae
def J4(name:String):List (Nat×Nat×Option (Nat×Bool)):=(ay P.types.size).filterMap λa=>(A8 P name a).map λb=>(a,b)
def J5(a:WS)(h:Bool)(e:Call)(c:EV->WS->Prop):Prop:=
 match e.callee with
 |.value (.func b)=>
  if h then ch C b (e.args.toList.map (bX G a)) a.hp λr d=>c (.av r) {a with hp:=d}
  else cp C b (e.args.toList.map (bX G a)) a.hp λr=>c (.av r) a
 |.value g=>
  cj (lK (bX G a g) (e.args.toList.map λf=>(bX G a f).pl)) λb args=>
   if h then ch C b args a.hp λr d=>c (.av r) {a with hp:=d}
   else cp C b args a.hp λr=>c (.av r) a
 |.invoke r name=>
  cj (rL (J4 P name) (bX G a r) (e.args.toList.map λf=>(bX G a f).pl) a.hp) λb args=>
   if h then ch C b args a.hp λr d=>c (.av r) {a with hp:=d}
   else cp C b args a.hp λr=>c (.av r) a
 |_=>False
def FL(e:WS)(a:Oper)(d:WS->Prop):Prop:=
 match a.op with
 |.call f=>
  match f.callee with
  |.builtin _=>C5 P G A e a.dst a.op λc b=>d (nx a.dst c b)
  |_=>J5 P G C e (hc a) f λc b=>d (nx a.dst c b)
 |_=>C5 P G A e a.dst a.op λc b=>d (nx a.dst c b)
def we(d:Nat)(b:EV):List (Nat×EV)->List (Nat×EV)
 |[]=>[]
 |(a,e)::c=>if a=d then(a,b)::c else(a,e)::we d b c
def gd(c:AV)(d:Bool)(A a:Prop):Prop:=match c.pl with|.bool b=>if b=d then A else a|_=>False
def qF(c:Array Oper):List Oper->WS->(WS->Prop)->Prop
 |[],a,b=>b a
 |o::d,a,b=>
  match o.guard with
  |ae=>FL P G C A hc a o λe=>qF c d e b
  |aa (h,g)=>
   match(c[h]?).bind (·.dst)with
   |aa f=>
    match look f a.env with
    |aa (.av i)=>
     gd i g (FL P G C A hc {a with env:=we f (.av (.bool g)) a.env} o λe=>qF c d e b)
      (qF c d (nx o.dst .sk {a with env:=we f (.av (.bool (!g))) a.env}) b)
    |aa .sk=>qF c d (nx o.dst .sk a) b
    |_=>False
   |ae=>False
def FM(b:WS)(a:Oper):Prop:=
 match a.dst,a.guard with
 |aa e,ae=>
  match look e b.env with
  |aa k=>C5 P G A b a.dst a.op λf _=>match f,k with|.av c,.av d=>ob c d|.lp g i,.lp h j=>if g=h/\i=j then True else False|_,_=>False
  |ae=>False
 |_,_=>False
def FN(d:Array Oper)(c:List Nat)(b:WS)(a:Prop):List Nat->Prop
 |[]=>a
 |i::e=>if i∈c then match d[i]? with|aa f=>FM P G A b f/\FN d c b a e|ae=>False else False
def FO(b:Array Oper)(a:Oper)(f:List Nat):List Nat:=
 f.filter λd=>match b[d]? with|aa c=>a.dst.isNone||(a.dst !=c.dst&&(c.looksAt b).all λe=>a.dst !=aa e)|ae=>ab
def C6(b:Array Oper)(g:Nat->Nat->Bool):List Nat->List Nat->List Nat->WS->(WS->Prop)->Prop
 |[],_,_,d,c=>c d
 |i::j,done,l,d,c=>
  match b[i]? with
  |ae=>False
  |aa a=>
   qF P G C A hc b [a] d λf=>
    let e:=FO b a l
    let h:=y (aC P A hc a=.pure)||y (aC P A hc a=.rd)
    let add:=h&&a.dst.isSome&&(a.looksAt b).all λk=>a.dst !=aa k
    let go:=C6 b g j (if h then i::done else done) (if add then i::e else e) f c
    if aC P A hc a=.jb then FN P G A b e f go (done.filter (g · i))else go
def uY(a:WS):WS:={env:=k0 A.mI a.env,bx:=k0 A.mI a.bx,hp:=a.hp}
def C7(c:Operand)(a:WS):WS:=
 match c with
 |.tmp b=>if b∈A.cs then{a with env:=lz b a.env}else a
 |_=>a
def acF(b:Array Oper):Bool:=b.toList.any λa=>a.guard.isSome
def xM(id:Nat):Code->Nat
 |.exit c=>if c=id then 1 else 0
 |.seq a b=>xM id a+xM id b
 |.cond _ a b=>xM id a+xM id b
 |.block _ a=>xM id a
 |.loop a=>xM id a
 |.scope a=>xM id a
 |_=>0
def zi:Code->Nat
 |.region _ c _=>if acF c then 2 else 1
 |.seq a b=>if zi a=0 then 0 else zi b
 |.cond _ a b=>zi a+zi b
 |.block id a=>zi a+xM id a
 |.loop _=>0
 |.scope a=>zi a
 |.exit _=>0
 |.ret=>0
 |_=>1
def sX(a:List Oper):List Nat:=a.filterMap (·.dst)
def hY:Code->List Nat
 |.region _ c _=>sX c.toList
 |.seq a b=>hY a++hY b
 |.cond _ a b=>hY a++hY b
 |.block _ a=>hY a
 |.loop a=>hY a
 |.scope a=>hY a
 |_=>[]
def mL(dc:List Nat)(b:List AV):Nat->List (Nat×EV)->List (Nat×EV)
 |_,[]=>[]
 |i,(a,.lp e f)::c=>(a,.lp e f)::mL dc b i c
 |i,(a,d)::c=>if a∈dc then(a,.av (g b i))::mL dc b (i+1) c else(a,d)::mL dc b i c
def uZ(dc:List Nat):List (Nat×EV)->Nat
 |[]=>0
 |(_,.lp _ _)::a=>uZ dc a
 |(b,_)::a=>if b∈dc then uZ dc a+1 else uZ dc a
def zj(b:List AV):Nat->List (Nat×List AV)->List (Nat×List AV)
 |_,[]=>[]
 |i,(c,a)::d=>(c,tS b (Z a) i)::zj b (i+Z a) d
def WS.fill(T:WS)(dc:List Nat)(a:List AV)(b:List Obj):WS:=
 {env:=mL dc a 0 T.env,bx:=zj a (uZ dc T.env) T.bx,hp:=b}
def rM(dc:List Nat)(env:List (Nat×EV)):List (Nat×EV)->Option (List AV)
 |[]=>aa []
 |(a,.lp d f)::b=>match look a env with|aa (.lp e g)=>if d=e/\f=g then rM dc env b else ae|_=>ae
 |(a,_)::b=>
  match look a env with
  |aa (.lp _ _)|ae=>ae
  |aa c=>if a∈dc then(rM dc env b).map λr=>c.v::r else rM dc env b
def FP(a:List (Nat×List AV)):List (Nat×List AV)->Option (List AV)
 |[]=>aa []
 |(d,c)::e=>match look d a with|aa b=>if Z c=Z b then(FP a e).map λr=>b++r else ae|ae=>ae
def C8(dc:List Nat)(T a:WS):Option (List AV):=
 match rM dc a.env T.env,FP a.bx T.bx with
 |aa b,aa c=>aa (b++c)
 |_,_=>ae
def zk:List Oper->WS->WS
 |[],a=>a
 |o::r,a=>
  match o.dst with
  |aa b=>
   match o.op with
   |.alloc c|.box c _=>if b∈A.lb then zk r {a with env:=put b (.lp b 0) a.env,bx:=put b (db (bh P c) .undef) a.bx}else zk r {a with env:=put b (.av .undef) a.env}
   |_=>zk r {a with env:=put b (.av .undef) a.env}
  |ae=>zk r a
def FQ:Option (List Nat)->Option (List Nat)->Option (List Nat)
 |ae,b=>b
 |a,ae=>a
 |aa a,aa b=>aa (a.filter (· ∈b))
def Qd:Option (List Nat)->Option (List Nat)->Option (List Nat)
 |aa a,aa b=>aa (a++b)
 |_,_=>ae
mutual
def dN:Code->Option (List Nat)
 |.skip=>aa []
 |.label _=>aa []
 |.region _ d _=>aa (sX d.toList)
 |.seq a b=>Qd (dN a) (dN b)
 |.cond _ a b=>FQ (dN a) (dN b)
 |.block id a=>FQ (dN a) (dE id a)
 |.scope a=>dN a
 |_=>ae
def dE (id:Nat):Code->Option (List Nat)
 |.seq a b=>FQ (dE id a) (Qd (dN a) (dE id b))
 |.cond _ a b=>FQ (dE id a) (dE id b)
 |.block _ a=>dE id a
 |.loop a=>dE id a
 |.scope a=>dE id a
 |.exit c=>if c=id then aa []else ae
 |_=>ae
end
def FR:List Nat->List (Nat×EV)->List (Nat×EV)
 |[],a=>a
 |k::r,a=>FR r (match look k a with|aa _=>a|ae=>put k (.av .undef) a)
def C9(c:Code)(a:WS):WS:=
 match c with
 |.region _ d _=>uY A (zk P A d.toList a)
 |_=>{a with env:=FR (((dN c).getD []).filter λb=>y (b∈A.mI)&& !y (b∈A.cs)&& !y (b∈A.lb)&&y (b∈hY c)) (k0 (A.mI.filter (· ∉A.cs)) a.env),bx:=k0 A.mI a.bx}
def meet(dc:List Nat)(T:WS)(Q:fg->WS->Prop)(R:List AV->List Obj->Prop)(o:fg)(a:WS):Prop:=
 match o with
 |.norm=>match C8 dc T a with|aa b=>R b a.hp|ae=>False
 |o=>Q o a
def acG(id:Nat)(a:Array Oper):List Nat:=(look id A.ord).getD (ay a.size)
def jd:Code->WS->(fg->WS->Prop)->Prop
 |.skip,a,Q=>Q .norm a
 |.label _,a,Q=>Q .norm a
 |.region id d j,a,Q=>
  if j then
   if d.toList.all (λo=>y (aC P A hc o≠.box)||o.dst.all λj=>uX j a.env)then
    if FF P A hc d then qF P G C A hc d d.toList a (λc=>Q .norm (uY A c))
    else
     let k:=acG A id d
     if C0 P A hc d k then C6 P G C A hc d (A1 P A hc d) k [] [] a (λc=>Q .norm (uY A c))else False
   else False
  else qF P G C A hc d d.toList a (λc=>Q .norm (uY A c))
 |.seq b f,a,Q=>
  match CB P (.seq b f)with
  |aa (n,g,m)=>bd (xv (bX G a n) (bX G a g) a.hp) λe=>Q .norm {a with env:=lI m a.env,hp:=e}
  |ae=>
  if zi b<=1 then jd b a (λo c=>match o with|.norm=>jd f c Q|o=>Q o c)
  else jn (λR=>jd b a (meet (hY b) (C9 P A b a) Q R)) (λh e=>jd f ((C9 P A b a).fill (hY b) h e) Q)
 |.cond i b f,a,Q=>ez (bX G a i) (jd b (C7 A i a) Q) (jd f (C7 A i a) Q)
 |.block id b,a,Q=>jd b a (λo c=>match o with|.exit l=>if l=id then Q .norm c else Q (.exit l) c|o=>Q o c)
 |.loop b,a,Q=>
  match C8 (hY b) a a with
  |aa h=>jA (λh e R=>jd b (a.fill (hY b) h e) (meet (hY b) a Q R)) h a.hp
  |ae=>False
 |.exit id,a,Q=>Q (.exit id) a
 |.ret,a,Q=>Q .ret a
 |.scope b,a,Q=>jd b a Q
 |_,_,_=>False
def FT(b:WS):ResultVar->Option AV
 |.tmp a=>aa (((look a b.env).getD (.av .undef)).v.pl)
 |.cell d a=>
  match(look d b.env).getD (.av .undef)with
  |.lp e off=>
   match look e b.bx with
   |aa c=>if xL P a&&y (off+bh P a<=Z c)then aa (qo (fp P a) ((c.drop off).take (bh P a))).pl else ae
   |ae=>ae
  |_=>ae
def Da(a:WS):List ResultVar->Option (List AV)
 |[]=>aa []
 |r::rs=>
  match FT P a r,Da a rs with
  |aa b,aa vs=>aa (b::vs)
  |_,_=>ae
def Db(rs:List ResultVar)(a:WS)(Q:AV->List Obj->Prop):Prop:=
 match Da P a rs with
 |aa [b]=>Q b a.hp
 |aa vs=>Q (.aB vs) a.hp
 |ae=>False
def oZ:Nat->List AV->List (Nat×EV)
 |_,[]=>[]
 |k,a::vs=>(k,.av a)::oZ (k+1) vs
def FU(c:Code)(rs:List ResultVar)(args:List AV)(a:List Obj)(Q:AV->List Obj->Prop):Prop:=
 jd P G C A hc c {env:=oZ 0 args,bx:=[],hp:=a} λd b=>match d with|.exit _=>False|_=>Db P rs b Q
end
abbrev d:=List UInt8
structure aG where
 ty:Int
 n:Int
 s:d
 deriving DecidableEq,Inhabited
structure bP where
 au:d
 az:List d
 eH:List (Int×Int)
 ba:Int
 deriving DecidableEq,Inhabited
structure Fn where
 au:d
 aN:d
 of:Int
 src:List d
 dst:List d
 gQ:List Int
 ba:Int
 deriving DecidableEq,Inhabited
structure cO where
 au:d
 aZ:List Int
 aN:d
 of:Int
 eo:Bool
 fx:Int
 ba:Int
 deriving DecidableEq,Inhabited
structure aJ where
 aE:d
 const:aG
 deriving DecidableEq,Inhabited
structure Lit where
 ax:Int
 au:d
 ai:Int
 af:List aJ
 bind:d
 aj:d
 iC:Int
 op:Int
 ba:Int
 deriving DecidableEq,Inhabited
structure pP where
 ax:Int
 au:d
 aE:d
 aR:Int
 deriving DecidableEq,Inhabited
structure aD where
 au:d
 ai:Int
 af:List aJ
 aj:pP
 ah:List Lit
 ba:Int
 deriving DecidableEq,Inhabited
structure D where
 aw:List bP
 aO:List Fn
 Q:List cO
 ak:List aD
 deriving DecidableEq,Inhabited
structure S where
 ai:Int
 af:List aG
 aj:Int
 deriving DecidableEq,Inhabited
structure bb where
 aA:List d
 bF:List aG
 aw:List d
 az:List Int
 deriving DecidableEq,Inhabited
def eS(a:Bool)(b:K->List AV)(c:List K):AV:=.sl a (c.map b)
def cI(a:Int):List AV:=[I a]
def cB(a:Bool):List AV:=[.bool a]
def cS(a:d):List AV:=[.str a]
def b2(a:Int×Int):List AV:=[I a.1,I a.2]
def cV(a:aG):List AV:=[I a.ty,I a.n,.str a.s]
def cT(a:aJ):List AV:=[.str a.aE,I a.const.ty,I a.const.n,.str a.const.s]
def bo(b:Bool)(a:bP):List AV:=[.str a.au,eS b cS a.az,eS b b2 a.eH,I a.ba]
def cg(b:Bool)(a:Fn):List AV:=[.str a.au,.str a.aN,I a.of,eS b cS a.src,eS b cS a.dst,eS b cI a.gQ,I a.ba]
def bO(b:Bool)(a:cO):List AV:=[.str a.au,eS b cI a.aZ,.str a.aN,I a.of,.bool a.eo,I a.fx,I a.ba]
def bg(b:Bool)(a:Lit):List AV:=[I a.ax,.str a.au,I a.ai,eS b cT a.af,.str a.bind,.str a.aj,I a.iC,I a.op,I a.ba]
def nX(a:pP):List AV:=[I a.ax,.str a.au,.str a.aE,I a.aR]
def aS(a:Bool)(r:aD):List AV:=[.str r.au,I r.ai,eS a cT r.af,I r.aj.ax,.str r.aj.au,.str r.aj.aE,I r.aj.aR,eS a (bg a) r.ah,I r.ba]
def cP(a c:Bool)(b:D):List AV:=[eS a (bo a) b.aw,eS a (cg a) b.aO,eS a (bO a) b.Q,eS c (aS a) b.ak]
def cF(b:Bool)(a:S):List AV:=[I a.ai,eS b cV a.af,I a.aj]
def cE(a:Bool)(b:bb):List AV:=[eS a cS b.aA,eS a cV b.bF,eS a cS b.aw,eS a cI b.az]
mutual
inductive Im:AV->Prop
 |int (g:IntKind) (i:Int):Im (.int g i)
 |bool (b:Bool):Im (.bool b)
 |str (j:List UInt8):Im (.str j)
 |gE:Im .gE
 |fN:Im .fN
 |jX:Im .jX
 |undef:Im .undef
 |agg (a:List AV) (h:bS a):Im (.agg a)
 |aB (a:List AV) (h:bS a):Im (.aB a)
 |sl (b:Bool) (e:List (List AV)) (h:pQ e):Im (.sl b e)
 |aH (b:Bool) (a:List AV) (off:Nat) (h:bS a):Im (.aH b a off)
 |fn (f:Nat) (d a:List AV) (h:bS d) (l:bS a):Im (.fn f d a)
inductive bS:List AV->Prop
 |nil:bS []
 |cons (c:AV) (vs:List AV) (h:Im c) (k:bS vs):bS (c::vs)
inductive pQ:List (List AV)->Prop
 |nil:pQ []
 |cons (c:List AV) (vs:List (List AV)) (h:bS c) (k:pQ vs):pQ (c::vs)
end
mutual
theorem Im.snap{e:List Obj}:∀{m:Md}{b:AV},Im b->aM e m b b
 |m,_,.int k l=>.int m k l
 |m,_,.bool c=>.bool m c
 |m,_,.str n=>.str m n
 |m,_,.gE=>.gE m
 |m,_,.fN=>.fN m
 |m,_,.jX=>.jX m
 |m,_,.undef=>.undef m _
 |m,_,.agg a h=>.agg m a a (bS.snap h)
 |m,_,.aB a h=>.aB m a a (bS.snap h)
 |.df,_,.sl c d h=>.xB _ (by decide) c d d (pQ.snap h)
 |.cb,_,.sl c d h=>.xB _ (by decide) c d d (pQ.snap h)
 |.res,_,.sl c d h=>.CD c d d (pQ.snap h)
 |.df,_,.aH c a off h=>.uN _ (by decide) c a a off (bS.snap h)
 |.cb,_,.aH c a off h=>.uN _ (by decide) c a a off (bS.snap h)
 |.res,_,.aH c a off h=>.CF c a a off (bS.snap h)
 |m,_,.fn i g a h j=>.fn m i g g a a (bS.snap h) (bS.snap j)
theorem bS.snap {e:List Obj}:∀{m:Md}{b:List AV},bS b->b6 e m b b
 |m,_,.nil=>.nil m
 |m,_,.cons b vs h f=>.cons m b b vs vs (Im.snap h) (bS.snap f)
theorem pQ.snap {e:List Obj}:∀{m:Md}{b:List (List AV)},pQ b->fF e m b b
 |m,_,.nil=>.nil m
 |m,_,.cons b vs h f=>.cons m b b vs vs (bS.snap h) (pQ.snap f)
end
variable{M:List Obj}{c9:Md}{E:AV}
theorem eu(h:Im E:=by simp):aM M c9 E E:=h.snap
theorem Im.pl(h:Im E):E.pl=E:=by cases h<;>rfl
theorem bS.pl:∀{a:List AV},bS a->a.map AV.pl=a
 |_,.nil=>rfl
 |_,.cons c vs h b=>by rw[eg,h.pl,b.pl]
@[simp] theorem acH(a:IntKind)(b:Int):Im (.int a b):=.int a b
@[simp] theorem asa(a:Bool):Im (.bool a):=.bool a
@[simp] theorem Qe(a:List UInt8):Im (.str a):=.str a
@[simp] theorem asb(c:Nat)(a b:List AV):Im (.fn c a b)<->bS a/\bS b:=⟨λh=>by cases h with|fn _ _ _ h d=>exact⟨h,d⟩,λh=>.fn c a b h.1 h.2⟩
@[simp] theorem asc:bS []:=.nil
@[simp] theorem asd(a:AV)(vs:List AV):bS (a::vs)<->Im a/\bS vs:=⟨λh=>by cases h with|cons _ _ h b=>exact⟨h,b⟩,λh=>.cons a vs h.1 h.2⟩
@[simp] theorem ase(a:List AV):Im (.agg a)<->bS a:=⟨λh=>by cases h with|agg _ h=>exact h,.agg a⟩
@[simp] theorem asf(a:List AV):Im (.aB a)<->bS a:=⟨λh=>by cases h with|aB _ h=>exact h,.aB a⟩
@[simp] theorem asg(b:Bool)(a:List AV)(off:Nat):Im (.aH b a off)<->bS a:=⟨λh=>by cases h with|aH _ _ _ h=>exact h,.aH b a off⟩
variable{a7:K -> List AV}
theorem J6(b:∀x,bS (a7 x)):∀a:List K,pQ (a.map a7)
 |[]=>.nil
 |x::a=>.cons _ _ (b x) (J6 b a)
theorem ny(c:∀d,bS (a7 d))(a:Bool)(b:List K):Im (eS a a7 b):=.sl a _ (J6 c b)
@[simp] theorem Qf(a:Int):bS (cI a):=by simp[cI]
@[simp] theorem acI(a:Bool):bS (cB a):=by simp[cB]
@[simp] theorem Qg(a:d):bS (cS a):=by simp[cS]
@[simp] theorem Qh(a:Int×Int):bS (b2 a):=by simp[b2]
@[simp] theorem Qi(a:aG):bS (cV a):=by simp[cV]
@[simp] theorem Qj(a:aJ):bS (cT a):=by simp[cT]
@[simp] theorem J7(a:Bool)(b:List Int):Im (eS a cI b):=ny Qf a b
@[simp] theorem FV(a:Bool)(b:List d):Im (eS a cS b):=ny Qg a b
@[simp] theorem ash(a:Bool)(b:List (Int×Int)):Im (eS a b2 b):=ny Qh a b
@[simp] theorem asi(a:Bool)(b:List aG):Im (eS a cV b):=ny Qi a b
@[simp] theorem Qk(a:Bool)(b:List aJ):Im (eS a cT b):=ny Qj a b
@[simp] theorem acJ(a:Bool)(b:bP):bS (bo a b):=by simp[bo]
@[simp] theorem acK(a:Bool)(b:Fn):bS (cg a b):=by simp[cg]
@[simp] theorem acL(a:Bool)(b:cO):bS (bO a b):=by simp[bO]
@[simp] theorem acM(a:Bool)(b:Lit):bS (bg a b):=by simp[bg]
@[simp] theorem Ql(a b:Bool)(c:List Lit):Im (eS a (bg b) c):=ny (acM b) a c
@[simp] theorem acN(a:Bool)(b:aD):bS (aS a b):=by simp[aS]
@[simp] theorem Qm(a b:Bool)(c:List bP):Im (eS a (bo b) c):=ny (acJ b) a c
@[simp] theorem Qn(a b:Bool)(c:List Fn):Im (eS a (cg b) c):=ny (acK b) a c
@[simp] theorem Qo(a b:Bool)(c:List cO):Im (eS a (bO b) c):=ny (acL b) a c
@[simp] theorem Qp(a b:Bool)(c:List aD):Im (eS a (aS b) c):=ny (acN b) a c
@[simp] theorem asj(a b:Bool)(c:D):bS (cP a b c):=by simp[cP]
@[simp] theorem Qq(a:Bool)(b:S):bS (cF a b):=by simp[cF]
@[simp] theorem acO(a b:Bool)(c:List S):Im (eS a (cF b) c):=ny (Qq b) a c
@[simp] theorem jf(a:Int):Z (cI a)=1:=rfl
@[simp] theorem acP(a:Bool):Z (cB a)=1:=rfl
@[simp] theorem iR(a:d):Z (cS a)=1:=rfl
@[simp] theorem tT(a:Int×Int):Z (b2 a)=2:=rfl
@[simp] theorem sY(a:aG):Z (cV a)=3:=rfl
@[simp] theorem kq(a:aJ):Z (cT a)=4:=rfl
@[simp] theorem kH(a:Bool)(b:bP):Z (bo a b)=4:=rfl
@[simp] theorem sZ(a:Bool)(b:Fn):Z (cg a b)=7:=rfl
@[simp] theorem jg(a:Bool)(b:cO):Z (bO a b)=7:=rfl
@[simp] theorem jB(a:Bool)(b:Lit):Z (bg a b)=9:=rfl
@[simp] theorem asl(a:pP):Z (nX a)=4:=rfl
@[simp] theorem mM(a:Bool)(b:aD):Z (aS a b)=9:=rfl
@[simp] theorem asm(a b:Bool)(c:D):Z (cP a b c)=4:=rfl
@[simp] theorem fR(a:Bool)(b:S):Z (cF a b)=3:=rfl
@[simp] theorem asn(a:Bool)(b:bb):Z (cE a b)=4:=rfl
@[simp] theorem aso(a:Bool)(b:K->List AV)(c:List K):(eS a b c).bU=true:=rfl
@[simp] theorem asp(a:IntKind)(b:Int):(AV.int a b).bU=true:=rfl
@[simp] theorem asq(a:Bool):(AV.bool a).bU=true:=rfl
@[simp] theorem asr(a:List UInt8):(AV.str a).bU=true:=rfl
@[simp] theorem ass(a b c d:Nat):(AV.q a b c d).bU=true:=rfl
@[simp] theorem ast:(AV.aq).bU=true:=rfl
@[simp] theorem asu(a:Bool)(b:List (List AV)):(AV.sl a b).bU=true:=rfl
@[simp] theorem asv(a:Nat):(AV.b7 a).bU=true:=rfl
@[simp] theorem asw(a b c d:Nat):(AV.ptr a b c d).bU=true:=rfl
@[simp] theorem asx(a:Nat)(b c:List AV):(AV.fn a b c).bU=true:=rfl
@[simp] theorem asy(a:Int):(cI a).all AV.bU=true:=rfl
@[simp] theorem asz(a:Bool):(cB a).all AV.bU=true:=rfl
@[simp] theorem asA(a:d):(cS a).all AV.bU=true:=rfl
@[simp] theorem asB(a:Int×Int):(b2 a).all AV.bU=true:=rfl
@[simp] theorem asC(a:aG):(cV a).all AV.bU=true:=rfl
@[simp] theorem asD(a:aJ):(cT a).all AV.bU=true:=rfl
@[simp] theorem asE(a:Bool)(b:bP):(bo a b).all AV.bU=true:=rfl
@[simp] theorem asF(a:Bool)(b:Fn):(cg a b).all AV.bU=true:=rfl
@[simp] theorem asG(a:Bool)(b:cO):(bO a b).all AV.bU=true:=rfl
@[simp] theorem asH(a:Bool)(b:Lit):(bg a b).all AV.bU=true:=rfl
@[simp] theorem asI(a:pP):(nX a).all AV.bU=true:=rfl
@[simp] theorem asJ(a:Bool)(b:aD):(aS a b).all AV.bU=true:=rfl
@[simp] theorem asK(a b:Bool)(c:D):(cP a b c).all AV.bU=true:=rfl
@[simp] theorem asL(a:Bool)(b:S):(cF a b).all AV.bU=true:=rfl
@[simp] theorem asM(a:Bool)(b:bb):(cE a b).all AV.bU=true:=rfl
@[simp] theorem A9(a:IntKind)(b:Int):(AV.int a b).pl=.int a b:=rfl
@[simp] theorem qG(a:Bool):(AV.bool a).pl=.bool a:=rfl
@[simp] theorem zl(a:List UInt8):(AV.str a).pl=.str a:=rfl
@[simp] theorem Ba(a:List AV):(AV.agg a).pl=.agg a:=rfl
@[simp] theorem asN(a:List AV):(AV.aB a).pl=.aB a:=rfl
@[simp] theorem asO(a:Bool)(b:List (List AV)):(AV.sl a b).pl=.sl a b:=rfl
@[simp] theorem asP(a:Bool)(b:K->List AV)(c:List K):(eS a b c).pl=eS a b c:=rfl
@[simp] theorem asQ(a b c d:Nat):(AV.q a b c d).pl=.q a b c d:=rfl
@[simp] theorem asR:(AV.aq).pl=.aq:=rfl
@[simp] theorem zm(a b c d:Nat):(AV.ptr a b c d).pl=.ptr a b c d:=rfl
@[simp] theorem asS(a:Bool)(b:List AV)(c:Nat):(AV.aH a b c).pl=.aH a b c:=rfl
@[simp] theorem asT(a:Nat):(AV.b7 a).pl=.b7 a:=rfl
@[simp] theorem acQ(a:Nat)(b c:List AV):(AV.fn a b c).pl=.fn a b c:=rfl
@[simp] theorem asU:(AV.undef).pl=.undef:=rfl
@[simp] theorem asV(a:Nat)(b:AV):(AV.iface a b).pl=.iface a b:=rfl
@[simp] theorem asW(a:List AV):(AV.agg a).cells=a:=rfl
@[simp] theorem asX(a:IntKind)(b:Int):(AV.int a b).cells=[.int a b]:=rfl
@[simp] theorem asY(a:Bool):(AV.bool a).cells=[.bool a]:=rfl
@[simp] theorem asZ(a:List UInt8):(AV.str a).cells=[.str a]:=rfl
@[simp] theorem as0(a:Bool)(b:K->List AV)(c:List K):(eS a b c).cells=[eS a b c]:=rfl
@[simp] theorem as1(a:Bool)(b:List (List AV)):(AV.sl a b).cells=[.sl a b]:=rfl
@[simp] theorem as2(a b c d:Nat):(AV.q a b c d).cells=[.q a b c d]:=rfl
@[simp] theorem as3:(AV.aq).cells=[.aq]:=rfl
@[simp] theorem as4(a:Nat):(AV.b7 a).cells=[.b7 a]:=rfl
@[simp] theorem as5(a b c d:Nat):(AV.ptr a b c d).cells=[.ptr a b c d]:=rfl
@[simp] theorem as6(a:Nat)(b c:List AV):(AV.fn a b c).cells=[.fn a b c]:=rfl
@[simp] theorem O(b:K)(a:K->Prop):bd (aa b) a=a b:=rfl
@[simp] theorem e3(a:K×bZ)(b:K->bZ->Prop):cj (aa a) b=b a.1 a.2:=rfl
@[simp] theorem c3(a:Bool)(b c:Prop):ez (.bool a) b c=if a=ad then b else c:=by cases a<;>rfl
@[simp] theorem jC(c w:Bool)(a b:Prop):gd (.bool c) w a b=if c=w then a else b:=rfl
@[simp] theorem G(a:AV)(b:List AV):g (a::b) 0=a:=rfl
@[simp] theorem i(c:AV)(a:List AV)(b:Nat):g (c::a) (b+1)=g a b:=rfl
theorem bw(a:(List AV->List Obj->Prop)->Prop)(b:List AV->List Obj->Prop):jn a b=a b:=rfl
@[simp] theorem mf(a:AV):ob a a=True:=by simp[ob]
@[simp] theorem a1(c:Bool)(d:K->List AV)(a:List K)(b:List Obj):gk .sl (eS c d a) b=aa (I (Z a)):=by simp[gk,eS]
@[simp] theorem zn(a:List UInt8)(b:List Obj):gk .str (.str a) b=aa (I (Z a)):=rfl
@[simp] theorem as7(c:Bool)(a:List (List AV))(b:List Obj):gk .sl (.sl c a) b=aa (I (Z a)):=rfl
@[simp] theorem o0(c d e a:Nat)(b:List Obj):gk .sl (.q c d e a) b=aa (I a):=rfl
@[simp] theorem as8(a:List Obj):gk .sl .aq a=aa (I 0):=rfl
variable{T:Bool}{x:List K}
theorem aF(h:U<Z x)(a:Z (a7 x[U])=N):bT N (eS T a7 x) (I U) M=aa (.aH T (a7 x[U]) 0):=by
 simp[bT,eS,h,a]
@[simp] theorem bj(c:Nat)(a:Bool)(b:List AV)(off:Nat)(d:List Obj):dD c (.aH a b off) d=aa (.aH a b (off+c)):=rfl
@[simp] theorem aK(c:Bool)(a:List AV)(off:Nat)(b:List Obj):aQ 1 ab (.aH c a off) b=a[off]?:=by
 simp only[aQ,wc];by_cases h:off<Z a;rw[if_pos (by omega)];simp[qo,bu h,Om];rw[if_neg (by omega)];simp;omega
variable{bE:List AV}
theorem acR(h:Z bE=U):aQ U ad (.aH T bE 0) M=aa (.agg bE):=by
 grind[aQ,wc,qo]
@[simp] theorem Qr(c:Bool)(a:Int×Int)(b:List Obj):aQ 2 ad (.aH c (b2 a) 0) b=aa (.agg (b2 a)):=rfl
@[simp] theorem u0(c:Bool)(a:aG)(b:List Obj):aQ 3 ad (.aH c (cV a) 0) b=aa (.agg (cV a)):=rfl
@[simp] theorem lL(c:Bool)(a:aJ)(b:List Obj):aQ 4 ad (.aH c (cT a) 0) b=aa (.agg (cT a)):=rfl
@[simp] theorem J8(c:Bool)(a:aJ)(b:List Obj):aQ 3 ad (.aH c (cT a) 1) b=aa (.agg (cV a.const)):=rfl
@[simp] theorem jh(d a:Bool)(b:bP)(c:List Obj):aQ 4 ad (.aH d (bo a b) 0) c=aa (.agg (bo a b)):=rfl
@[simp] theorem Dc(d a:Bool)(b:Fn)(c:List Obj):aQ 7 ad (.aH d (cg a b) 0) c=aa (.agg (cg a b)):=rfl
@[simp] theorem wg(d a:Bool)(b:cO)(c:List Obj):aQ 7 ad (.aH d (bO a b) 0) c=aa (.agg (bO a b)):=rfl
@[simp] theorem o1(d a:Bool)(b:Lit)(c:List Obj):aQ 9 ad (.aH d (bg a b) 0) c=aa (.agg (bg a b)):=rfl
@[simp] theorem nA(d a:Bool)(b:aD)(c:List Obj):aQ 9 ad (.aH d (aS a b) 0) c=aa (.agg (aS a b)):=rfl
@[simp] theorem Qs(c d:Bool)(a:aD)(b:List Obj):aQ 4 ad (.aH c (aS d a) 3) b=aa (.agg (nX a.aj)):=rfl
@[simp] theorem gS(e a b:Bool)(c:D)(d:List Obj):aQ 4 ad (.aH e (cP a b c) 0) d=aa (.agg (cP a b c)):=rfl
@[simp] theorem kr(d a:Bool)(b:S)(c:List Obj):aQ 3 ad (.aH d (cF a b) 0) c=aa (.agg (cF a b)):=rfl
@[simp] theorem as9(d a:Bool)(b:bb)(c:List Obj):aQ 4 ad (.aH d (cE a b) 0) c=aa (.agg (cE a b)):=rfl
theorem ji(h:Z bE=U)(a:bE.all AV.bU=ad):dS U (.agg bE)=aa bE:=by
 simp_all[dS]
theorem tU(h:Z bE=U)(a:bE.all AV.bU=ad):j0 U (.agg bE)=aa (.aH ab bE 0):=by
 simp[j0,ji h a]
@[simp] theorem xN(a:aG):dS 3 (.agg (cV a))=aa (cV a):=ji rfl rfl
@[simp] theorem xO(a:aJ):dS 4 (.agg (cT a))=aa (cT a):=ji rfl rfl
@[simp] theorem zo(a:Bool)(b:bP):dS 4 (.agg (bo a b))=aa (bo a b):=ji rfl rfl
@[simp] theorem FW(a:Bool)(b:Fn):dS 7 (.agg (cg a b))=aa (cg a b):=ji rfl rfl
@[simp] theorem xP(a:Bool)(b:cO):dS 7 (.agg (bO a b))=aa (bO a b):=ji rfl rfl
@[simp] theorem xQ(a:Bool)(b:Lit):dS 9 (.agg (bg a b))=aa (bg a b):=ji rfl rfl
@[simp] theorem xR(a:Bool)(b:aD):dS 9 (.agg (aS a b))=aa (aS a b):=ji rfl rfl
@[simp] theorem Bb(a:aG):j0 3 (.agg (cV a))=aa (.aH ab (cV a) 0):=tU rfl rfl
@[simp] theorem zp(a:aJ):j0 4 (.agg (cT a))=aa (.aH ab (cT a) 0):=tU rfl rfl
@[simp] theorem mN(a:Bool)(b:bP):j0 4 (.agg (bo a b))=aa (.aH ab (bo a b) 0):=tU rfl rfl
@[simp] theorem FX(a:Bool)(b:Fn):j0 7 (.agg (cg a b))=aa (.aH ab (cg a b) 0):=tU rfl rfl
@[simp] theorem FY(a:Bool)(b:cO):j0 7 (.agg (bO a b))=aa (.aH ab (bO a b) 0):=tU rfl rfl
@[simp] theorem rN(a:Bool)(b:Lit):j0 9 (.agg (bg a b))=aa (.aH ab (bg a b) 0):=tU rfl rfl
@[simp] theorem o2(a:Bool)(b:aD):j0 9 (.agg (aS a b))=aa (.aH ab (aS a b) 0):=tU rfl rfl
@[simp] theorem eP(a b:Bool)(c:D):j0 4 (.agg (cP a b c))=aa (.aH ab (cP a b c) 0):=tU rfl rfl
@[simp] theorem pR(a:Bool)(b:S):j0 3 (.agg (cF a b))=aa (.aH ab (cF a b) 0):=tU rfl rfl
@[simp] theorem lM(a:Int):(cI a)[0]?=aa (I a):=rfl
@[simp] theorem zq(a:Bool):(cB a)[0]?=aa (.bool a):=rfl
@[simp] theorem lN(a:d):(cS a)[0]?=aa (.str a):=rfl
@[simp] theorem FZ(a:Int×Int):(b2 a)[0]?=aa (I a.1):=rfl
@[simp] theorem F0(a:Int×Int):(b2 a)[1]?=aa (I a.2):=rfl
@[simp] theorem Dd(a:aG):(cV a)[0]?=aa (I a.ty):=rfl
@[simp] theorem F1(a:aG):(cV a)[1]?=aa (I a.n):=rfl
@[simp] theorem F2(a:aG):(cV a)[2]?=aa (.str a.s):=rfl
@[simp] theorem rO(a:aJ):(cT a)[0]?=aa (.str a.aE):=rfl
@[simp] theorem De(a:aJ):(cT a)[1]?=aa (I a.const.ty):=rfl
@[simp] theorem ata(a:aJ):(cT a)[2]?=aa (I a.const.n):=rfl
@[simp] theorem atb(a:aJ):(cT a)[3]?=aa (.str a.const.s):=rfl
@[simp] theorem Qt(b:Bool)(a:bP):(bo b a)[0]?=aa (.str a.au):=rfl
@[simp] theorem o3(a:Bool)(b:bP):(bo a b)[1]?=aa (eS a cS b.az):=rfl
@[simp] theorem F3(a:Bool)(b:bP):(bo a b)[2]?=aa (eS a b2 b.eH):=rfl
@[simp] theorem acS(b:Bool)(a:bP):(bo b a)[3]?=aa (I a.ba):=rfl
@[simp] theorem Qu(b:Bool)(a:Fn):(cg b a)[0]?=aa (.str a.au):=rfl
@[simp] theorem Qv(b:Bool)(a:Fn):(cg b a)[1]?=aa (.str a.aN):=rfl
@[simp] theorem Qw(b:Bool)(a:Fn):(cg b a)[2]?=aa (I a.of):=rfl
@[simp] theorem Df(a:Bool)(b:Fn):(cg a b)[3]?=aa (eS a cS b.src):=rfl
@[simp] theorem Dg(a:Bool)(b:Fn):(cg a b)[4]?=aa (eS a cS b.dst):=rfl
@[simp] theorem Qx(a:Bool)(b:Fn):(cg a b)[5]?=aa (eS a cI b.gQ):=rfl
@[simp] theorem Qy(b:Bool)(a:Fn):(cg b a)[6]?=aa (I a.ba):=rfl
@[simp] theorem Qz(b:Bool)(a:cO):(bO b a)[0]?=aa (.str a.au):=rfl
@[simp] theorem wi(a:Bool)(b:cO):(bO a b)[1]?=aa (eS a cI b.aZ):=rfl
@[simp] theorem QA(b:Bool)(a:cO):(bO b a)[2]?=aa (.str a.aN):=rfl
@[simp] theorem Dh(b:Bool)(a:cO):(bO b a)[3]?=aa (I a.of):=rfl
@[simp] theorem F4(b:Bool)(a:cO):(bO b a)[4]?=aa (.bool a.eo):=rfl
@[simp] theorem QB(b:Bool)(a:cO):(bO b a)[5]?=aa (I a.fx):=rfl
@[simp] theorem QC(b:Bool)(a:cO):(bO b a)[6]?=aa (I a.ba):=rfl
@[simp] theorem tW(b:Bool)(a:Lit):(bg b a)[0]?=aa (I a.ax):=rfl
@[simp] theorem J9(b:Bool)(a:Lit):(bg b a)[1]?=aa (.str a.au):=rfl
@[simp] theorem zr(b:Bool)(a:Lit):(bg b a)[2]?=aa (I a.ai):=rfl
@[simp] theorem s4(a:Bool)(b:Lit):(bg a b)[3]?=aa (eS a cT b.af):=rfl
@[simp] theorem F5(b:Bool)(a:Lit):(bg b a)[4]?=aa (.str a.bind):=rfl
@[simp] theorem Ka(b:Bool)(a:Lit):(bg b a)[5]?=aa (.str a.aj):=rfl
@[simp] theorem QD(b:Bool)(a:Lit):(bg b a)[6]?=aa (I a.iC):=rfl
@[simp] theorem Di(b:Bool)(a:Lit):(bg b a)[7]?=aa (I a.op):=rfl
@[simp] theorem F6(b:Bool)(a:Lit):(bg b a)[8]?=aa (I a.ba):=rfl
@[simp] theorem atc(a:pP):(nX a)[0]?=aa (I a.ax):=rfl
@[simp] theorem atd(a:pP):(nX a)[1]?=aa (.str a.au):=rfl
@[simp] theorem ate(a:pP):(nX a)[2]?=aa (.str a.aE):=rfl
@[simp] theorem atf(a:pP):(nX a)[3]?=aa (I a.aR):=rfl
@[simp] theorem Kb(b:Bool)(a:aD):(aS b a)[0]?=aa (.str a.au):=rfl
@[simp] theorem Bc(b:Bool)(a:aD):(aS b a)[1]?=aa (I a.ai):=rfl
@[simp] theorem wj(a:Bool)(b:aD):(aS a b)[2]?=aa (eS a cT b.af):=rfl
@[simp] theorem F7(b:Bool)(a:aD):(aS b a)[3]?=aa (I a.aj.ax):=rfl
@[simp] theorem QE(b:Bool)(a:aD):(aS b a)[4]?=aa (.str a.aj.au):=rfl
@[simp] theorem F8(b:Bool)(a:aD):(aS b a)[5]?=aa (.str a.aj.aE):=rfl
@[simp] theorem atg(b:Bool)(a:aD):(aS b a)[6]?=aa (I a.aj.aR):=rfl
@[simp] theorem qH(a:Bool)(b:aD):(aS a b)[7]?=aa (eS a (bg a) b.ah):=rfl
@[simp] theorem Bd(b:Bool)(a:aD):(aS b a)[8]?=aa (I a.ba):=rfl
@[simp] theorem rP(a c:Bool)(b:D):(cP a c b)[0]?=aa (eS a (bo a) b.aw):=rfl
@[simp] theorem wk(a c:Bool)(b:D):(cP a c b)[1]?=aa (eS a (cg a) b.aO):=rfl
@[simp] theorem kt(a c:Bool)(b:D):(cP a c b)[2]?=aa (eS a (bO a) b.Q):=rfl
@[simp] theorem o4(a b:Bool)(c:D):(cP a b c)[3]?=aa (eS b (aS a) c.ak):=rfl
@[simp] theorem qI(b:Bool)(a:S):(cF b a)[0]?=aa (I a.ai):=rfl
@[simp] theorem u1(a:Bool)(b:S):(cF a b)[1]?=aa (eS a cV b.af):=rfl
@[simp] theorem u2(b:Bool)(a:S):(cF b a)[2]?=aa (I a.aj):=rfl
@[simp] theorem ath(a:Bool)(b:bb):(cE a b)[0]?=aa (eS a cS b.aA):=rfl
@[simp] theorem ati(a:Bool)(b:bb):(cE a b)[1]?=aa (eS a cV b.bF):=rfl
@[simp] theorem atj(a:Bool)(b:bb):(cE a b)[2]?=aa (eS a cS b.aw):=rfl
@[simp] theorem atk(a:Bool)(b:bb):(cE a b)[3]?=aa (eS a cI b.az):=rfl
variable{f:Int}
theorem wrap64(a: -9223372036854775808<=f)(b:f<9223372036854775808):IntKind.i64.wrap f=f:=by
 rw[IntKind.wrap_i64];omega
@[simp] theorem di(bk:BK)(c:IntKind)(a b:Int):aT bk .eql (.int c a) (.int c b)=aa (.bool (a==b)):=by simp[aT,kE]
@[simp] theorem cx(bk:BK)(c:IntKind)(a b:Int):aT bk .neq (.int c a) (.int c b)=aa (.bool (a !=b)):=by simp[aT,kE]
@[simp] theorem A(bk:BK)(c:IntKind)(a b:Int):aT bk .lss (.int c a) (.int c b)=aa (.bool (y (a<b))):=by simp[aT,kE]
@[simp] theorem la(bk:BK)(c:IntKind)(a b:Int):aT bk .leq (.int c a) (.int c b)=aa (.bool (y (a<=b))):=by simp[aT,kE]
@[simp] theorem eX(bk:BK)(c:IntKind)(a b:Int):aT bk .gtr (.int c a) (.int c b)=aa (.bool (y (b<a))):=by simp[aT,kE]
@[simp] theorem h0(bk:BK)(c:IntKind)(a b:Int):aT bk .geq (.int c a) (.int c b)=aa (.bool (y (b<=a))):=by simp[aT,kE]
variable{b9:Int}
theorem xS{bk:BK}(a: -9223372036854775808<=f+b9)(b:f+b9<9223372036854775808):aT bk .add (I f) (I b9)=aa (I (f+b9)):=by simp[aT,kE,wrap64 a b]
theorem nB{bk:BK}(a: -9223372036854775808<=f -b9)(b:f -b9<9223372036854775808):aT bk .sub (I f) (I b9)=aa (I (f -b9)):=by simp[aT,kE,wrap64 a b]
theorem QF{bk:BK}(a: -9223372036854775808<=f*b9)(b:f*b9<9223372036854775808):aT bk .mul (I f) (I b9)=aa (I (f*b9)):=by simp[aT,kE,wrap64 a b]
@[simp] theorem gT(bk:BK)(a b:List UInt8):aT bk .eql (.str a) (.str b)=aa (.bool (a==b)):=by simp[aT,vU]
@[simp] theorem jD(bk:BK)(a b:List UInt8):aT bk .neq (.str a) (.str b)=aa (.bool (!(a==b))):=by simp[aT,vU]
@[simp] theorem acT(a c:Bool):aT .b .eql (.bool a) (.bool c)=aa (.bool (a==c)):=by simp[aT]
@[simp] theorem Kc(a c:Bool):aT .b .neq (.bool a) (.bool c)=aa (.bool (!(a==c))):=by simp[aT]
@[simp] theorem bK(a:Bool):np .not (.bool a)=aa (.bool (!a)):=rfl
theorem a6{bk:BK}(h:U<4611686018427387904:=by omega):aT bk .add (I U) (I 1)=aa (I ((U+1:Nat):Int)):=by
 grind[xS]
theorem QG(a w:aG):fZ [0,0,1] (cV a) (cV w)=aa (y (a=w)):=by
 let⟨b,c,d⟩:=a;let⟨e,f,g⟩:=w;have:y ((⟨b,c,d⟩:aG)=⟨e,f,g⟩)=((b==e)&&((c==f)&&((d==g)&&ad))):=by
  rw[iQ];simp
 rw[this];rfl
@[simp] theorem QH(b w:aG):aT (.a 3 [0,0,1]) .neq (.agg (cV b)) (.agg (cV w))=aa (.bool (!y (b=w))):=by
 simp[aT,QG]
@[simp] theorem acU(b w:aG):aT (.a 3 [0,0,1]) .eql (.agg (cV b)) (.agg (cV w))=aa (.bool (y (b=w))):=by
 simp[aT,QG]
theorem Kd{C:fq}{args:List AV}{r:AV}(h:∃b a,C U args [] b a/\aM a .res b r):PR C U args r:=h
variable{kg:AV -> Prop}
theorem c{C:fq}{args:List AV}{r:AV}(h:PR C U args r)(d:kg r)(a:bS args:=by simp):cp C U args M kg:=
 ⟨.df,args,r,by decide,by rw[a.pl];exact a.snap,h,(λb=>by cases b),d⟩
theorem e4{C:fq}{args:List AV}(r:AV)(h:PR C U bE r)(b:b6 M .cb (args.map AV.pl) bE)(a:NB r)(c:kg r):cp C U args M kg:=
 ⟨.cb,bE,r,by decide,b,h,λ_=>a,c⟩
variable{gC:List Obj}{iy:AV -> List Obj -> Prop}
theorem qJ{C:fq}{args:List AV}(r:AV)(h:C U (args.map AV.pl) M r gC)(a:iy r gC):ch C U args M iy:=⟨r,gC,h,a⟩
variable{kk:List AV -> List Obj -> (List AV -> List Obj -> Prop) -> Prop}
theorem bG(b:K->List AV)(c:K->List Obj)(g:K->Nat)(Inv:K->Prop)(f:K)(h:Inv f)
 (step:∀a,Inv a->∀R:List AV->List Obj->Prop,(∀e,Inv e->g e<g a->R (b e) (c e))->kk (b a) (c a) R)(j:b f=bE:=by exact rfl)(i:c f=M:=by exact rfl):jA kk bE M:=by
 intro R k;subst j;subst i;have key:∀d a,g a<=d->Inv a->R (b a) (c a):=by
  intro d;induction d with
  |zero=>grind
  |succ d l=>grind
 exact key _ f (c5 _) h
@[simp] theorem Dj(e:List Obj)(d:Md)(b:IntKind)(a c:Int):aM e d (.int b a) (.int b c)<->a=c:=⟨λh=>by cases h;rfl,λh=>h▸.int d b a⟩
@[simp] theorem qK(d:List Obj)(c:Md)(a b:Bool):aM d c (.bool a) (.bool b)<->a=b:=⟨λh=>by cases h;rfl,λh=>h▸.bool c a⟩
theorem Dk{a:List UInt8}(h:U<Z a):mb (.str a) (I U)=aa (.int .u8 (a[U].toNat:Int)):=by
 simp[mb,h]
@[simp] theorem Dl(a c:IntKind)(b:Int):pO (.int a) (.int c b)=aa (.int a (a.wrap b)):=rfl
@[simp] theorem Kf(a:List UInt8):pO .bytes (.str a)=aa (.sl ab (a.map λb=>[.int .u8 b.toNat])):=rfl
theorem QI(a:UInt8):IntKind.i64.wrap (a.toNat:Int)=(a.toNat:Int):=wrap64 (by omega) (by have:=a.toNat_lt;omega)
def Sm(a:List K):Prop:=Z a<1099511627776
def cU(a:UInt8):List AV:=[.int .u8 a.toNat]
@[simp] theorem acV(a:UInt8):bS (cU a):=by simp[cU]
@[simp] theorem atl(a:Bool)(b:List UInt8):Im (eS a cU b):=ny acV a b
@[simp] theorem F9(a:UInt8):Z (cU a)=1:=rfl
@[simp] theorem Ga(a:UInt8):(cU a)[0]?=aa (.int .u8 a.toNat):=rfl
theorem Kg(a:List UInt8):(AV.sl ab (a.map λb=>[.int .u8 b.toNat]))=eS ab cU a:=rfl
variable{rC:Option K}{rf:EV}{bA:Value}{t:WS}{m:Operand}
section
variable{P:Program}{G:Nat->Option (List AV)}{A:bR}
theorem h5{b:K->Prop}(h:bd rC b):∃a,rC=aa a/\b a:=by
 rcases rC with _|a;exact h.elim;exact⟨a,rfl,h⟩
theorem qL{b:Option (K×bZ)}{c:K->bZ->Prop}(h:cj b c):∃a d,b=aa (a,d)/\c a d:=by
 rcases b with _|a;exact h.elim;exact⟨a.1,a.2,rfl,h⟩
@[simp] theorem acW(a:AV):a.pl.pl=a.pl:=by cases a<;>rfl
theorem nC(b:Nat):∀a:List (Nat×EV),look b (fP a)=(look b a).map EV.val
 |[]=>rfl
 |(d,c)::a=>by
  simp only[fP,eg,look];split;rfl;exact nC b a
theorem QJ(c:Nat)(b:EV):∀a:List (Nat×EV),fP (put c b a)=put c b.val (fP a)
 |[]=>rfl
 |(e,f)::a=>by
  have d:=QJ c b a;grind[fP,put]
theorem QK(b:List Nat):∀a:List (Nat×EV),fP (k0 b a)=k0 b (fP a)
 |[]=>rfl
 |(d,e)::a=>by
  have c:=QK b a;grind[fP,k0]
theorem Kh(b:Nat):∀a:List (Nat×EV),fP (lz b a)=lz b (fP a)
 |[]=>rfl
 |(d,e)::a=>by
  have c:=Kh b a;grind[fP,lz]
theorem EV.QL(a:EV):a.val.pl=a.v.pl:=by
 cases a with
 |av b=>exact acW b
 |lp c off=>rfl
 |sk=>rfl
theorem EV.acX(h:rf.v≠.undef):rf.val=rf.v.pl:=by
 cases rf with
 |av b=>rfl
 |lp a off=>exact absurd rfl h
 |sk=>rfl
theorem EV.QM(h:∀a off,rf≠.lp a off):rf.val=rf.v.pl:=by
 cases rf with
 |av b=>rfl
 |lp a off=>grind
 |sk=>rfl
theorem acY{a:AV}(h:ofValue bA=aa a):a.pl=a:=by
 unfold ofValue at h;split at h<;>simp at h<;>subst h<;>rfl
theorem acZ(b:Value):((rF b).getD .undef).pl=(rF b).getD .undef:=by
 rcases h:rF b with _|a;rfl;simp only[nR];unfold rF at h;split at h;simp only[dj]at h;obtain⟨_,_,rfl⟩:=h;rfl;exact acY h
theorem Gb(a:WS)(b:Operand):l G a.as b=(qC G a b).val:=by
 cases b with
 |tmp d=>
  simp only[l,qC,WS.as,nC];cases look d a.env<;>rfl
 |const e=>exact(acZ e).symm
 |global c=>
  simp only[l,qC,gv,EV.val];cases G c<;>rfl
 |func f=>rfl
theorem qM(a:WS)(b:Operand):(l G a.as b).pl=(bX G a b).pl:=by
 rw[Gb,EV.QL]<;>rfl
theorem jE(h:bX G t m≠.undef):l G t.as m=(bX G t m).pl:=by
 rw[Gb];exact EV.acX h
theorem kI{a:AV}(h:bX G t m=a)(b:a≠.undef):l G t.as m=a.pl:=by
 grind[jE]
theorem Be:∀{a:List (Nat×EV)},uX U a=ad->jc U (fP a)=ad
 |[],_=>rfl
 |(b,.lp c off)::a,h=>by
  simp only[uX,bc,bne_iff_ne,ne_eq]at h;show((!(c==U))&&jc U (fP a))=ad;simp[h.1,Be h.2]
 |(b,.av d)::a,h=>by
  show((!(d.pl.gF U))&&jc U (fP a))=ad;rw[sW,Be (a:=a) h]<;>rfl
 |(b,.sk)::a,h=>Be (a:=a) h
theorem Ki(b:List AV):∀n a,a+n<=Z b->tS b n a=(b.drop a).take n
 |0,a,_=>by simp[tS]
 |n+1,a,h=>by
  have c:a<Z b:=by omega
  simp only[tS];rw[Ki b n (a+1) (by omega),oC c,Ov];grind[g,List.getD]
theorem Kj{a:List AV}(h:Z a=U):tS a U 0=a:=by
 grind[Ki]
theorem QN{a:AV}{b:List AV}(h:dS U a=aa b):b=a.pl.cells/\Z a.pl.cells=U/\a.pl.cells.all AV.bU=true:=by
 grind[dS]
theorem ac0{a:AV}(h:a.bU=ad):a.cells=[a]:=by cases a<;>simp[AV.bU]at h<;>rfl
theorem ac1{a b:AV}(h:nu a=aa b):b=a.pl/\a.pl.cells=[b]/\a.pl.cells.all AV.bU=true:=by
 unfold nu at h;grind[ac0]
theorem Kk(place:Nat->Option (Nat×Nat)):∀(g:List (Nat×AV))(f:List (Nat×Nat×AV))(i d:List AV)(c:List (Nat×AV)),(c.map λe=>(e.1,e.2.pl))=(g.map λe=>(e.1,e.2.pl))->A6 place g=aa f->ma i f=aa d->xy place i c=aa d
 |[],f,i,d,c,a,b,h=>by
  simp at a;subst a;simp[A6]at b;subst b;exact h
 |(p,u)::g,f,i,d,c,a,b,h=>by
  rcases c with _|⟨o,c⟩;simp at a;let⟨q,t⟩:=o;simp only[eg,Cs,eE]at a;let⟨⟨rfl,m⟩,a⟩:=a;simp only[A6]at b;split at b;rename_i r s n l k;simp at b;subst b;simp only[ma]at h;split at h;rename_i j;simp only[xy,l,m];rw[if_pos j];exact Kk place g n _ d c a k h;simp at h;grind
theorem QO(f:Nat):∀(e a:List (Nat×AV))(d:List (List AV)),(a.map λc=>(c.1,c.2.pl))=(e.map λc=>(c.1,c.2.pl))->lH f d a=lH f d e
 |[],a,d,b=>by simp_all
 |(i,l)::e,a,d,b=>by
  rcases a with _|⟨h,a⟩;simp at b;let⟨j,k⟩:=h;simp only[eg,Cs,eE]at b;let⟨⟨rfl,g⟩,b⟩:=b;simp only[lH,g];split;exact QO f e a _ b;rfl
theorem Gc(h:xL P u=ad):(fp P u=ab->bh P u=1)/\(P.underlying u).isSome=true:=by
 grind[xL]
variable{km:KD}{kj:TypeId}
theorem ac2{a:AV}{r:List AV×Nat}(h:wc L.hp a=aa r):pD L a.pl=aa r/\a≠.undef:=by
 cases a<;>first|grind[wc]|exact⟨h,by simp⟩
theorem QP{a w:AV}(b:xL P u=ad)(h:aQ (bh P u) (fp P u) a L.hp=aa w):oR P L u a.pl=aa w/\a≠.undef:=by
 grind[aQ,ac2,Gc,oR]
theorem Kl{a w:AV}(h:dD U a L.hp=aa w):mJ L U a.pl=aa w/\a≠.undef/\w.pl=w:=by
 unfold dD at h;split at h;simp at h;subst h;exact⟨rfl,by simp,rfl⟩;split at h;rename_i c;split at h;rename_i b;simp at h;subst h;refine⟨?_,by simp,rfl⟩;simp[mJ,AV.pl,c,b];simp at h;simp at h;simp at h
theorem ac3{op:BinOp}{k l w:AV}(h:aT (A7 P u) op k l=aa w):tL P op u k.pl l.pl=aa w/\k≠.undef/\l≠.undef/\w.pl=w:=by
 have z:∀(op:BinOp)(n:IntKind)(e c:Int)(w:AV),kE op n e c=aa w->w.pl=w:=by
  intro op n e c w h;unfold kE at h;split at h<;>first|(simp at h;subst h;rfl)|(split at h<;>simp at h;subst h;rfl)|simp at h
 have o:∀(op:BinOp)(e c:List UInt8)(w:AV),vU op e c=aa w->w.pl=w:=by
  intro op e c w h;unfold vU at h;split at h<;>first|(simp at h;subst h;rfl)|simp at h
 unfold aT at h;split at h;refine⟨h,by simp,by simp,?_⟩;split at h;split at h<;>simp at h;subst h;rfl
 split at h<;>simp at h;subst h;rfl
 grind;exact⟨h,by simp,by simp,o _ _ _ _ h⟩;rename_i e c;have j:A7 P u=.b->P.underlying u=aa .bool:=by
  unfold A7;split;rename_i d;exactλ_=>d;intro f;cases f;intro f;split at f;split at f<;>simp at f
  simp at f
 split at h;rename_i a;simp at h;subst h;exact⟨by simp[tL,AV.pl,j a],by simp,by simp,rfl⟩;rename_i a;simp at h;subst h;exact⟨by simp[tL,AV.pl,j a],by simp,by simp,rfl⟩;simp at h;rename_i t bs;split at h;rename_i s r a;have j:P.eqGuardType P.depth u=ab/\fp P u=ad/\nn P 100 u=aa r/\s=bh P u:=by
  unfold A7 at a;split at a;simp at a;simp at a;split at a;rename_i m;split at a;rename_i B p;simp at a;let⟨rfl,rfl⟩:=a;exact⟨m.1,m.2,p,rfl⟩;simp at a;simp at a
 let⟨v,x,y,rfl⟩:=j;split at h;rename_i A;refine⟨?_,by simp,by simp,?_⟩;simp only[tL,AV.pl];grind;split at h<;>simp at h<;>subst h<;>rfl
 simp at h;simp at h;split at h;rename_i c a g;simp at h;subst h;have d:∃i,P.underlying u=aa (.slice i):=by
  unfold A7 at a;split at a;cases a
  rename_i i d;exact⟨i,d⟩;split at a;split at a<;>cases a
  cases a
 let⟨i,d⟩:=d;have q:k≠.undef:=by rintro rfl;cases g
 unfold AV.Cx at g;refine⟨?_,q,by simp,rfl⟩;split at g<;>simp at g<;>subst g<;>simp[tL,AV.pl,d,AV.Cx]
 simp at h;simp at h
theorem ac4{b w:AV}(h:pO (C4 P u cr) b=aa w):xx P u cr b.pl=aa w/\b≠.undef/\w.pl=w:=by
 unfold pO at h;split at h;rename_i f a;simp at h;subst h;refine⟨?_,by simp,rfl⟩;unfold C4 at a;split at a;simp_all[xx,AV.pl];simp at a;grind;grind;rename_i a;simp at h;subst h;refine⟨?_,by simp,rfl⟩;unfold C4 at a;split at a;simp at a;simp_all[xx,AV.pl];grind;grind;rename_i a;simp at h;subst h;refine⟨?_,by simp,rfl⟩;unfold C4 at a;split at a;simp at a;simp at a;rename_i c d e;split at a
 simp_all[xx,AV.pl];grind;grind;simp at h
theorem Dm(h:qD P u=aa km):nS P u=aa km.ks/\(∀a b,km.eq a b=sQ P u km.ks a b)/\∀e c d,km.find e c d=findKey P u km.ks e c d:=by
 unfold qD at h;simp only[dj]at h;obtain⟨ks,g,rfl⟩:=h;have f:∀a b,KD.eq {ag:=fp P u,n:=bh P u,ks:=ks} a b=sQ P u ks a b:=by
  intro a b;cases a<;>cases b<;>rfl
 refine⟨g,f,?_⟩;intro e c;induction c with
 |nil=>intro d;rfl
 |cons j c i=>
  grind[KD.find,findKey]
theorem ac5{a:AV}{r}(h:mc L.hp a=aa r):vV L a.pl=aa r/\a≠.undef:=by
 cases a<;>first|grind[mc]|exact⟨h,by simp⟩
theorem Gd{a:AV}(h:(km.eq a a).isSome=ad):a.pl=a/\a≠.undef:=by
 cases a<;>simp[KD.eq]at h<;>exact⟨rfl,by simp⟩
theorem ac6{a:AV}{r}(h:vV L a=aa r):y4 L.hp a=none:=by
 cases a<;>simp[vV,y4]at h⊢
 split at h<;>simp_all
theorem ac7(h:qD P u=aa km):km.ag=fp P u:=by
 unfold qD at h;grind[Option.map_eq_some_iff]
theorem ac8{d:AV}{ok:Bool}{b a w:AV}(k:P.underlying u=aa (.map cr kj))(c:qD P cr=aa km)(l:sP P kj=aa d)(h:JY km d ok b a L.hp=aa w):
 uM P L u b.pl a.pl ok=aa w/\b≠.undef/\a≠.undef:=by
 let⟨e,_,_⟩:=Dm c;have f:=ac7 c;unfold JY at h;split at h;rename_i p j i g;have m:xz P u=true:=by
  unfold xz;rw[k];simp only[e,i,<-f,g,l]
 have o:b.pl=b/\b≠.undef:=by cases b<;>simp[y4]at j<;>exact⟨rfl,by simp⟩
 have n:a.pl=a/\a≠.undef:=by cases a<;>simp[CA]at h<;>exact⟨rfl,by simp⟩
 grind[uM];cases h
theorem ac9{c:AV}{ok:Bool}{b a w:AV}(i:P.underlying u=aa (.map cr kj))(d:qD P cr=aa km)(j:sP P kj=aa c)(h:iI km c ok b a L.hp=aa w):
 uM P L u b.pl a.pl ok=aa w/\b≠.undef/\a≠.undef:=by
 let⟨e,f,g⟩:=Dm d;grind[iI,ac5,ac6,Gd,nT,uM,ac8]
theorem QQ(c b:Nat)(a:Option Operand){r:Nat}(h:eO c b (a.map (bX G t))=aa r):eO c b (a.map (l G t.as))=aa r:=by
 rcases a with _|x;exact h;simp only[kd]at h⊢;generalize e:bX G t x=d at h;cases d<;>simp[eO]at h
 simp_all[kI,eO,AV.pl]
theorem Dn{b:List AV}(h:qE P u=aa (U,b,N)):∃a,P.underlying u=aa (.slice a)/\qp P a=aa b/\Z b=bh P a/\0<bh P a/\U=bh P a/\N=uL P a:=by
 grind[qE]
theorem ada{a:AV}{b:List (List AV)}(h:ij L.hp U a=aa b):oS L U a.pl=aa b/\a≠.undef:=by
 cases a<;>first|grind[ij]|exact⟨h,by simp⟩
variable{fX:Option Tmp}{dP:Call}{re:EV -> WS -> Prop}
def zs(P:Program)(G:Nat->Option (List AV))(A:bR)(b:WS)(e:Option Tmp)(op:Op)(d:EV->WS->Prop):Prop:=
 ∃c a,aV P G A b.as e op=aa (EV.val c,WS.as a)/\a.env=b.env/\d c a
theorem adb{e:LK}{c w:AV}(a:J2 P u=aa e)(h:gk e c L.hp=aa w):l7 P L u c.pl=aa w/\w.pl=w:=by
 unfold J2 at a;split at a;rename_i b;injection a with a;subst a;cases c<;>first|grind[gk]|(injection h with h;subst h;exact⟨by simp[l7,AV.pl,b],rfl⟩)
 rename_i d b;injection a with a;subst a;cases c<;>first|grind[gk]|(injection h with h;subst h;exact⟨by simp[l7,AV.pl,b],rfl⟩)
 rename_i j d b;injection a with a;subst a;injection h with h;subst h;exact⟨by simp[l7,b],rfl⟩
 ·rename_i g d b
  injection a with a;subst a;cases c<;>try(simp[gk]at h;done)
  rename_i i vs;injection h with h;subst h;exact⟨by simp[l7,AV.pl,b],rfl⟩;simp only[gk]at h;split at h;rename_i f;injection h with h;subst h;exact⟨by simp[l7,AV.pl,b,f],rfl⟩;simp at h
 grind
theorem Km{p:List AV}{a d w:AV}(j:qE P u=aa (U,p,N))(f:0<N)(h:cJ U N a d L.hp=aa (w,M)):
 oT P L u a.pl d.pl=aa (w,{L with hp:=M})/\a≠.undef/\d≠.undef/\w.pl=w:=by
 obtain⟨q,k,m,n,hp,rfl,rfl⟩:=Dn j;unfold cJ at h;split at h;rename_i s l;let⟨o,e⟩:=ada l;split at h;rename_i c;split at h;rename_i b;simp at h;let⟨rfl,rfl⟩:=h;have g:a≠.undef:=by rintro rfl;cases c
 have r:a.pl.isNil=true:=by cases a<;>first|exact c|cases c
 refine⟨?_,g,e,rfl⟩;grind[oT];simp at h;split at h;split at h;rename_i i;split at h;rename_i b;simp at h;let⟨rfl,rfl⟩:=h;refine⟨?_,by simp,e,rfl⟩;simp only[oT,k,m,o];rw[if_pos ⟨n,hp,f⟩];simp only[AV.pl,AV.isNil,eZ,if_false,i];rw[if_pos b,b.2.2.1];simp at h;simp at h;simp at h;simp at h
theorem Ge{args:List Operand}{a:AV}(h:args.map (bX G t)=[a]):∃b,args=[b]/\bX G t b=a:=by
 simp_all
theorem Gg{args:List Operand}{a b:AV}(h:args.map (bX G t)=[a,b]):∃c d,args=[c,d]/\bX G t c=a/\bX G t d=b:=by
 rcases args with _|⟨e,f⟩;simp at h;grind[Ge]
theorem ade{b a:AV}(l:P.underlying u=aa (.map cr kj))(j:qD P cr=aa km)(h:A4 km b a L.hp=aa M):
 AH P L u b.pl a.pl=aa {L with hp:=M}/\b≠.undef/\a≠.undef:=by
 let⟨f,g,i⟩:=Dm j;unfold A4 at h;split at h;split at h;rename_i k;split at h;rename_i d;let⟨p,m⟩:=Gd d;have n:a≠.undef:=λe=>m (by rw[e]<;>rfl);refine⟨?_,by simp,n⟩;have c:nT P cr km.ks a.pl=true:=by rw[nT,<-g];exact d
 simp only[AH,l,AV.pl,k,f]at c⊢;simp only[c,if_true];rw[i]at h;simp only[AV.pl]at h;split at h;grind;rename_i o;simp at h;subst h;simp_all;simp at h;simp at h;simp at h;simp at h
theorem adf{d:List AV}{a b w:AV}(i:qE P u=aa (U,d,N))(e:0<N)(c:P.underlying cr=aa (.int .i64))(h:C2 U N d a b L.hp=aa (w,M)):tN P L u cr a.pl b.pl=aa (w,{L with hp:=M})/\a≠.undef/\b≠.undef/\w.pl=w/\qq P cr=false:=by
 obtain⟨m,j,k,l,g,rfl,rfl⟩:=Dn i;unfold C2 at h;split at h;rename_i n;split at h;rename_i f;simp only[e1,eE]at h;let⟨rfl,rfl⟩:=h;refine⟨?_,by simp,by simp,rfl,by simp[qq,c]⟩;simp only[AV.pl,tN,j,c,k];rw[if_pos ⟨l,g,e,f⟩];cases h
 cases h
theorem adg{b:List AV}{a:AV}(e:qE P u=aa (U,b,N))(h:C3 U b a L.hp=aa M):AI P L u a.pl=aa {L with hp:=M}/\a≠.undef:=by
 obtain⟨i,f,g,k,j,rfl,rfl⟩:=Dn e;unfold C3 at h;split at h;split at h;rename_i d;split at h;rename_i c;obtain⟨rfl,rfl⟩:=c;simp only[e1]at h;subst h;refine⟨?_,by simp⟩;simp only[AV.pl,AI,f,g,d];rw[if_pos (by simp_all)];cases h
 cases h
 cases h
theorem adh{o:Builtin}(H:dP.callee=.builtin o)(h:J3 P t o dP.argTypes.toList (dP.args.toList.map (bX G t)) re):zs P G A t fX (.call dP) re:=by
 have f:aV P G A t.as fX (.call dP)=ko P t.as o dP.argTypes.toList (dP.args.toList.map (l G t.as)):=by
  simp only[aV,H]
 unfold J3 at h;generalize T:dP.argTypes.toList=af at h f;generalize S:dP.args.toList=args at h f;unfold zs;split at h;rename_i i r c;obtain⟨j,rfl,rfl⟩:=Ge c;split at h;rename_i Y J;let⟨w,a,b⟩:=h5 h;let⟨d,e⟩:=adb (L:=t.as) J a;refine⟨.av w,t,?_,rfl,b⟩;have U:l7 P t.as i (l G t.as j)=aa w:=by
  by_cases u:bX G t j=.undef;rw[u]at d;have:∀y:AV,l7 P t.as i .undef=aa w->l7 P t.as i y=aa w:=by
   intro y L;unfold l7 at L⊢;grind
  exact this _ d;grind[jE]
 grind[ko,EV.val];grind;rename_i i M O r c;obtain⟨B,j,rfl,rfl,rfl⟩:=Gg c;split at h;rename_i F;split at h;rename_i x z s m;split at h;rename_i q;let⟨w,g,a,b⟩:=qL h;let⟨d,e,k,p⟩:=Km (L:=t.as) m q a;refine⟨.av w,{t with hp:=g},?_,rfl,b⟩;rw[f];simp only[eg,nj,ko,F,if_true,jE e,jE k,d,EV.val,p];rfl;grind;grind;split at h;rename_i x z s m K;split at h;rename_i q;let⟨w,g,a,b⟩:=qL h
 let⟨d,e,k,p,C⟩:=adf (L:=t.as) m q K a;refine⟨.av w,{t with hp:=g},?_,rfl,b⟩;rw[f];simp only[eg,nj,ko,C,eZ,if_false,jE e,jE k,d,EV.val,p];rfl;grind;grind;rename_i i r c;obtain⟨j,rfl,rfl⟩:=Ge c;split at h;rename_i Q v;let⟨w,a,b⟩:=h5 h;unfold FK at a;split at a;rename_i u;injection a with a;subst a;refine⟨.av (.int .i64 0),t,?_,rfl,b⟩;simp_all[eg,nj,kI,AV.pl,ko,EV.val];cases a
 grind;rename_i i r c;obtain⟨j,rfl,rfl⟩:=Ge c;split at h;rename_i x z s m;let⟨g,a,b⟩:=h5 h;let⟨d,e⟩:=adg (L:=t.as) m a;refine⟨.av (.aB []),{t with hp:=g},?_,rfl,b⟩;rw[f];simp only[eg,nj,ko,jE e,d,EV.val];rfl;grind;rename_i i M ac W c;obtain⟨Z,V,rfl,rfl,rfl⟩:=Gg c;split at h;rename_i X R v;split at h;rename_i B I;let⟨g,a,b⟩:=h5 h;let⟨d,e,k⟩:=ade (L:=t.as) v I a
 refine⟨.av (.aB []),{t with hp:=g},?_,rfl,b⟩;rw[f];simp only[eg,nj,ko,jE e,jE k,d,EV.val];rfl;grind;grind;let⟨w,a,b⟩:=h5 h;refine⟨.av w,t,?_,rfl,b⟩;rw[f];unfold tO at a;split at a;rename_i c;obtain⟨j,N,rfl,D,E⟩:=Gg c;simp at a;subst a;simp_all[ko,kI,AV.pl,tO,EV.val];grind;let⟨w,a,b⟩:=h5 h;refine⟨.av w,t,?_,rfl,b⟩;rw[f];unfold sR at a;split at a;rename_i c;obtain⟨j,N,rfl,D,E⟩:=Gg c
 simp at a;subst a;simp_all[ko,kI,AV.pl,sR,EV.val];grind;grind
variable{z:Nat}
theorem adi{a b:AV}(hp:(P.info? u).isSome=ad)(h:dp (bh P u) a b L.hp=aa M)(c:AV)(d:c.pl=b.pl):vS P L u a.pl c=aa {L with hp:=M}/\a≠.undef:=by
 unfold dp at h;grind[vS,AV.pl]
theorem adj{f:List (Nat×AV)}{i:List AV}{e:List (Nat×Nat×AV)}{d:List AV}{g:List (Nat×AV)}(q:(g.map λa=>(a.1,a.2.pl))=(f.map λa=>(a.1,a.2.pl)))(h:J0 P u f=aa (i,e))(p:ma i e=aa d):y1 P u g=aa (.agg d):=by
 unfold J0 at h;split at h;rename_i o m b c;split at h;rename_i j;simp only[dj,eE]at h;obtain⟨l,k,rfl,rfl⟩:=h;simp only[y1,b,c];grind[Kk];simp at h;rename_i r n m b c;split at h;rename_i j;simp only[dj,eE]at h;obtain⟨l,k,rfl,rfl⟩:=h;simp only[y1,b,c];grind[Kk];simp at h;simp at h
theorem Gh(b:WS)(c:List (Nat×Operand)):((c.map λa=>(a.1,l G b.as a.2)).map λa=>(a.1,a.2.pl))=((c.map λa=>(a.1,bX G b a.2)).map λa=>(a.1,a.2.pl)):=by
 grind[List.map_map,List.map_congr_left,qM]
theorem QR(d:Nat):∀(c:List (Nat×AV))(a b:List (List AV)),lH d a c=aa b->Z b=Z a
 |[],a,b,h=>by grind[lH]
 |(e,f)::c,a,b,h=>by
  simp only[lH]at h;split at h;have:=QR d c _ _ h;grind;simp at h
theorem Kn{own:Bool}{f:List AV}{d e:List (Nat×AV)}{a:List (List AV)}(g:qE P u=aa (U,f,z))(m:N*U<=2^24)(n:(e.map λc=>(c.1,c.2.pl))=(d.map λc=>(c.1,c.2.pl)))(h:lH U (db N f) d=aa a):
 tM P own L u N e=if(N==0)=ad then aa (.dG,L)else if own=ad then aa (.q (Z L.hp) 0 0 N,{L with hp:=L.hp++[.arr 0 U a]})else aa (.sl ab a,L):=by
 obtain⟨k,i,o,p,hp,rfl,rfl⟩:=Dn g;have b:=QR _ _ _ _ h;simp at b;have l:a.isEmpty=(N==0):=by
  rcases a with _|⟨j,r⟩;simp at b;subst b;rfl;simp at b;subst b;simp
 simp only[tM,i];grind[QO]
theorem QS{c:List AV}{b a w:AV}(d:qE P u=aa (U,c,N))(h:uW U c N b a L.hp=aa (w,M)):y3 P L u b.pl a.pl=aa (w,{L with hp:=M})/\b≠.undef/\a≠.undef/\w.pl=w:=by
 obtain⟨g,e,f,j,hp,rfl,rfl⟩:=Dn d;unfold uW at h;split at h;split at h;rename_i i;simp at h;let⟨rfl,rfl⟩:=h;refine⟨?_,by simp,by simp,rfl⟩;simp only[y3,e,AV.pl,f];grind;simp at h;simp at h
theorem QT{d a e:AV}(o:P.underlying u=aa (.map cr kj))(m:qD P cr=aa km)(h:jO km d a e L.hp=aa M)(b:AV)(c:b.pl=e.pl):
 xA P L u d.pl a.pl b=aa {L with hp:=M}/\d≠.undef/\a≠.undef:=by
 let⟨j,k,l⟩:=Dm m;unfold jO at h;split at h;split at h;rename_i n;split at h;rename_i g;let⟨t,r⟩:=Gd g;have s:a≠.undef:=λi=>r (by rw[i]<;>rfl);refine⟨?_,by simp,s⟩;have f:nT P cr km.ks a.pl=true:=by rw[nT,<-k];exact g
 rw[l]at h;generalize a.pl=q at h f;generalize e.pl=v at h c;generalize p:b.pl=w at c;subst c;show xA P L u (.b7 _) q b=_;simp only[xA,o,n,j,f,if_true,p];grind;simp at h;simp at h;simp at h
theorem adk{e b a w:AV}(m:P.underlying u=aa (.map cr kj))(k:qD P cr=aa km)(q:sP P kj=aa e)(h:A2 km e b a L.hp=aa (w,M)):
 y5 P L u b.pl a.pl=aa (w,{L with hp:=M})/\b≠.undef/\a≠.undef/\w.pl=w:=by
 let⟨g,i,j⟩:=Dm k;unfold A2 at h;split at h;split at h;rename_i l;split at h;rename_i d;let⟨s,n⟩:=Gd d;have t:a≠.undef:=λf=>n (by rw[f]<;>rfl);have c:nT P cr km.ks a.pl=true:=by rw[nT,<-i];exact d
 rw[j]at h;generalize a.pl=r at h c;simp only[y5,m,AV.pl,l,g,c,if_true];split at h;rename_i o;split at h;rename_i p;simp at h;obtain⟨rfl,rfl⟩:=h;simp_all;simp at h;grind;simp at h;simp at h;simp at h;simp at h
theorem adl{b c d:AV}(h:A3 b c d L.hp=aa M)(e:AV)(a:e.pl=d.pl):AG L b.pl c.pl e=aa {L with hp:=M}/\b≠.undef/\c≠.undef:=by
 unfold A3 at h;generalize d.pl=g at h a;generalize f:e.pl=i at a;subst a;split at h;grind[AG,AV.pl];simp at h
theorem adm{s:SK}{g f:Option Operand}{w:AV}(a:J1 P u=aa s)(h:fy s (bX G t m) (g.map (bX G t)) (f.map (bX G t)) t.hp=aa w):
 aV P G A t.as fX (.slice u m g f ae)=aa (w.pl,t.as):=by
 generalize c:bX G t m=o at h;have F:∀b e r,eO b e (g.map (bX G t))=aa r->eO b e (g.map (l G t.as))=aa r:=by grind[QQ]
 have E:∀b e r,eO b e (f.map (bX G t))=aa r->eO b e (f.map (l G t.as))=aa r:=by grind[QQ]
 unfold fy at h;unfold J1 at a;split at a;rename_i n;injection a with a;subst a;cases o<;>simp only[reduceCtorEq]at h
 have d:=kI c (by simp);split at h;rename_i i;split at h;rename_i j;simp at h;subst h;simp_all[aV,AV.pl,nm,Cu];simp at h;simp at h;rename_i z n;split at a;rename_i q;injection a with a;subst a;cases o<;>simp only[reduceCtorEq]at h
 have d:=kI c (by simp);split at h;rename_i i j;simp at h;subst h;have B:eO 0 0 ae=aa 0:=rfl;simp_all[aV,AV.pl,nm,Cu];simp at h;have d:=kI c (by simp);split at h;rename_i i j;simp at h;subst h;have B:eO 0 0 ae=aa 0:=rfl;simp_all[aV,AV.pl,nm,Cu];simp at h;have d:=kI c (by simp);split at h;rename_i i;split at h;rename_i j;split at h;rename_i k;simp at h;subst h;simp_all[aV,AV.pl,nm,Cu];simp at h
 simp at h;simp at h;have d:=kI c (by simp);split at h;rename_i i;split at h;rename_i j D;have H:t.as.hp[_]?=aa _:=D;split at h;rename_i k;simp at h;subst h;simp_all[aV,AV.pl,nm,Cu];simp at h;simp at h;simp at h;grind
 ·rename_i b z n
  split at a
  ·rename_i q
   injection a with a;subst a;cases o<;>try(simp at h;done)
   rename_i v p off;cases off<;>try(simp at h;done)
   have d:=kI c (by simp);replace h:(if((Option.map (bX G t) g).isNone&&(Option.map (bX G t) f).isNone&&y (Z p=b))=ad then aa (AV.sl v (QU (λx=>[x]) p))else ae)=aa w:=h;split at h;rename_i k;injection h with h;subst h;simp only[bc,IU,Option.map_eq_none_iff,decide_eq_true_eq]at k;obtain⟨⟨rfl,rfl⟩,C⟩:=k;simp[aV,n,d,AV.pl,q,C];simp at h
  grind
 grind
variable{dM:Operand}
theorem ku{op:Op}{w:AV}(h:aV P G A t.as fX op=aa (w.pl,t.as))(a:re (.av w) t):zs P G A t fX op re:=
 ⟨.av w,t,h,rfl,a⟩
theorem rQ{op:Op}{w:AV}(h:aV P G A t.as fX op=aa (w.pl,{t.as with hp:=M}))(a:re (.av w) {t with hp:=M}):zs P G A t fX op re:=
 ⟨.av w,{t with hp:=M},h,rfl,a⟩
theorem Bf{a:AV}(h:a.pl≠.undef):a≠.undef:=λb=>h (by rw[b]<;>rfl)
theorem Gi{a:List AV}(h:dS U (bX G t m)=aa a):Z ((l G t.as m).pl.cells)=U/\((l G t.as m).pl.cells).all AV.bU=ad/\(l G t.as m).pl.cells=a:=by
 grind[QN,qM]
theorem QV{a:AV}(h:nu (bX G t m)=aa a):((l G t.as m).pl.cells)=[a]/\a.bU=true:=by
 grind[ac1,qM]
theorem QW{b:AV}{a:List AV}(h:dS U b=aa a):Z a=U:=by
 let⟨c,d,e⟩:=QN h;grind
theorem Bg{off:Nat}(h:qC G t m=.lp U off):l G t.as m=.lp U off:=by
 rw[Gb,h]<;>rfl
theorem Gj{op:Op}{a:List (Nat×List AV)}(h:aV P G A t.as fX op=aa (rf.val,{t.as with bx:=a}))(b:re rf {t with bx:=a}):zs P G A t fX op re:=
 ⟨rf,{t with bx:=a},h,rfl,b⟩
theorem Dp{a:AV}(h:qC G t m=.av a):l G t.as m=a.pl:=by
 rw[Gb,h]<;>rfl
theorem Ko(h:uX U t.env=ad):oQ U t.as.env=t.as.env:=
 qz (Be h)
theorem adn{a w:AV}(j:qC G t m=.av a)(h:iH a t.hp=aa w):aV P G A t.as fX (.nilCheck m)=aa (w.pl,t.as):=by
 have e:=Dp j;unfold iH at h;split at h;simp at h;subst h;simp[aV,e,AV.pl];rename_i l;let⟨g,k,i⟩:=Kl (L:=t.as) h;have n:∀d b c,a.pl≠.fn d b c:=by
  intro d b c f;cases a<;>simp[AV.pl]at f
  exact(by grind)
 simp only[aV,e];rw[g,i]<;>rfl
theorem ado{w:AV}(h:fH U (bX G t m)=aa w):aV P G A t.as fX (.extract m U)=aa (w.pl,t.as):=by
 unfold fH at h;split at h;simp_all[kI,aV,AV.pl];simp at h
theorem adp{ok:Bool}{a w:AV}(f:P.underlying u=aa (.map cr kj))(e:qD P cr=aa km)(g:sP P kj=aa a)(h:iI km a ok (bX G t m) (bX G t dM) t.hp=aa w):
 aV P G A t.as fX (.lookup u m dM ok)=aa (w.pl,t.as):=by
 let⟨b,c,d⟩:=ac9 (L:=t.as) f e g h;simp only[aV,jE c,jE d,b];rfl
theorem adq{w:AV}(p:P.underlying u=aa (.slice cr))(o:0<bh P cr)(h:bT (bh P cr) (bX G t m) (bX G t dM) t.hp=aa w):
 rG P t.as u (l G t.as m) (l G t.as dM)=aa w/\w.pl=w:=by
 unfold bT at h;split at h;rename_i q r c;have k:l G t.as dM=.int q r:=by
  rw[jE (Bf (by rw[c];simp)),c]
 split at h;rename_i v b a;have f:=kI a (by simp);split at h;rename_i e;split at h;rename_i x j;split at h;rename_i d;simp at h;subst h;refine⟨?_,rfl⟩;simp[rG,p,k,f,AV.pl,e,j,d,o];simp at h;simp at h;simp at h;rename_i id g off len a;have f:=kI a (by simp);split at h;rename_i e;split at h;rename_i i s b n;split at h;rename_i d;simp at h;subst h;refine⟨?_,rfl⟩
 have y:t.as.hp[id]?=aa (.arr i s b):=n;simp_all[rG,AV.pl];simp at h;simp at h;simp at h;simp at h;simp at h
theorem adr{len:Nat}{b w:AV}(n:P.underlying u=aa (.array len cr))(k:0<bh P cr)(o:qC G t m=.av b)(h:pN len (bh P cr) b (bX G t dM) t.hp=aa w):
 rG P t.as u (l G t.as m) (l G t.as dM)=aa w/\w.pl=w:=by
 unfold pN at h;split at h;rename_i c d a;have i:l G t.as dM=.int c d:=by
  rw[jE (Bf (by rw[a];simp)),a]
 split at h;rename_i j;let⟨e,f,g⟩:=Kl (L:=t.as) h;simp_all[Dp,rG];simp at h;simp at h
theorem ads{b:Array Field}{a:Field}{w:AV}(e:P.underlying u=aa (.struct b))(d:b[U]?=aa a)(c:xL P a.type=ad)(h:C1 a.offset (bh P a.type) (fp P a.type) (bX G t m)=aa w):
 Cy P u (l G t.as m) U=aa w:=by
 let⟨f,g⟩:=Gc c;unfold C1 at h;split at h;simp_all[kI,Cy,AV.pl,E9];simp at h
theorem adt{w:AV}(f:P.underlying u=aa .string)(h:mb (bX G t m) (bX G t dM)=aa w):
 Cz P u (l G t.as m) (l G t.as dM)=aa w:=by
 unfold mb at h;split at h;rename_i i c d b a;have g:=kI b (by simp);have e:l G t.as dM=.int c d:=by
  rw[jE (Bf (by rw[a];simp)),a]
 simp_all[Cz,AV.pl];simp at h
theorem adu{op:UnOp}{a w:AV}(h:np op a=aa w):np op a.pl=aa w/\a≠.undef/\w.pl=w:=by
 unfold np at h;grind[np,AV.pl]
theorem QX{off:Nat}{b c:List AV}{a:AV}(i:(P.info? u).isSome=ad)(g:look U L.bx=aa b)(h:off+bh P u<=Z b)(d:Z a.pl.cells=bh P u)(e:a.pl.cells.all AV.bU=ad)(f:a.pl.cells=c):
 vS P L u (.lp U off) a=aa {L with bx:=put U (eV b off c) L.bx}:=by
 grind[vS]
theorem QY{op:Op}(h:C5 P G A t fX op re):zs P G A t fX op re:=by
 unfold C5 at h;split at h
 case _ g=>
  exact ku (by simp[aV,qM]) h
 case _ g=>
  split at h;split at h;rename_i af e;let⟨c,m,a,b⟩:=qL h;simp only[ft,e1,eE]at a;let⟨rfl,rfl⟩:=a;exact rQ (by simp only[aV,e]<;>rfl) b;rename_i e;exact ku (by simp only[aV,e]<;>rfl) h;rename_i x;refine ku ?_ h;simp[aV,qM]
 case _ K U V=>
  let⟨w,a,b⟩:=h5 h;unfold Qc at a;split at a;rename_i f aj;simp at a;subst a;have aR:l G t.as K=.bool f:=by rw[jE (Bf (by rw[aj];simp)),aj]
  refine ku ?_ b;simp only[aV,aR,qM];grind;grind
 case _ y=>
  split at h;rename_i H q J;split at h;rename_i I;split at h;rename_i e;split at h;rename_i R;refine⟨.lp q 0,{t with bx:=put q H t.bx},?_,rfl,h⟩;simp only[aV,J];rw[if_pos I,if_pos e,Ko R];rfl;grind;rename_i e;let⟨c,m,a,b⟩:=qL h;simp only[lA,e1,eE]at a;let⟨rfl,rfl⟩:=a;refine rQ ?_ b;simp only[aV,J];rw[if_pos I,if_neg e];rfl;grind;grind
 case _ y g=>
  split at h;rename_i q;split at h;rename_i e;split at h;rename_i R;split at h;let⟨B,a,b⟩:=h5 h;let⟨p,v,z⟩:=Gi a;refine Gj (rf:=.lp q 0) ?_ b;simp only[aV];rw[if_pos ⟨p,v⟩,if_pos e,Ko R,z,Kj (QW a)];rfl;split at h;rename_i aE;let⟨K,a,b⟩:=h5 h;let⟨p,v⟩:=QV a;refine Gj (rf:=.lp q 0) ?_ b;simp only[aV];rw[if_pos (by grind),if_pos e,Ko R,p];rfl;grind;grind;rename_i e;split at h;rename_i D
  let⟨c,m,a,b⟩:=qL h;simp only[nw,dj,eE]at a;obtain⟨B,a,rfl,rfl⟩:=a;let⟨p,v,z⟩:=Gi a;refine rQ ?_ b;simp only[aV];rw[if_pos ⟨p,v⟩,if_neg e,if_pos D,z];rfl;rename_i D;let⟨c,a,b⟩:=h5 h;simp only[j0,dj]at a;obtain⟨B,a,rfl⟩:=a;let⟨p,v,z⟩:=Gi a;refine ku ?_ b;simp only[aV];rw[if_pos ⟨p,v⟩,if_neg e,if_neg D,z];rfl;grind
 case _ f F=>
  split at h;rename_i H a4 C;let⟨B,a,b⟩:=h5 h;refine ku ?_ b;simp only[aV,fS];rw[adj (Gh t F.toList) C a];rfl;grind
 case _ f N F=>
  split at h;rename_i af H ax E;split at h;rename_i x;split at h;rename_i L;split at h;rename_i a2;have a3:N=0:=by simpa using L
  subst a3;have a:lH af (db 0 H) (F.toList.map λac=>(ac.1,bX G t ac.2))=aa []:=by
   have:F.toList=[]:=by simpa using a2
   rw[this]<;>rfl
  refine ku ?_ h;simp only[aV];rw[Kn (L:=t.as) E x (Gh t F.toList) a,if_pos L];rfl;grind;rename_i L;split at h;rename_i D;let⟨c,m,a,b⟩:=qL h;simp only[FJ,dj,eE]at a;obtain⟨az,a,rfl,rfl⟩:=a;refine rQ ?_ b;simp only[aV];rw[Kn (L:=t.as) E x (Gh t F.toList) a,if_neg L,if_pos D];rfl;rename_i D;let⟨c,a,b⟩:=h5 h;simp only[fQ,dj]at a;obtain⟨az,a,rfl⟩:=a;refine ku ?_ b;simp only[aV]
  rw[Kn (L:=t.as) E x (Gh t F.toList) a,if_neg L,if_neg D];rfl;grind;grind
 case _ f U=>
  split at h;rename_i X;let⟨br,bv⟩:=Gc X;split at h;rename_i n off s;split at h;rename_i B C;split at h;rename_i I;refine ku ?_ h;have Q:look n t.as.bx=aa B:=C;simp only[aV,fS,Bg s,oR,pD,Q,kd];grind;grind;grind;rename_i c s;let⟨w,a,b⟩:=h5 h;let⟨i,j⟩:=QP (L:=t.as) X a;refine ku ?_ b;simp_all[aV,fS,Dp];grind;grind
 case _ f U c=>
  split at h;rename_i hp;split at h;rename_i n off s;split at h;rename_i B C;have Q:look n t.as.bx=aa B:=C;split at h;rename_i I;split at h;let⟨a5,a,b⟩:=h5 h;let⟨p,v,z⟩:=Gi a;refine Gj (rf:=.av .undef) ?_ b;simp only[aV,Bg s];rw[QX hp Q I p v z,Kj (QW a)];rfl;split at h;rename_i aE;let⟨K,a,b⟩:=h5 h;let⟨p,v⟩:=QV a;refine Gj (rf:=.av .undef) ?_ b;simp only[aV,Bg s]
  rw[QX hp Q I (by grind) (by grind) p];rfl;grind;grind;grind;rename_i ac s;let⟨m,a,b⟩:=h5 h;let⟨i,j⟩:=adi (L:=t.as) hp a (l G t.as c) (qM t c);refine rQ ?_ b;simp only[aV,Dp s,i];rfl;grind;grind
 case _ g=>
  split at h;rename_i n off s;refine⟨.lp n off,t,?_,rfl,h⟩;simp[aV,Bg s,fS,mJ,EV.val];rename_i c s;let⟨w,a,b⟩:=h5 h;exact ku (adn s a) b;grind
 case _ op f g ce _=>
  let⟨w,a,b⟩:=h5 h;let⟨i,j,r,ah⟩:=ac3 a;refine ku ?_ b;simp_all[aV,fS,jE]
 case _ op _ g=>
  let⟨w,a,b⟩:=h5 h;let⟨i,j,r⟩:=adu a;refine ku ?_ b;simp_all[aV,fS,jE]
 case _ U V g=>
  let⟨w,a,b⟩:=h5 h;let⟨i,j,r⟩:=ac4 a;refine ku ?_ b;simp_all[aV,fS,jE]
 case _ f g=>
  split at h;exact h.elim;rename_i q x d;refine ku ?_ h;simp only[aV,d];rw[qM]<;>rfl
  grind
 case _ W first cap=>
  split at h;rename_i W;refine ku ?_ h;simp only[aV,qM];rfl;grind
 rename_i f g;split at h;rename_i S O d;let⟨w,m,a,b⟩:=qL h;unfold JZ at a;split at a;rename_i N k;simp only[e1,eE]at a;let⟨rfl,rfl⟩:=a;refine⟨.av (.b7 (Z t.hp)),{t with hp:=t.hp++[.mp ad [] []]},?_,rfl,b⟩;have aZ:l G t.as g=.int .i64 N:=kI k (by simp);simp only[aV,y6,aZ,d,if_true];rfl;cases a
 exact h.elim
 case _ f=>
  let⟨c,m,a,b⟩:=qL h;simp only[e1,eE]at a;let⟨rfl,rfl⟩:=a;exact rQ (by simp only[aV]<;>rfl) b
 case _ f a4 K=>
  split at h;rename_i af H ax E;let⟨c,m,a,b⟩:=qL h;let⟨i,j,r,ah⟩:=QS (L:=t.as) E a;refine rQ ?_ b;simp_all[aV,jE];grind
 case _ f g=>
  split at h;rename_i d;let⟨c,m,a,b⟩:=qL h;refine rQ ?_ b;have o:=a;unfold vW at o;split at o;rename_i V M;have k:=kI M (by simp);simp only[e1,eE]at o;let⟨rfl,rfl⟩:=o;simp only[aV,d,k,AV.pl,sS,vW];rfl;grind;grind
 case _ g V=>
  split at h;rename_i C;let⟨c,m,a,b⟩:=qL h;refine rQ ?_ b;have o:=a;unfold tP at o;split at o;rename_i id M;have k:=kI M (by simp);have a0:c.pl=c:=by
   split at o;split at o<;>simp only[e1,eE]at o<;>rw[<-o.1]<;>rfl
   simp at o
  rw[M]at a;replace k:l G t.as g=.pB id:=k;simp only[aV,k,C,if_true,sS];rw[show t.as.hp=t.hp from rfl,a,a0];rfl;grind;grind
 case _ f g bi am bm=>
  split at h;rename_i bD E;let⟨w,a,b⟩:=h5 h;exact ku (adm E a) b;grind
 case _ f g W=>
  split at h;rename_i aA d;split at h;rename_i ai ak;split at h;rename_i hp;split at h;rename_i n Y k;refine⟨.lp n (Y+ai.offset),t,?_,rfl,h⟩;simp only[aV,fS,vT,d,ak,Bg k];rw[if_pos hp];rfl;rename_i c k;let⟨w,a,b⟩:=h5 h;let⟨i,j,r⟩:=Kl (L:=t.as) a;refine ku ?_ b;simp_all[aV,fS,vT,Dp];grind;grind;grind;grind
 case _ f g W=>
  split at h;rename_i aA d;split at h;rename_i ai ak;split at h;rename_i X;let⟨w,a,b⟩:=h5 h;refine ku ?_ b;simp_all[aV,fS,ads];grind;grind;grind
 case _ f g au=>
  split at h;rename_i len y d;split at h;rename_i hp;split at h;rename_i n Y k;split at h;rename_i be N am;split at h;rename_i x;refine⟨.lp n (Y+N.toNat*bh P y),t,?_,rfl,h⟩;simp only[aV,fS,rG,d,Bg k,kI am (by simp),AV.pl];rw[if_pos ⟨x.1,x.2,hp⟩];rfl;grind;grind;rename_i c k;let⟨w,a,b⟩:=h5 h;let⟨i,j⟩:=adr d hp k a;refine ku ?_ b;simp_all[aV,fS];grind;grind;rename_i y d;split at h;rename_i hp
  let⟨w,a,b⟩:=h5 h;let⟨i,j⟩:=adq d hp a;refine ku ?_ b;simp_all[aV,fS];grind;grind
 case _ f g au=>
  split at h;rename_i d;let⟨w,a,b⟩:=h5 h;refine ku ?_ b;simp_all[aV,fS,adt];grind
 case _ f T n ok=>
  split at h;rename_i S O d;split at h;rename_i q H e J;let⟨w,a,b⟩:=h5 h;exact ku (adp d e J a) b;grind;grind
 case _ f T n=>
  split at h;rename_i S O d;split at h;rename_i q H e J;let⟨c,m,a,b⟩:=qL h;let⟨i,j,r,ah⟩:=adk (L:=t.as) d e J a;refine rQ ?_ b;simp_all[aV,jE];grind;grind
 case _ _ T ca c=>
  let⟨m,a,b⟩:=h5 h;let⟨i,j,r⟩:=adl (L:=t.as) a (l G t.as c) (qM t c);refine rQ ?_ b;simp only[aV,jE j,jE r,i];rfl
 case _ f T n c=>
  split at h;rename_i S O d;split at h;rename_i q e;let⟨m,a,b⟩:=h5 h;let⟨i,j,r⟩:=QT (L:=t.as) d e a (l G t.as c) (qM t c);refine rQ ?_ b;simp only[aV,jE j,jE r,i];rfl;grind;grind
 case _ f T n c=>
  split at h;rename_i S O d;split at h;rename_i q e;let⟨m,a,b⟩:=h5 h;let⟨i,j,r⟩:=QT (L:=t.as) d e a (l G t.as c) (qM t c);refine rQ ?_ b;simp only[aV,jE j,jE r,i];rfl;grind;grind
 case _ g au=>
  let⟨w,a,b⟩:=h5 h;exact ku (ado a) b
 case _ g _ f ok=>
  split at h;exact h.elim;rename_i q x d;split at h;exact h.elim;rename_i a9;let⟨w,a,b⟩:=h5 h;unfold A5 at a;split at a;rename_i cc c M;split at a;rename_i ba;simp at a;subst a;refine ku ?_ b;simp_all[kI,aV,AV.pl];grind;grind;grind
 case _ K=>
  grind[adh]
 grind
end
variable{km:KD}{kj:TypeId}
variable{fX:Option Tmp}{dP:Call}{re:EV -> WS -> Prop}
variable{z:Nat}
variable{dM:Operand}
variable{ju:WS -> Prop}
section
variable{P:Program}{G:Nat->Option (List AV)}{A:bR}{C:fq}{An:Nat->bR}{X:fq}{hc:Oper->Bool}
theorem adv{a b:AV}(h:aM M c9 a.pl b):aM M c9 a b:=by
 cases a<;>first|exact h|(cases h;exact .undef _ _)
theorem Gk:∀{a b:List AV},b6 L.hp c9 (a.map AV.pl) b->qt L c9 a b
 |[],_,h=>by cases h;exact .nil
 |v::a,_,h=>by
  cases h with
  |cons _ _ d _ e h c=>exact .cons _ _ _ _ (.of _ _ _ (adv h)) (Gk c)
theorem Gl(a:WS)(b:List Operand):(b.map (l G a.as)).map AV.pl=(b.map (bX G a)).map AV.pl:=by
 grind[List.map_map,List.map_congr_left,qM]
theorem adw{b a:AV}(h:aM M c9 b a):a.pl=a:=by cases h<;>rfl
theorem Dq(a:Option Tmp)(c:EV)(b:WS):(nx a c b).as=gj a (c.val,b.as):=by
 rcases a with _|d;rfl;simp[nx,gj,WS.as,QJ]
def zt(P:Program)(G:Nat->Option (List AV))(A:bR)(An:Nat->bR)(X:fq)(hc:Oper->Bool)(f:Array Oper)(c:WS)(b:Oper)(e:WS->Prop):Prop:=
 ∃d a,a.env=c.env/\er P G An X hc A f b c.as (nx b.dst d a).as/\e (nx b.dst d a)
theorem adx(f:ga o t.as B=aa ad)(h:zs P G A t B.dst B.op λb a=>ju (nx B.dst b a)):zt P G A An X hc o t B ju:=by
 let⟨b,a,c,d,e⟩:=h;refine⟨b,a,d,?_,e⟩;rw[Dq];exact .op _ f c
theorem Kp{args d:List AV}(g:∀U c b r a,C U c b r a->k1 P G An X U c b r a)(l:B.op=.call dP)(k:hc B=ad)(m:ga o t.as B=aa ad)(j:ja P G t.as dP=aa (U,args))(i:args.map AV.pl=d.map AV.pl)
 (h:ch C U d t.hp λr b=>ju (nx B.dst (.av r) {t with hp:=b})):zt P G A An X hc o t B ju:=by
 let⟨r,a,e,f⟩:=h;refine⟨.av r,{t with hp:=a},rfl,?_,f⟩;rw[Dq];exact .uQ dP U args r a k m l j (by rw[i];exact g _ _ _ _ _ e)
theorem Kq{args a:List AV}{r:AV}(g:∀U d b r c,C U d b r c->k1 P G An X U d b r c)(n:B.op=.call dP)(k:hc B=ab)(s:ga o t.as B=aa ad)(j:ja P G t.as dP=aa (U,args))
 (l:c9≠.res)(i:qt t.as c9 args a)(q:PR C U a r)(m:c9=.cb->NB r)(h:ju (nx B.dst (.av r) t)):zt P G A An X hc o t B ju:=by
 let⟨u,p,f,e⟩:=q;refine⟨.av r,t,rfl,?_,h⟩;rw[Dq];have:(EV.av r).val=r:=adw e;rw[this];exact .uP dP U c9 args a u r p k s n j l i (g _ _ _ _ _ f) e m
theorem ady(a:List AV):(a.map AV.pl).map AV.pl=a.map AV.pl:=by
 simp
theorem QZ{name:String}{a:Nat×Option (Nat×Bool)}(h:look u (J4 P name)=aa a):A8 P name u=aa a:=by
 have:∀b:List Nat,look u (b.filterMap λu=>(A8 P name u).map λa=>(u,a))=aa a->A8 P name u=aa a:=by
  intro b;induction b with
  |nil=>grind[look]
  |cons g b e=>
   intro c;simp only[OB]at c;split at c;exact e c;rename_i f d;simp only[dj]at d;grind[look]
 exact this _ h
theorem adz{r:Operand}{name:String}{args:List AV}(v:dP.callee=.invoke r name)(h:rL (J4 P name) (bX G t r) (dP.args.toList.map λc=>(bX G t c).pl) t.hp=aa (U,args)):
 ∃d,ja P G t.as dP=aa (U,d)/\d.map AV.pl=args.map AV.pl:=by
 have g:∀w:AV,(w.pl::dP.args.toList.map (l G t.as)).map AV.pl=(w.pl::dP.args.toList.map λc=>(bX G t c).pl).map AV.pl:=by
  intro w;simp only[eg,Gl]
  congr 1
  simp[vP,EZ]
 unfold rL at h;split at h;rename_i B C k;have x:=kI k (by simp);split at h;rename_i f b;have a:=QZ b;simp only[e1,eE]at h;let⟨rfl,rfl⟩:=h;grind[l,A8,ja,AV.pl];rename_i f A m b;have a:=QZ b;simp only[dj,eE]at h;obtain⟨e,j,rfl,rfl⟩:=h;refine⟨e.pl::dP.args.toList.map (l G t.as),?_,g e⟩;unfold A8 at a;split at a;rename_i y u;split at a;simp at a;rename_i p q s;split at a;rename_i i
 simp only[e1,eE]at a;let⟨rfl,rfl,rfl⟩:=a;let⟨n,o⟩:=QP (L:=t.as) i j;grind[ja,AV.pl];grind;grind;grind;simp at h;simp at h
theorem adA(n:∀a w u r v,C a w u r v->k1 P G An X a w u r v)(p:B.op=.call dP)(s:ga o t.as B=aa ad)
 (h:J5 P G C t (hc B) dP λD z=>ju (nx B.dst D z)):zt P G A An X hc o t B ju:=by
 unfold J5 at h;split at h;rename_i a m;have g:ja P G t.as dP=aa (a,dP.args.toList.map (l G t.as)):=by
  simp[ja,m,l]
 split at h;grind[Kp,Gl];rename_i i;have j:hc B=false:=by simpa using i
 let⟨y,x,r,k,c,d,e,f⟩:=h;exact Kq n p j s g k (Gk (by rw[Gl];exact c)) d e f;rename_i K _ m;let⟨a,args,b,h⟩:=qL h;unfold lK at b;split at b;rename_i E first cap F;simp only[e1,eE]at b;let⟨rfl,rfl⟩:=b;have H:=kI F (by simp);have g:ja P G t.as dP=aa (E,first.map AV.pl++dP.args.toList.map (l G t.as)++cap.map AV.pl):=by
  simp only[ja];rw[m];simp only[H,AV.pl]
 have q:(first.map AV.pl++dP.args.toList.map (l G t.as)++cap.map AV.pl).map AV.pl=(first.map AV.pl++(dP.args.toList.map λI=>(bX G t I).pl)++cap.map AV.pl).map AV.pl:=by
  simp only[hE,ady,Gl]
  congr 2
  simp[vP,EZ]
 split at h;grind[Kp];rename_i i;have j:hc B=false:=by simpa using i
 let⟨y,x,r,k,c,d,e,f⟩:=h;exact Kq n p j s g k (Gk (by rw[q];exact c)) d e f;grind;rename_i r name m;let⟨a,args,b,h⟩:=qL h;let⟨J,g,q⟩:=adz m b;split at h;grind[Kp];rename_i i;have j:hc B=false:=by simpa using i
 let⟨y,x,r,k,c,d,e,f⟩:=h;exact Kq n p j s g k (Gk (by rw[q];exact c)) d e f;grind
theorem Gm(e:∀d c a r b,C d c a r b->k1 P G An X d c a r b)(f:ga o t.as B=aa ad)(h:FL P G C A hc t B ju):zt P G A An X hc o t B ju:=by
 grind[FL,adx,QY,adA]
theorem Dr{f:Nat}{d:AV}{b:Bool}(e:d.pl=.bool b):∀{a:List (Nat×EV)},look f a=aa (.av d)->fP (we f (.av (.bool b)) a)=fP a
 |[],h=>by simp[look]at h
 |(j,i)::a,h=>by
  simp only[look]at h;simp only[we,fP,eg];split at h;rename_i c;simp only[e1]at h;subst h;rw[if_pos c];have g:(EV.av d).val=.bool b:=e;simp only[eg,g];rfl;rename_i c;rw[if_neg c];have:=Dr e h;grind[fP]
theorem Gn{a:WS}(b:a.env=t.env)(c:fX≠aa U):look U (nx fX rf a).as.env=look U t.as.env:=by
 rcases fX with _|d;simp[nx,WS.as,b];simp only[nx,WS.as,b,nC];grind[fO]
theorem Kr{e:Array Oper}(z:∀x w u r v,C x w u r v->k1 P G An X x w u r v){k:WS->Prop}:∀(n:List Oper)(d:Nat)(a:WS),(∀g,n[g]?=e[d+g]?)->qF P G C A hc e n a k->
 ∃b,qA P G An X A hc e (List.range' d (Z n)) a.as b.as/\(∀c,c∉sX n->look c b.as.env=look c a.as.env)/\k b
 |[],d,a,_,h=>⟨a,.nil _,λ_ _=>rfl,h⟩
 |o::f,d,a,F,h=>by
  have I:e[d]?=aa o:=by have:=F 0;simpa using this.symm
  have H:∀g,f[g]?=e[d+1+g]?:=λg=>by
   have:=F (g+1);grind
  have W:∀c,c∉sX (o::f)->o.dst≠aa c/\c∉sX f:=by
   intro c j;unfold sX at j⊢;simp only[OB]at j;split at j;rename_i m;exact⟨by rw[m];simp,j⟩;rename_i m;simp only[b5,not_or]at j;exact⟨by rw[m];simpa usingλQ=>j.1 Q.symm,j.2⟩
  have go:∀i:WS,i.as=a.as->zt P G A An X hc e i o (λb=>qF P G C A hc e f b k)->∃b,qA P G An X A hc e (List.range' d (Z (o::f))) a.as b.as/\(∀c,c∉sX (o::f)->look c b.as.env=look c a.as.env)/\k b:=by
   intro i y p;let⟨m,R,S,T,K⟩:=p;let⟨b,s,O,r3⟩:=Kr z f (d+1) _ H K;refine⟨b,?_,?_,r3⟩;rw[kD,ary];exact .cons d o _ _ _ _ I (by grind) s;grind[Gn]
  have skip:∀i:WS,i.as=a.as->ga e a.as o=aa ab->qF P G C A hc e f (nx o.dst .sk i) k->∃b,qA P G An X A hc e (List.range' d (Z (o::f))) a.as b.as/\(∀c,c∉sX (o::f)->look c b.as.env=look c a.as.env)/\k b:=by
   intro i y N p;let⟨b,s,O,r3⟩:=Kr z f (d+1) _ H p;refine⟨b,?_,?_,r3⟩;rw[kD,ary];refine .cons d o _ _ _ _ I ?_ s;rw[Dq,y];exact .skip N;grind[Gn]
  simp only[qF]at h;split at h;rename_i E;exact go a rfl (by grind[Gm,ga]);rename_i g t E;split at h;rename_i J M;split at h;rename_i ac q;unfold gd at h;split at h;rename_i l B;have L:look J a.as.env=aa (.bool l):=by
   simp only[WS.as,nC,q,kd,EV.val,B]
  have Y:ga e a.as o=aa (l==t):=by
   simp[ga,E,M,L]
  split at h;rename_i D;subst D;have U:WS.as {a with env:=we J (.av (.bool l)) a.env}=a.as:=by
   simp[WS.as,Dr B q]
  grind[Gm];rename_i D;have V:l= !t:=by cases l<;>cases t<;>simp_all
  grind[WS.as,we,bool,Dr];grind;rename_i q;refine skip a rfl ?_ h;grind[look,WS.as,nC,EV.val,ga];grind;grind
variable{fo:Prop}
theorem adB(F:∀l k i r j,C l k i r j->k1 P G An X l k i r j)(h:qF P G C A hc o [B] t ju):
 ∃a,er P G An X hc A o B t.as a.as/\(∀b,B.dst≠aa b->look b a.as.env=look b t.as.env)/\ju a:=by
 have go:∀c:WS,c.as=t.as->zt P G A An X hc o c B ju->∃a,er P G An X hc A o B t.as a.as/\(∀b,B.dst≠aa b->look b a.as.env=look b t.as.env)/\ju a:=by
  intro c m e;let⟨y,x,z,D,E⟩:=e;exact(by grind[Gn])
 have skip:∀c:WS,c.as=t.as->ga o t.as B=aa ab->ju (nx B.dst .sk c)->∃a,er P G An X hc A o B t.as a.as/\(∀b,B.dst≠aa b->look b a.as.env=look b t.as.env)/\ju a:=by
  intro c m w e;refine⟨_,?_,by grind[Gn],e⟩;rw[Dq,m];exact .skip w
 simp only[qF]at h;split at h;rename_i q;exact go t rfl (by grind[Gm,ga]);rename_i K g q;split at h;rename_i s v;split at h;rename_i L f;unfold gd at h;split at h;rename_i d n;have u:look s t.as.env=aa (.bool d):=by
  simp only[WS.as,nC,f,kd,EV.val,n]
 have J:ga o t.as B=aa (d==g):=by
  simp[ga,q,v,u]
 split at h;rename_i p;subst p;have H:WS.as {t with env:=we s (.av (.bool d)) t.env}=t.as:=by
  simp[WS.as,Dr n f]
 grind[Gm];rename_i p;have I:d= !g:=by cases d<;>cases g<;>simp_all
 grind[WS.as,we,bool,Dr];grind;rename_i f;refine skip t rfl ?_ h;grind[look,WS.as,nC,EV.val,ga];grind;grind
structure Ds where
 i:Nat
 s:AS
 v:AV
structure Ks(P:Program)(G:Nat->Option (List AV))(An:Nat->bR)(X:fq)(A:bR)(hc:Oper->Bool)(ops:Array Oper)(r:Ds)(S:WS):Prop where
 ex:∃x d,ops[r.i]?=aa x/\er P G An X hc A ops x r.s (et x.dst r.v r.s)/\(aC P A hc x=.pure\/aC P A hc x=.rd)/\x.dst=aa d/\look d S.as.env=aa r.v/\Ag ops x r.s S.as
def Ku(P:Program)(G:Nat->Option (List AV))(An:Nat->bR)(X:fq)(A:bR)(hc:Oper->Bool)(c:Array Oper)(r:Ds)(a:Nat×List Obj×List (Nat×List AV)):Prop:=
 ∀b,c[r.i]?=aa b->er P G An X hc A c b {r.s with hp:=a.2.1,bx:=a.2.2} (et b.dst r.v {r.s with hp:=a.2.1,bx:=a.2.2})
theorem adC{r:Ds}(C:Ks P G An X A hc o r t)(m:o[r.i]?=aa B)(h:FM P G A t B)(F:Nat):Ku P G An X A hc o r (F,t.as.hp,t.as.bx):=by
 let⟨U,q,c,N,w,f,k,x⟩:=C.ex;rw[m]at c;injection c with c;subst c;intro V d;rw[m]at d;injection d with d;subst d;unfold FM at h;rw[f]at h;split at h;rename_i M g y;injection g with g;subst g;split at h;rename_i b D;have Q:b.val=r.v:=by
  simp only[WS.as,nC,D,kd,e1]at k;exact k
 rw[<-f]at h;let⟨e,p,H,_,a⟩:=QY h;have O:e.val=b.val:=by
  cases e with
  |av K=>
   cases b with
   |av L=>simp only[ob]at a;rw[a]
   |lp _ _=>exact a.elim
   |sk=>exact a.elim
  |lp n S=>
   cases b with
   |lp R T=>
    simp only at a;split at a;rename_i l;rw[l.1,l.2];exact a.elim
   |av _=>exact a.elim
   |sk=>exact a.elim
  |sk=>cases b<;>exact a.elim
 have step:er P G An X hc A o B t.as (gj B.dst (e.val,p.as)):=.op _ (by simp[ga,y]) H;let⟨J,j,u,_⟩:=pJ step w;have E:J=r.v:=by
  rw[f]at j;have:=congrArg (λI:AS=>look q I.env) j;simp only[et,gj,fO,if_true,e1]at this;grind
 subst E;exact u {r.s with hp:=t.as.hp,bx:=t.as.bx} (λn z=>(x n z).symm) (.inr ⟨rfl,λ_ _=>rfl⟩);grind;grind
theorem Q0:∀{a:List Nat},FN P G A o bq t fo a->fo/\∀i∈a,i∈bq/\∃b,o[i]?=aa b/\FM P G A t b
 |[],h=>⟨h,by simp⟩
 |i::a,h=>by
  simp only[FN]at h;split at h;rename_i e;split at h;rename_i b f;let⟨c,d⟩:=Q0 h.2;grind;grind;grind
theorem Gp(B:∀R O M r N,C R O M r N->k1 P G An X R O M r N)(F:∀i g a,o[i]?=aa a->ry i g=ad->aC P A hc a=.rd):∀(d done p:List Nat)(f:WS)(k:List Ds),d.Nodup->(∀g∈p,g∉d)->(∀r∈k,r.i∈done/\r.i∉d)->(∀r∈k,r.i∈p->Ks P G An X A hc o r f)->
 C6 P G C A hc o ry d done p f ju->∃e c,wb P G An X A hc o ry d e f.as c.as/\(∀b,(∀i∈d,∀a,o[i]?=aa a->a.dst≠aa b)->look b c.as.env=look b f.as.env)/\ju c/\∀r∈k,∀m∈e,ry r.i m.1=ad->Ku P G An X A hc o r m
 |[],done,p,f,k,_,_,_,_,h=>⟨[],f,.nil _,λ_ _=>rfl,h,by simp⟩
 |i::d,done,p,f,k,ax,Y,a2,aA,h=>by
  have I:=kZ.1 ax;have Z:∀a,∀g∈FO o a p,g∉d:=λa g H=>λh=>Y g ((l4.1 H).1) (by simp[h]);have V:∀r∈k,r.i∈done/\r.i∉d:=by grind
  simp only[C6]at h;split at h;exact h.elim;rename_i a s;let⟨l,u,J,h⟩:=adB B h;have W:∀r∈k,r.i∈FO o a p->Ks P G An X A hc o r l:=by
   intro r hr t;simp only[FO,l4]at t;let⟨aj,n⟩:=t;let⟨ac,z,S,af,ah,T,a0,ai⟩:=(aA r hr aj).ex;rw[S]at n;simp only[hX,IU,bc,bne_iff_ne,ne_eq,eL]at n;have az:∀b,(b=z\/b∈ac.looksAt o)->a.dst≠aa b:=by
    intro b j;rcases n with n|⟨n,ak⟩;rw[n];simp;rcases j with rfl|j;rw[<-T];exact n;exact ak b j
   refine⟨ac,z,S,af,ah,T,?_,λb j=>?_⟩;grind;rw[J b (az b (.inr j))];exact ai b j
  have L:∀(c:WS),(∀b,(∀g∈d,∀a,o[g]?=aa a->a.dst≠aa b)->look b c.as.env=look b l.as.env)->∀b,(∀g∈i::d,∀a,o[g]?=aa a->a.dst≠aa b)->look b c.as.env=look b f.as.env:=by
   intro c aR b j;rw[aR b (λg H=>j g (by simp[H])),J b (j i (by simp) a s)]
  by_cases q:aC P A hc a=.jb;rw[if_pos q]at h;simp only[q,reduceCtorEq,decide_false,arz,vQ,eZ,if_false]at h;let⟨h,a3⟩:=Q0 h;let⟨e,c,v,w,r3,r4⟩:=Gp B F d done _ l k I.2 (Z a) V W h;refine⟨(i,l.as.hp,l.as.bx)::e,c,.zh i a d e _ _ _ s u q v,L c w,r3,?_⟩;grind[adC];rw[if_neg q]at h;by_cases D:aC P A hc a=.pure\/aC P A hc a=.rd
  have K:(y (aC P A hc a=.pure)||y (aC P A hc a=.rd))=true:=by simpa using D
  simp only[K,if_true,cZ]at h;let⟨x,Q,aZ,_⟩:=pJ u D;have aE:er P G An X hc A o a f.as (et a.dst x f.as):=by rw[<-Q];exact u
  have key:∃e c,wb P G An X A hc o ry d e l.as c.as/\(∀b,(∀i∈d,∀a,o[i]?=aa a->a.dst≠aa b)->look b c.as.env=look b l.as.env)/\ju c/\∀r∈(⟨i,f.as,x⟩:Ds)::k,∀m∈e,ry r.i m.1=ad->Ku P G An X A hc o r m:=by
   refine Gp B F d (i::done) _ l (⟨i,f.as,x⟩::k) I.2 ?_ ?_ ?_ h;grind;grind;intro r hr t;split at t;rename_i U;simp only[bc,sH,eL,bne_iff_ne,ne_eq]at U;let⟨⟨z,E⟩,am⟩:=U;rcases b5.1 hr with rfl|hr;refine⟨a,z,s,aE,D,E,?_,λb j=>J b (am b j)⟩;grind[et,gj,fO];grind;rcases b5.1 hr with rfl|hr;exact absurd (by grind) (Y i ((l4.1 t).1));grind
  let⟨e,c,v,w,r3,r4⟩:=key;refine⟨e,c,.still i a d e _ _ _ s u q v ?_,L c w,r3,by grind⟩;intro m au E;exact⟨x,Q,r4 ⟨i,f.as,x⟩ (by simp) m au E a s⟩;have K:(y (aC P A hc a=.pure)||y (aC P A hc a=.rd))=false:=by simpa using D
  simp only[K,eZ,if_false,vQ]at h;let⟨e,c,v,w,r3,r4⟩:=Gp B F d done _ l k I.2 (Z a) V W h;exact⟨e,c,.still i a d e _ _ _ s u q v (by grind),L c w,r3,r4⟩
theorem adD(a c:Nat)(b:Oper)(d:o[a]?=aa b)(h:A1 P A hc o a c=ad):aC P A hc b=.rd:=by
 grind[A1]
variable{dR:K}{cz:Code}{jv:fg}
theorem Gq(a:WS):(uY A a).as=sU A a.as:=by
 simp[uY,sU,WS.as,QK]
theorem Kv(b:Operand)(a:WS):(C7 A b a).as=qu A b a.as:=by
 unfold C7 qu;grind[WS.as,Kh]
theorem Gs{a:List (Nat×K)}(h:look U (k0 bq a)=aa dR):look U a=aa dR:=CU bq U a dR h
theorem adE{a:List (Nat×K)}(h:look N (lz U a)=aa dR):look N a=aa dR:=AW U N a dR h
theorem xT(b:U∈bq):∀a:List (Nat×K),look U (k0 bq a)=look U a
 |[]=>rfl
 |(e,f)::a=>by
  simp only[k0];split;simp only[look];rw[xT b a];rename_i d;have:e≠U:=λc=>d (c▸b);simp only[look,this,if_false];exact xT b a
theorem Kw:∀{a:List (Nat×K)},look U a=aa dR->U∈a.map (·.1)
 |[],h=>by simp[look]at h
 |(b,c)::a,h=>by
  simp only[look]at h;split at h;grind;simp[Kw h]
theorem Gt(dc:List Nat)(b:List AV):∀(i:Nat)(a:List (Nat×EV)),(mL dc b i a).map (·.1)=a.map (·.1)
 |_,[]=>rfl
 |i,(c,.lp d e)::a=>by simp[mL,Gt dc b i a]
 |i,(c,.av f)::a=>by simp only[mL];split<;>simp[Gt dc b _ a]
 |i,(c,.sk)::a=>by simp only[mL];split<;>simp[Gt dc b _ a]
theorem Bh(dc:List Nat)(c:List AV)(b:U∉dc):∀(i:Nat)(a:List (Nat×EV)),look U (mL dc c i a)=look U a
 |_,[]=>rfl
 |i,(d,.lp g h)::a=>by simp[mL,look,Bh dc c b i a]
 |i,(d,.av j)::a=>by
  simp only[mL];split;rename_i f;have:d≠U:=λe=>b (e▸f);simp[look,this,Bh dc c b _ a];simp[look,Bh dc c b _ a]
 |i,(d,.sk)::a=>by
  simp only[mL];split;rename_i f;have:d≠U:=λe=>b (e▸f);simp[look,this,Bh dc c b _ a];simp[look,Bh dc c b _ a]
theorem Q1(b:List AV):∀(i:Nat)(a:List (Nat×List AV)),(zj b i a).map (·.1)=a.map (·.1)
 |_,[]=>rfl
 |i,(d,c)::a=>by simp[zj,Q1 b _ a]
theorem Bi{dc:List Nat}{env:List (Nat×EV)}:∀{c:List (Nat×EV)}{b:List AV},rM dc env c=aa b->Z b=uZ dc c
 |[],_,h=>by simp[rM]at h;subst h;rfl
 |(d,.lp e f)::c,b,h=>by
  simp only[rM]at h;split at h;split at h;simp only[uZ];exact Bi h;simp at h;simp at h
 |(d,.av g)::c,b,h=>by
  simp only[rM]at h;split at h;simp at h;simp at h;split at h;rename_i a;simp only[dj]at h;obtain⟨r,h,rfl⟩:=h;simp only[uZ,a,if_true,kD,Bi h];rename_i a;simp only[uZ,a,if_false];exact Bi h
 |(d,.sk)::c,b,h=>by
  simp only[rM]at h;split at h;simp at h;simp at h;split at h;rename_i a;simp only[dj]at h;obtain⟨r,h,rfl⟩:=h;simp only[uZ,a,if_true,kD,Bi h];rename_i a;simp only[uZ,a,if_false];exact Bi h
theorem Q2{a r:List AV}{b:AV}(h:a.drop U=b::r):g a U=b/\a.drop (U+1)=r:=by
 have c:U<Z a:=by
  have:=congrArg List.length h;simp at this;omega
 grind[List.drop_eq_getElem_cons,g,List.getD,List.getElem?_eq_getElem]
theorem Bj{dc:List Nat}{env:List (Nat×EV)}{p:List AV}{k:Nat}:∀{g:List (Nat×EV)}{i m:List AV}{j:Nat},rM dc env g=aa i->p.drop j=i++m->
 (k∉dc->∀c,look k g=aa c->∀w,look k (fP env)=aa w->w=c.val)->∀b,look k (fP (mL dc p j g))=aa b->look k (fP env)=aa b
 |[],_,_,_,_,_,_,b,a=>by simp[mL,fP,look]at a
 |(s,.lp u z)::g,i,m,j,h,e,q,b,a=>by
  simp only[rM]at h;split at h;rename_i y A l;split at h;rename_i x;simp only[mL,fP,eg,look]at a;split at a;grind[nC];rename_i d;refine Bj h e (by grind[look]) b a;simp at h;simp at h
 |(s,.av B)::g,i,m,j,h,e,q,b,a=>by
  simp only[rM]at h;split at h;simp at h;simp at h;rename_i c t l;split at h;rename_i f;simp only[dj]at h;obtain⟨r,h,rfl⟩:=h;let⟨n,o⟩:=Q2 e;simp only[mL,f,if_true,fP,eg,look]at a;split at a;rename_i d;subst d;simp only[e1]at a;rw[nC,l,<-a,n];show aa c.val=aa c.v.pl;grind[EV.QM];rename_i d;exact Bj h o (by grind[look]) b a;rename_i f;simp only[mL,f,if_false,fP,eg,look]at a;split at a
  grind[Option.some.injEq,look,nC];rename_i d;exact Bj h e (by grind[look]) b a
 |(s,.sk)::g,i,m,j,h,e,q,b,a=>by
  simp only[rM]at h;split at h;simp at h;simp at h;rename_i c t l;split at h;rename_i f;simp only[dj]at h;obtain⟨r,h,rfl⟩:=h;let⟨n,o⟩:=Q2 e;simp only[mL,f,if_true,fP,eg,look]at a;split at a;rename_i d;subst d;simp only[e1]at a;rw[nC,l,<-a,n];show aa c.val=aa c.v.pl;grind[EV.QM];rename_i d;exact Bj h o (by grind[look]) b a;rename_i f;simp only[mL,f,if_false,fP,eg,look]at a;split at a
  grind[Option.some.injEq,look,nC];rename_i d;exact Bj h e (by grind[look]) b a
theorem Q3{k:List (Nat×List AV)}{a:List AV}:∀{j:List (Nat×List AV)}{f:List AV}{d:Nat},FP k j=aa f->a.drop d=f->∀e,look U (zj a d j)=aa e->look U k=aa e
 |[],_,_,_,_,e,c=>by simp[zj,look]at c
 |(o,g)::j,f,d,h,i,e,c=>by
  simp only[FP]at h;split at h;rename_i l m;split at h;rename_i hc;simp only[dj]at h;obtain⟨r,h,rfl⟩:=h;have b:d+Z g<=Z a\/Z g=0:=by
   have:=congrArg List.length i;simp at this;omega
  have n:tS a (Z g) d=l:=by
   rcases b with b|b;rw[Ki a _ _ b,i,hc,List.take_left']<;>rfl
   rw[b];simp only[tS];exact(tH (by omega)).symm
  simp only[zj,look]at c;split at c;grind;refine Q3 h ?_ e c;rw[<-vM,i,hc,List.drop_left']<;>rfl
  simp at h;simp at h
theorem Kx{dc:List Nat}{T:WS}{c:List AV}(h:C8 dc T t=aa c)(j:∀a,a∉dc->∀e,look a T.env=aa e->∀w,look a t.as.env=aa w->w=e.val):
 (∀a b,look a (T.fill dc c M).as.env=aa b->look a t.as.env=aa b)/\(∀a b,look a (T.fill dc c M).as.bx=aa b->look a t.as.bx=aa b):=by
 unfold C8 at h;split at h;rename_i k f g i;simp only[e1]at h;subst h;refine⟨λa b d=>Bj g (m:=f) (j:=0) rfl (j a) b d,λa b d=>Q3 i ?_ b d⟩;grind[Bi];simp at h
theorem Dt:∀{e:List Oper}{b:WS},U∉sX e->look U (zk P A e b).env=look U b.env
 |[],b,_=>rfl
 |o::r,b,a=>by
  have c:o.dst≠aa U/\U∉sX r:=by
   unfold sX at a⊢;simp only[OB]at a;split at a;rename_i d;exact⟨by rw[d];simp,a⟩;rename_i d;simp only[b5,not_or]at a;exact⟨by rw[d];simpa usingλg=>a.1 g.symm,a.2⟩
  simp only[zk];split;rename_i f h;have i:U≠f:=by grind
  split;split<;>rw[Dt c.2]<;>exact(by grind[fO])
  split<;>rw[Dt c.2]<;>exact(by grind[fO])
  rw[Dt c.2];simp_all[fO];exact Dt c.2
theorem adF(c:U∉hY cz)(h:look U (C9 P A cz t).env=aa rf):look U t.env=aa rf:=by
 unfold C9 at h;split at h;have:=Gs h;rw[Dt c]at this;exact this;have:∀(a:List Nat)(env:List (Nat×EV)),(∀b∈a,b≠U)->look U (FR a env)=look U env:=by
  intro a;induction a with
  |nil=>intro env _;rfl
  |cons b a d=>
   grind[FR,fO]
 grind[Gs]
theorem Q4{Q:fg->WS->Prop}{dc:List Nat}{T:WS}{R:List AV->List Obj->Prop}(h:meet dc T Q R jv t):(jv=.norm/\∃a,C8 dc T t=aa a/\R a t.hp)\/(jv≠.norm/\Q jv t):=by
 grind[meet]
def Du(code:Code)(c d:WS):Prop:=∀a b,a∉hY code->look a d.as.env=aa b->look a c.as.env=aa b
def Gu(P:Program)(G:Nat->Option (List AV))(A:bR)(An:Nat->bR)(X:fq)(code:Code)(b:WS)(Q:fg->WS->Prop):Prop:=
 ∃c a,iE P G An X A code b.as c a.as/\Du code b a/\Q c a
theorem Q5{id:Nat}{Q:fg->WS->Prop}(m:∀g f d r e,C g f d r e->k1 P G An X g f d r e)(n:T=ad->FF P A hc o=ad/\o.toList.all (λa=>y (aC P A hc a≠.box)||a.dst.all λT=>uX T t.env)=ad)
 (h:qF P G C A hc o o.toList t λb=>Q .norm (uY A b)):Gu P G A An X (.region id o T) t Q:=by
 let⟨b,c,x,r3⟩:=Kr m o.toList 0 t (λv=>by simp) h;rw[yQ,<-aaC]at c;refine⟨.norm,uY A b,?_,?_,r3⟩;rw[Gq];rcases T with _|_;refine .region _ _ _ _ _ ?_;have:=c.ops;grind[JN];let⟨l,i⟩:=n rfl;refine .Fe _ _ _ _ _ (acy l ?_ c);intro v _ a s z T u;simp only[eL,hX,decide_eq_true_eq]at i;have q:a∈o.toList:=by
  have:=(kY.1 s);let⟨B,k⟩:=this;rw[<-k];simp
 rcases i a q with h|h;grind;rw[u]at h;exact Be (by grind);intro w D p j;rw[Gq]at j;have:=Gs j;rw[x w p]at this;exact this
theorem adG{id:Nat}{Q:fg->WS->Prop}(m:∀i f d r e,C i f d r e->k1 P G An X i f d r e)(b:C0 P A hc o bq=ad)(j:o.toList.all (λa=>y (aC P A hc a≠.box)||a.dst.all λg=>uX g t.env)=ad)
 (h:C6 P G C A hc o (A1 P A hc o) bq [] [] t λc=>Q .norm (uY A c)):Gu P G A An X (.region id o ad) t Q:=by
 have n:bq.Nodup:=by
  unfold C0 at b;simp only[bc,decide_eq_true_eq]at b;exact b.1.1.1.1
 let⟨E,c,u,D,r3,_⟩:=Gp m adD bq [] [] t [] n (by simp) (by simp) (by simp) h;refine⟨.norm,uY A c,?_,?_,r3⟩;rw[Gq];refine .Fe _ _ _ _ _ (acE b ?_ u);intro z _ a q v g s;simp only[eL,hX,decide_eq_true_eq]at j;have p:a∈o.toList:=by
  let⟨w,l⟩:=kY.1 q;rw[<-l];simp
 rcases j a p with h|h;grind;rw[s]at h;exact Be (by grind);intro B F x k;rw[Gq]at k;have:=Gs k;grind[hY,sX]
theorem Ky:∀(b:List Nat)(a:List (Nat×EV)),fP (lI b a)=lI b (fP a)
 |[],_=>rfl
 |k::b,a=>by
  show fP (lz k (lI b a))=lz k (lI b (fP a));rw[Kh,Ky b a]
theorem adH(h:xv (bX G t m) (bX G t dM) t.hp=aa M):l G t.as m=bX G t m/\l G t.as dM=bX G t dM:=by
 generalize a:bX G t m=c at h;generalize b:bX G t dM=d at h;unfold xv at h;split at h;exact⟨kI a (by simp),kI b (by simp)⟩;cases h
theorem Kz(Z:∀U l n r T,C U l n r T->k1 P G An X U l n r T):∀(code:Code)(b:WS)(Q:fg->WS->Prop),jd P G C A hc code b Q->Gu P G A An X code b Q:=by
 intro code;induction code with
 |skip=>intro b Q h;exact⟨.norm,b,.skip _ _,λ_ _ _ h=>h,h⟩
 |label s=>intro b Q h;exact⟨.norm,b,.label _ _ _,λ_ _ _ h=>h,h⟩
 |region id aR ax=>
  intro b Q h;simp only[jd]at h;split at h;grind[Q5,adG];rename_i aj;exact Q5 Z (λo=>absurd o aj) h
 |seq l J q I=>
  intro b Q h;simp only[jd]at h;split at h;rename_i am g s ah;let⟨n,v,ac⟩:=h5 h;let⟨t,F⟩:=adH (t:=b) v;refine⟨.norm,{b with env:=lI s b.env,hp:=n},?_,?_,ac⟩;rw[show({b with env:=lI s b.env,hp:=n}:WS).as={env:=lI s b.as.env,bx:=b.as.bx,hp:=n}by simp[WS.as,Ky]];exact .aa5 _ _ _ am g s n ah (by rw[t,F];exact v);intro a f c i;have:fP (lI s b.env)=lI s b.as.env:=Ky s b.env;simp only[WS.as]at i⊢
  rw[this]at i;exact(JG s _).1 a f i;split at h;let⟨k,d,m,j,e⟩:=q _ _ h;cases k with
  |norm=>
   let⟨k,y,z,D,B⟩:=I _ _ e;exact⟨k,y,.seq _ _ _ _ _ _ _ m z,λa f c i=>by
    simp only[hY,dm,not_or]at c;exact j a f c.1 (D a f c.2 i),B⟩
  |exit aA=>exact⟨_,d,.Jc _ _ _ _ _ _ m (by simp),λa f c i=>by
   simp only[hY,dm,not_or]at c;exact j a f c.1 i,e⟩
  |ret=>exact⟨_,d,.Jc _ _ _ _ _ _ m (by simp),λa f c i=>by
   simp only[hY,dm,not_or]at c;exact j a f c.1 i,e⟩
  unfold jn at h;let⟨k,d,m,j,e⟩:=q _ _ h;rcases Q4 e with⟨rfl,p,M,L⟩|⟨O,e⟩;let⟨k,y,z,D,B⟩:=I _ _ L;have H:∀a,a∉hY l->∀o,look a (C9 P A l b).env=aa o->∀w,look a d.as.env=aa w->w=o.val:=by
   intro a c o N w v;have t:=j a w c v;rw[WS.as,nC,adF c N]at t;simpa using t.symm
  let⟨u,E⟩:=Kx (M:=d.hp) M H;refine⟨k,y,.seq _ _ _ _ _ _ _ m (.sub _ _ _ _ _ _ u E rfl z),?_,B⟩;intro a f c i;simp only[hY,dm,not_or]at c;exact j a f c.1 (u a f (D a f c.2 i));exact⟨k,d,.Jc _ _ _ _ _ _ m O,λa f c i=>by
   simp only[hY,dm,not_or]at c;exact j a f c.1 i,e⟩
 |cond K l J q I=>
  intro b Q h;simp only[jd,ez]at h;have W:∀{x:WS}{S:Code},Du S (C7 A K b) x->(∀a,a∉hY (.cond K l J)->a∉hY S)->Du (.cond K l J) b x:=by
   intro x S R ak a f c i;have:=R a f (ak a c) i;rw[Kv]at this;unfold qu at this;split at this;grind[adE];exact this
  split at h;rename_i i;let⟨k,d,m,j,e⟩:=q _ _ h;refine⟨k,d,.cond _ _ _ _ _ _ _ ad ?_ ?_,W j (λa c=>?_),e⟩;grind[jE,Bf];grind[Kv];grind[hY];rename_i i;let⟨k,d,m,j,e⟩:=I _ _ h;refine⟨k,d,.cond _ _ _ _ _ _ _ ab ?_ ?_,W j (λa c=>?_),e⟩;grind[jE,Bf];grind[Kv];grind[hY];grind
 |block id l q=>
  intro b Q h;simp only[jd]at h;let⟨k,d,m,j,e⟩:=q _ _ h;cases k with
  |norm=>exact⟨_,d,.block _ _ _ _ _ _ m (by simp),j,e⟩
  |ret=>exact⟨_,d,.block _ _ _ _ _ _ m (by simp),j,e⟩
  |exit aE=>
   simp only at e;split at e;rename_i o;subst o;exact⟨_,d,.aa3 _ _ _ _ _ m,j,e⟩;rename_i o;exact⟨_,d,.block _ _ _ _ _ _ m (by grind),j,e⟩
 |loop l q=>
  intro b Q h;simp only[jd]at h;split at h;rename_i p M;have V:∀a,a∉hY l->∀p n,look a (b.fill (hY l) p n).as.env=look a b.as.env:=by
   intro a c p n;simp only[WS.fill,WS.as,nC,Bh _ p c]
  have H:∀d:WS,Du l b d->∀a,a∉hY l->∀o,look a b.env=aa o->∀w,look a d.as.env=aa w->w=o.val:=by
   intro d R a c o N w v;have t:=R a w c v;rw[WS.as,nC,N]at t;simpa using t.symm
  have key:=h (λp n=>Gu P G A An X (.loop l) (b.fill (hY l) p n) Q) ?_;let⟨k,x,m,j,e⟩:=key;let⟨u,E⟩:=Kx (M:=b.hp) M (H b (λ_ _ _ h=>h));exact⟨k,x,.sub _ _ _ _ _ _ u E rfl m,λa f c i=>u a f (j a f c i),e⟩;intro p n af;let⟨k,d,m,j,e⟩:=q _ _ af;have au:Du l b d:=λa f c i=>by rw[<-V a c p n];exact j a f c i
  rcases Q4 e with⟨rfl,Y,ai,L⟩|⟨O,e⟩;let⟨k,y,z,D,B⟩:=L;let⟨u,E⟩:=Kx (M:=d.hp) ai (H d au);refine⟨k,y,.loop _ _ _ _ _ _ m (.sub _ _ _ (b.fill (hY l) Y d.hp).as _ _ ?_ ?_ rfl z),?_,B⟩;intro a f c;have az:a∈(b.fill (hY l) p n).as.env.map (·.1):=by
   have:=Kw c;simp only[WS.fill,WS.as,fP,vP,EZ]at this⊢;rw[Gt]at this⊢;exact this
  grind[Fc,xT];grind[hY,Kw,WS.fill,WS.as,Q1,Fc,xT];intro a f c i;have F:=D a f c i;rw[V a c]at F⊢;exact F;exact⟨k,d,.aa4 _ _ _ _ _ m O,j,e⟩;grind
 |exit id=>intro b Q h;exact⟨_,b,.exit _ _ _,λ_ _ _ h=>h,h⟩
 |ret=>intro b Q h;exact⟨_,b,.ret _ _,λ_ _ _ h=>h,h⟩
 |scope l q=>
  intro b Q h;simp only[jd]at h;let⟨k,d,m,j,e⟩:=q _ _ h;exact⟨k,d,.scope _ _ _ _ _ m,j,e⟩
 |_=>intro b Q h;exact h.elim
theorem KA:∀(i:Nat)(args:List AV),args.map AV.pl=args->fP (oZ i args)=nU i args
 |_,[],_=>rfl
 |i,a::vs,h=>by
  simp only[eg,Cs]at h;have:=KA (i+1) vs h.2;simp only[fP]at this;simp only[oZ,nU,fP,eg,this];rw[show(EV.av a).val=a from h.1]
theorem adI{r:ResultVar}{g:AV}(h:FT P t r=aa g):xE P t.as r=aa g:=by
 cases r with
 |tmp f=>
  simp only[FT,e1]at h;subst h;simp only[xE,WS.as,nC];rcases c:look f t.env with _|e;rfl;simp[EV.QL]
 |cell b f=>
  simp only[FT]at h;split at h;rename_i d off a;split at h;rename_i i j;split at h;rename_i hc;simp only[bc,decide_eq_true_eq]at hc;let⟨m,n⟩:=Gc hc.1;simp only[e1]at h;subst h;have k:look d t.as.bx=aa i:=j;have l:(look b t.as.env).getD .undef=.lp d off:=by
   simp only[WS.as,nC];rcases c:look b t.env with _|e;grind;rw[c]at a;simp at a;subst a;rfl
  grind[xE,oR,pD];simp at h;simp at h;simp at h
theorem Q6:∀{rs:List ResultVar}{vs:List AV},Da P t rs=aa vs->vZ P t.as rs=aa vs
 |[],_,h=>by grind[Da,vZ]
 |r::rs,vs,h=>by
  simp only[Da]at h;split at h;rename_i d c a b;simp only[vZ,adI a,Q6 b];exact h;simp at h
theorem zu{fn:Func}{Q:AV->List Obj->Prop}(h:Db P fn.results.toList t Q):∃a,xF P fn t.as=aa a/\Q a t.hp:=by
 grind[Db,xF,Q6,absurd]
theorem adJ(o:∀U i M r a,C U i M r a->k1 P G An X U i M r a){fn:Func}{args:List AV}{Q:AV->List Obj->Prop}(k:P.funcs[U]?=aa fn)(j:fn.body=aa cz)(m:(fn.name== "runtime.NumGoroutine")=ab)(l:Z args<=fn.ntmps)(n:gH fn.ntmps cz=ad)
 (p:args.map AV.pl=args)(h:FU P G C (An U) hc cz fn.results.toList args M Q):∃r a,k1 P G An X U args M r a/\Q r a:=by
 let⟨s,g,b,_,e⟩:=Kz o _ _ _ h;have q:WS.as {env:=oZ 0 args,bx:=[],hp:=M}={env:=nU 0 args,bx:=[],hp:=M}:=by
  simp[WS.as,KA 0 args p]
 rw[q]at b;cases s with
 |exit t=>exact e.elim
 |norm=>
  let⟨f,d,c⟩:=zu e;exact⟨f,g.hp,.run U fn cz args M _ _ _ k j m l n b (.inl rfl) d,c⟩
 |ret=>
  let⟨f,d,c⟩:=zu e;exact⟨f,g.hp,.run U fn cz args M _ _ _ k j m l n b (.inr rfl) d,c⟩
end
variable{fo:Prop}
variable{dR:K}{cz:Code}{jv:fg}
variable{mB:fg -> AS -> Prop}{Y:ar}{mA:Code}{oJ:AS -> Prop}
section
variable{P:Program}{G:Nat->Option (List AV)}{An:Nat->bR}{X:fq}{A:bR}{C:fq}{hc:Oper->Bool}
theorem adK(y:P.follows .mixedOrders=ad)(x:∀l args j r c,X l args j r c->jy P G l args j r c){A:bR}(h:iE P G An X A cz L jv n):MC P G cz L jv n:=by
 refine iE.rec (motive_1:=λA v w L n _=>l8 P G v w L n) (motive_2:=λA cz L jv n _=>MC P G cz L jv n) (motive_3:=λl args j r c _=>jy P G l args j r c)
  ?_ ?_ ?_ ?_ ?_ ?_ ?_ ?_ ?_ ?_ ?_ ?_ ?_ ?_ ?_ ?_ ?_ ?_ ?_ ?_ ?_ ?_ ?_ h
 grind[JL];grind[Pt];grind[JM];grind[Pu];grind[Pv];intro A L a k b d e;exact wp_skip ⟨rfl,a,rfl,b,Fr.refl a,rfl,rfl⟩;intro A u L a k b d e;exact wp_label ⟨rfl,a,rfl,b,Fr.refl a,rfl,rfl⟩;grind[id,Px];grind[id,Py];grind[Pz];grind[PA];grind[PC];grind[id,PE];grind[id,PG];grind[PH];grind[PI];intro A id L a k b d e;exact wp_exit ⟨rfl,a,rfl,b,Fr.refl a,rfl,rfl⟩
 intro A L a k b d e;exact wp_ret ⟨rfl,a,rfl,b,Fr.refl a,rfl,rfl⟩;grind[PJ];intro A k L B n jv p o q _ t a m b d e;exact t a m ⟨b.bM,q.trans b.hp,λf i h=>b.env f i (p f i h),λf i h=>b.bx f i (o f i h)⟩ d e;intro A cz L z g u c hc s;exact PM hc s;grind[PK];grind
def eh(P:Program)(G:Nat->Option (List AV))(c:Code)(h:AS)(j:fg->AS->Prop):Prop:=
 ∀(a:ar)(b:Act),St a h b.tmps->du G a->gH b.tmps.size c=ad->CT P c (λg f i=>∃d e,j d e/\Fz a b d e g f i) b a.w
theorem eh.wp(h:eh P G cz L mB){a:Act}(i:St Y L a.tmps)(f:du G Y)(g:gH a.tmps.size cz=ad):cz.wp P (λe d j=>∃b c,mB b c/\Fz Y a b c e d j) a Y.w:=(h Y a i f g).wp
theorem eh.seq(h:eh P G cz L λb a=>b=.norm/\oJ a)(i:∀a,oJ a->eh P G mA a mB):eh P G (.seq cz mA) L mB:=λq s f d e=>by
 simp only[gH,bc]at e;refine wp_seq (wp_mono (h.wp f d e.1) ?_);rintro g t w1 ⟨b,a,⟨rfl,n⟩,rfl,r,rfl,p,c,l,j⟩;apply wp_mono ((i a n).wp p (d.mono c f.bM) (by grind));rintro g u v ⟨b,o,m,rfl,k⟩;cases b<;>exact⟨_,o,m,rfl,k.trans c l j⟩
theorem eh.sub(j:∀a b,look a n.env=aa b->look a L.env=aa b)(i:∀a b,look a n.bx=aa b->look a L.bx=aa b)(k:n.hp=L.hp)(h:eh P G cz n mB):eh P G cz L mB:=λe f c g l=>
 h e f ⟨c.bM,k.trans c.hp,λa b d=>c.env a b (j a b d),λa b d=>c.bx a b (i a b d)⟩ g l
theorem eh.Fe(r:P.follows .mixedOrders=ad){id:Nat}(x:∀i,pF o [] i->∃e,oJ (sU A e)/\l8 P G o (gG o i) L e):eh P G (.region id o ad) L λy z=>y=.norm/\oJ z:=λa c b q s=>by
 have g:uO c.tmps.size o=true:=by simpa[gH]using s
 refine wp_region_draw λC=>?_;simp only[Region.schedule,r,AD,if_true];have f:=Pn g C;let⟨d,k⟩:=ar.Jl (e2:={a.w with drawn:=a.w.drawn+1}) b.bM ⟨rfl,rfl,⟨rfl,AB _⟩,c5 _,λ_ _ _=>rfl⟩;have B:St (a.wd {a.w with drawn:=a.w.drawn+1}) L c.tmps:=by
  have:=St.mono b d k (λ_ _ h=>h) (λ_ _ _=>rfl);simpa[ar.wd,<-b.hp]using this
 let⟨e,v,t⟩:=x _ f;apply t _ c _ _ rfl (CV f) B (q.mono d b.bM) g;intro E D u;let⟨j,l,m,n,p⟩:=u;exact⟨.norm,_,⟨rfl,v⟩,rfl,j,l,m.mI _ _,d.trans n,p⟩
theorem eh.code(o:P.follows .mixedOrders=ad)(n:∀c args a r b,X c args a r b->jy P G c args a r b)(l:∀c d a r b,C c d a r b->k1 P G An X c d a r b){Q:fg->WS->Prop}(h:jd P G C A hc cz t Q):
 eh P G cz t.as λg s=>∃e,s=e.as/\Q g e:=λi d u m p=>by
 let⟨g,e,f,_,z⟩:=Kz l cz t Q h;have:=adK o n f i d u m p;cases cz
 case loop w=>
  intro j q k;let⟨f,v,B,x,y⟩:=this j q k;grind
 all_goals exact wp_mono this (by grind)
theorem eh.fn{o:Nat}{fn:Func}{c:Code}{args:List AV}{r:AV}(s:P.funcs[o]?=aa fn)(q:fn.body=aa c)(H:(fn.name== "runtime.NumGoroutine")=ab)(V:gH fn.ntmps c=ad)(U:Z args<=fn.ntmps)
 (h:eh P G c {env:=nU 0 args,bx:=[],hp:=[]} λi j=>(i=.norm\/i=.ret)/\∃a,xF P fn j=aa a/\aM j.hp .res a r):jy P G o args [] r []:=by
 refine⟨⟨fn,c,s,q,H⟩,λb e g D d p A=>?_⟩;apply calls_of_wp s q;have X:(e.toArray++Array.replicate (fn.ntmps -e.toArray.size) undef).size=fn.ntmps:=by
  have:=p.length;simp;omega
 have t:=JK g p fn.ntmps;rw[d]at t;have T:b.ep .df=b:=by
  let⟨w,R,h,bx,Q⟩:=b;have y:h=λ_=>none:=funext λid=>by
   rcases F:h id with _|m;rfl;have:=(g.dC id m.1 m.2 F).2.2;grind
  have z:bx=λ_=>none:=funext D;simp only at d;subst d;subst y;subst z;simp[ar.ep]
 have K:=h.wp (a:={tmps:=e.toArray++Array.replicate (fn.ntmps -e.toArray.size) undef,defers:=[]}) t A (by grind);apply wp_mono K;rintro n l w1 ⟨i,j,⟨I,v0,J,L⟩,rfl,f,rfl,k,S,W,E⟩;let⟨a,M,C⟩:=JJ k J;have O:St b {env:=[],bx:=[],hp:=[]} (#[]:Array Value):=⟨g,d.symm,by grind[look],by grind[look]⟩;obtain⟨v,N,u,x,B⟩:=Pl (s:=⟨#[],[]⟩) (c9:=.df) O (by grind) k.bM C (by rw[<-k.hp];exact L) (λn=>by cases n)
 have hp:l.defers=[]/\∃a,(results fn l.tmps).run P f.w=.ok a f.w/\CS b [] r (.returned a) f.w:=⟨E,a,M,v,N,x,u.bM,u.hp.symm,B⟩;rcases I with rfl|rfl<;>exact hp
end
def gJ:List (List UInt8):=[[108,97,116,116,105,99,101],[102,117,110,99,116,105,111,110],[111,110],[98,97,115,101],[118,105,101,119],[107,101,121],[100,101,110,121],[110,111,116],[105,110,116],[115,121,109]]
def G0(a:Nat):Option (List AV):=
 if a=1 then aa [.sl ab (gJ.map λb=>[.str b])]
 else if a=0 then aa (gJ.map .str)
 else if a=2 then aa [.sl ab (gJ.map λb=>[.str b])]
 else ae
def Gv(C:fq)(d:AV)(a:List Obj)(f:WS->Prop):Prop:=
 bd (j0 4 d) λe=>
 bd (aQ 4 ad e a) λh=>
 cp C 104 [h] a λi=>
 cj (lA 1 [.aq] a) λc g=>
 bd (dp 1 c i g) λb=>
 bd (aQ 1 ab c b) λj=>
 bd (gk .sl j b) λk=>
 f ⟨[(0,(.av d)),(1,(.av e)),(2,(.av .aq)),(3,(.av .aq)),(4,(.av c)),(5,(.av k))],[],b⟩
def KB(C:fq)(S T V N d i O j:AV)(m:List Obj)(Q:AV->List Obj->Prop):Prop:=
 cj (uW 1 [ff] 1 d d m) λP y=>
 cj (lA 1 [.aq] y) λe n=>
 bd (dp 1 e P n) λo=>
 cj (lA 1 [.aq] o) λA p=>
 cj (lA 1 [.aq] p) λf q=>
 cj (lA 1 [(I 0)] q) λh r=>
 bd (dp 1 h (I 0) r) λt=>
 cj (lA 1 [.fN] t) λc u=>
 (λB=>
 bd (dp 1 c B u) λv=>
 jA (λb a z=>
 bd (aT .s .lss (g b 0) d) λD=>
 ez D (
 jn (λu3=>
 bd (aQ 1 ab j a) λE=>
 bd (bT 1 E (g b 0) a) λF=>
 bd (aQ 1 ab F a) λG=>
 bd (aT .s .eql G (I 0)) λH=>
 ez H (
 bd (aQ 1 ab c a) λJ=>
 cj (lK J [(AV.pl (g b 0))]) λl k=>
 ch C l k a λU x=>
 u3 [(g b 0)] x) (
 u3 [(g b 0)] a)) λR w=>
 bd (aT .s .add (g b 0) (I 1)) λK=>
 z [K] w) (
 bd (aQ 1 ab i a) λL=>
 bd (aQ 1 ab f a) λM=>
 Q (.aB [(AV.pl L),(AV.pl M)]) a)) [(I 0)] v) (AV.fn 123 [] [(AV.pl h),(AV.pl j),(AV.pl O),(AV.pl e),(AV.pl A),(AV.pl N),(AV.pl c),(AV.pl f),(AV.pl i)])
open Go.Proofs
def C:fq:=jy aU G0
theorem wm:aU.follows .mixedOrders=true:=by kernel_rfl
def Q7(a:Option Func):String:=(a.map (·.name)).getD ""
def adL(a:Func)(b:String):Func:={a with name:=b}
def dT(d:Nat)(args:List AV)(c:List Obj->(AV->List Obj->Prop)->Prop):Prop:=
 args.map AV.pl=args->∀a Q,c a Q->∃r b,C d args a r b/\Q r b
theorem dT.pr{args:List AV}{a:List Obj->(AV->List Obj->Prop)->Prop}(h:dT U args a)(c:args.map AV.pl=args){r:AV}(d:a [] (λe b=>aM b .res e r)):PR C U args r:=h c _ _ d
theorem dT.hr{args:List AV}{a:List Obj->(AV->List Obj->Prop)->Prop}(h:dT U args a)(e:args.map AV.pl=args){r:AV}(f:a M (λc b=>c=r/\b=gC)):C U args M r gC:=by
 obtain⟨c,b,d,rfl,rfl⟩:=h e _ _ f;exact d
def xU(a:Func)(b:Nat):Bool:=a.body.isSome&& !(a.name== "runtime.NumGoroutine")&&y (b<=a.ntmps)&&gH a.ntmps (a.body.getD .skip)
theorem ru{fn:Func}{args:List AV}{T:List Obj->(AV->List Obj->Prop)->Prop}(o:aU.funcs[U]?=aa fn)(c:bR)(f:List Nat)(e:xU fn (Z args)=true:=by kernel_rfl)
 (n:∀a Q,T a Q=FU aU G0 C c (pM f) (fn.body.getD .skip) (bI fn.results) args a Q:=by intro _ _;kernel_rfl):dT U args T:=by
 intro p a Q h;simp only[xU,bc,gZ,decide_eq_true_eq]at e;let⟨⟨⟨i,j⟩,k⟩,d⟩:=e;let⟨t,b⟩:=sH.1 i;rw[b]at d;rw[n a Q,b]at h;let⟨r,g,l,m⟩:=adJ (hc:=pM f) (X:=C) (An:=λ_=>c) (λ_ _ _ _ _ h=>.uR _ _ _ _ _ h) o b j k d p h;exact⟨r,g,aca wm (λ_ _ _ _ _ h=>h) l,m⟩
abbrev Kt:=List AV->List Obj->Prop
inductive In
 |n(x:Nat)|N(k:LK)(x:Nat)|L(x:Nat)|S(n x:Nat)|A(n x:Nat)|a(n x:Nat)|J(n x y:Nat)|i(x y:Nat)|s(n x y:Nat)|b(n m x y:Nat)
 |C(n x:Nat)|d(n x y:Nat)|D(n x:Nat)|B(o:BinOp)(x y:Nat)|l(x y:Nat)|p(x:Nat)|e(x y:Nat)|m(x y:Nat)|U(k:BK)(o:BinOp)(x y:Nat)
 |u(x:Nat)|E(n x:Nat)|I(n x:Nat)|o(x:Nat)|O(x:Nat)|q(n:Nat)|t(n x y:Nat)|P(n m x y:Nat)|M(n x:Nat)|W(n:Nat)(z:List Nat)
 |X(n:Nat)(z:List Nat)(m x y:Nat)|f(n:Nat)(z:List Nat)(m:Nat)(ps:List (Nat×Nat))|F(n:Nat)(z:List Nat)(m:Nat)(ps:List (Nat×Nat))
 |H(z:List Nat)(ps:List (Nat×Nat×Nat))|j(n m x y:Nat)|k(f:Nat)(l:List Nat)|K(f:Nat)(l:List Nat)
 |v(x:Nat)(l:List Nat)|V(x:Nat)(l:List Nat)|iv(t:List (Nat×Nat×Option (Nat×Bool)))(x:Nat)(l:List Nat)|iV(t:List (Nat×Nat×Option (Nat×Bool)))(x:Nat)(l:List Nat)
 |x2(F:List AV->List Obj->Option AV)|y2(F:List AV->List Obj->Option (AV×List Obj))|z2(F:List AV->List Obj->Option (List Obj))
 |z(v:AV)|y(n:Int)|g(l:List Nat)|gg(s n:Nat)|fn(f:Nat)(l0 l:List Nat)|Y(t x:Nat)
 |c(x:Nat)(a:List In)|G(x:Nat)(a:List In)|Gf(x:Nat)(a:List In)|r(a:List In)(n:Nat)|w(a:List In)(n:Nat)(l:List Nat)|h(a:List In)
 |Q(x:Nat)|T(l:List Nat)|R(j:Nat)(l:List Nat)|Z(j:Nat)(l:List Nat)(s n:Nat)|ob(x y:Nat)|tr
def nv:List AV->Nat->AV
 |[],_=>.undef
 |v::_,0=>v
 |_::a,b+1=>nv a b
def nk:List Kt->Nat->Kt
 |[],_=>λ_ _=>False
 |v::_,0=>v
 |_::a,b+1=>nk a b
def dr:List AV->Nat->List AV
 |l,0=>l
 |[],_=>[]
 |_::l,a+1=>dr l a
def tk:List AV->Nat->List AV
 |_,0=>[]
 |[],_=>[]
 |v::a,b+1=>v::tk a b
def vs(r:List AV):List Nat->List AV
 |[]=>[]
 |n::a=>nv r n::vs r a
def vp(r:List AV):List Nat->List AV
 |[]=>[]
 |n::a=>(nv r n).pl::vp r a
def v2(r:List AV):List (Nat×Nat)->List (Nat×AV)
 |[]=>[]
 |(a,c)::b=>(a,nv r c)::v2 r b
def v3(r:List AV):List (Nat×Nat×Nat)->List (Nat×Nat×AV)
 |[]=>[]
 |(a,b,d)::c=>(a,b,nv r d)::v3 r c
def ap:List AV->List AV->List AV
 |[],r=>r
 |v::a,r=>v::ap a r
def gs(a:List AV)(b:Nat):List AV:=tk [g a 0,g a 1,g a 2,g a 3,g a 4,g a 5,g a 6,g a 7,g a 8,g a 9,g a 10,g a 11,g a 12,g a 13,g a 14,g a 15,g a 16,g a 17,g a 18,g a 19,g a 20,g a 21,g a 22,g a 23,g a 24,g a 25,g a 26,g a 27,g a 28,g a 29,g a 30,g a 31,g a 32,g a 33,g a 34,g a 35,g a 36,g a 37,g a 38,g a 39] b
def cK(Q:AV->List Obj->Prop):Nat->List In->List AV->List Kt->List Obj->Prop
 |0,_,_,_,_=>False
 |_+1,[],_,_,_=>False
 |f+1,am::ai,r,ah,h=>
  match am with
  |.n ac=>bd (gk .sl (nv r ac) h) λx=>cK Q f ai (x::r) ah h
  |.N aR ac=>bd (gk aR (nv r ac) h) λx=>cK Q f ai (x::r) ah h
  |.L ac=>bd (aQ 1 ab (nv r ac) h) λx=>cK Q f ai (x::r) ah h
  |.S af ac=>bd (aQ af ad (nv r ac) h) λx=>cK Q f ai (x::r) ah h
  |.A af ac=>bd (dD af (nv r ac) h) λx=>cK Q f ai (x::r) ah h
  |.a af ac=>bd (dD af (nv r ac) h) λx=>bd (aQ 1 ab x h) λx=>cK Q f ai (x::r) ah h
  |.J af ac ak=>bd (bT af (nv r ac) (nv r ak) h) λx=>cK Q f ai (x::r) ah h
  |.i ac ak=>bd (bT 1 (nv r ac) (nv r ak) h) λx=>bd (aQ 1 ab x h) λx=>cK Q f ai (x::r) ah h
  |.s af ac ak=>bd (bT af (nv r ac) (nv r ak) h) λx=>bd (aQ af ad x h) λx=>cK Q f ai (x::r) ah h
  |.b af au ac ak=>bd (bT af (nv r ac) (nv r ak) h) λx=>bd (dD au x h) λx=>bd (aQ 1 ab x h) λx=>cK Q f ai (x::r) ah h
  |.C af ac=>bd (dS af (nv r ac)) λax=>cK Q f ai (ap (gs ax af) r) ah h
  |.d af ac ak=>bd (bT af (nv r ac) (nv r ak) h) λx=>bd (aQ af ad x h) λx=>bd (dS af x) λax=>cK Q f ai (ap (gs ax af) r) ah h
  |.D af ac=>bd (aQ af ad (nv r ac) h) λx=>bd (dS af x) λax=>cK Q f ai (ap (gs ax af) r) ah h
  |.B aR ac ak=>bd (aT .s aR (nv r ac) (nv r ak)) λx=>cK Q f ai (x::r) ah h
  |.l ac ak=>bd (aT .s .lss (nv r ac) (nv r ak)) λx=>cK Q f ai (x::r) ah h
  |.p ac=>bd (aT .s .add (nv r ac) (I 1)) λx=>cK Q f ai (x::r) ah h
  |.e ac ak=>bd (aT .s .eql (nv r ac) (nv r ak)) λx=>cK Q f ai (x::r) ah h
  |.m ac ak=>bd (aT .s .neq (nv r ac) (nv r ak)) λx=>cK Q f ai (x::r) ah h
  |.U bk_1 aR ac ak=>bd (aT bk_1 aR (nv r ac) (nv r ak)) λx=>cK Q f ai (x::r) ah h
  |.u ac=>bd (np .not (nv r ac)) λx=>cK Q f ai (x::r) ah h
  |.E af ac=>bd (fH af (nv r ac)) λx=>cK Q f ai (x::r) ah h
  |.I af ac=>bd (j0 af (nv r ac)) λx=>cK Q f ai (x::r) ah h
  |.o ac=>bd (iH (nv r ac) h) λx=>cK Q f ai (x::r) ah h
  |.O ac=>bd (nu (nv r ac)) λx=>cK Q f ai (x::r) ah h
  |.q af=>cj (ft af h) λx h=>cK Q f ai (x::r) ah h
  |.t af ac ak=>bd (dp af (nv r ac) (nv r ak) h) λh=>cK Q f ai r ah h
  |.P af au ac ak=>cj (cJ af au (nv r ac) (nv r ak) h) λx h=>cK Q f ai (x::r) ah h
  |.M af ac=>cj (nw af (nv r ac) h) λx h=>cK Q f ai (x::r) ah h
  |.W af az=>cj (lA af (vs r az) h) λx h=>cK Q f ai (x::r) ah h
  |.X af az au ac ak=>cj (uW af (vs r az) au (nv r ac) (nv r ak) h) λx h=>cK Q f ai (x::r) ah h
  |.f af az au aj=>bd (fQ af (vs r az) au (v2 r aj)) λx=>cK Q f ai (x::r) ah h
  |.F af az au aj=>cj (FJ af (vs r az) au (v2 r aj) h) λx h=>cK Q f ai (x::r) ah h
  |.H az aj=>bd (ma (vs r az) (v3 r aj)) λax=>cK Q f ai (.agg ax::r) ah h
  |.j af au ac ak=>bd (pN af au (nv r ac) (nv r ak) h) λx=>cK Q f ai (x::r) ah h
  |.k af aj=>cp C af (vs r aj) h λx=>cK Q f ai (x::r) ah h
  |.K af aj=>ch C af (vs r aj) h λx h=>cK Q f ai (x::r) ah h
  |.v ac aj=>cj (lK (nv r ac) (vp r aj)) λaf am=>cp C af am h λx=>cK Q f ai (x::r) ah h
  |.V ac aj=>cj (lK (nv r ac) (vp r aj)) λaf am=>ch C af am h λx h=>cK Q f ai (x::r) ah h
  |.iv aZ ac aj=>cj (rL aZ (nv r ac) (vp r aj) h) λaf am=>cp C af am h λx=>cK Q f ai (x::r) ah h
  |.iV aZ ac aj=>cj (rL aZ (nv r ac) (vp r aj) h) λaf am=>ch C af am h λx h=>cK Q f ai (x::r) ah h
  |.x2 aE=>bd (aE r h) λx=>cK Q f ai (x::r) ah h
  |.y2 aE=>cj (aE r h) λx h=>cK Q f ai (x::r) ah h
  |.z2 aE=>bd (aE r h) λh=>cK Q f ai r ah h
  |.z x=>cK Q f ai (x::r) ah h
  |.y af=>cK Q f ai (Go.AM.I af::r) ah h
  |.g aj=>cK Q f ai (.agg (vs r aj)::r) ah h
  |.gg a0 af=>cK Q f ai (.agg (tk (dr r a0) af)::r) ah h
  |.fn af aj au=>cK Q f ai (.fn af (vp r aj) (vp r au)::r) ah h
  |.Y aZ ac=>cK Q f ai (.iface aZ (nv r ac).pl::r) ah h
  |.c ac am=>ez (nv r ac) (cK Q f am r ah h) (cK Q f ai r ah h)
  |.G ac am=>gd (nv r ac) ad (cK Q f am r ah h) (cK Q f ai r ah h)
  |.Gf ac am=>gd (nv r ac) ab (cK Q f am r ah h) (cK Q f ai r ah h)
  |.r am af=>jn (λaA=>cK Q f am r (aA::ah) h) λax h=>cK Q f ai (ap (gs ax af) r) ah h
  |.w am af aj=>jA (λax h aA=>cK Q f am (ap (gs ax af) r) (aA::ah) h) (vs r aj) h
  |.h am=>cK Q f am r ah h/\cK Q f ai r ah h
  |.Q ac=>Q (nv r ac).pl h
  |.T aj=>Q (.aB (vp r aj)) h
  |.R aA aj=>nk ah aA (vs r aj) h
  |.Z aA aj a0 af=>nk ah aA (ap (vs r aj) (tk (dr r a0) af)) h
  |.ob ac ak=>ob (nv r ac) (nv r ak)
  |.tr=>True
def dn(a:List In)(r:List AV)(h:List Obj)(Q:AV->List Obj->Prop):Prop:=cK Q 999 a r [] h
theorem hZ:(∀i r h Q,dn i r h Q=cK Q 999 i r [] h)/\(∀d b,nv (d::b) 0=d)/\(∀d b c,nv (d::b) (c+1)=nv b c)/\(∀d b,nk (d::b) 0=d)/\(∀d b c,nk (d::b) (c+1)=nk b c)/\
 (∀b,dr b 0=b)/\(∀d b c,dr (d::b) (c+1)=dr b c)/\(∀b,tk b 0=[])/\(∀d b c,tk (d::b) (c+1)=d::tk b c)/\(∀r,vs r []=[])/\(∀r c b,vs r (c::b)=nv r c::vs r b)/\
 (∀r,vp r []=[])/\(∀r c b,vp r (c::b)=(nv r c).pl::vp r b)/\(∀r,v2 r []=[])/\(∀r e c b,v2 r ((e,c)::b)=(e,nv r c)::v2 r b)/\
 (∀r,v3 r []=[])/\(∀r e f c b,v3 r ((e,f,c)::b)=(e,f,nv r c)::v3 r b)/\(∀r,ap [] r=r)/\(∀d b r,ap (d::b) r=d::ap b r)/\∀a c,gs a c=tk [g a 0,g a 1,g a 2,g a 3,g a 4,g a 5,g a 6,g a 7,g a 8,g a 9,g a 10,g a 11,g a 12,g a 13,g a 14,g a 15,g a 16,g a 17,g a 18,g a 19,g a 20,g a 21,g a 22,g a 23,g a 24,g a 25,g a 26,g a 27,g a 28,g a 29,g a 30,g a 31,g a 32,g a 33,g a 34,g a 35,g a 36,g a 37,g a 38,g a 39] c:=by
 refine⟨?_,?_,?_,?_,?_,?_,?_,?_,?_,?_,?_,?_,?_,?_,?_,?_,?_,?_,?_,?_⟩<;>intros<;>first|rfl|(rename_i b;cases b<;>rfl)
def bt:Nat->Nat->Nat->List Nat
 |0,_,_=>[]
 |f+1,b,a=>if a=0 then[]else if a%2=1 then b::bt f (b+1) (a/2)else bt f (b+1) (a/2)
def Gw:Code->List (Array Oper)
 |.region _ c _=>[c]
 |.seq a b|.cond _ a b=>Gw a++Gw b
 |.block _ a|.loop a|.scope a=>Gw a
 |_=>[]
def Bk:Code->List Nat
 |.cond c a b=>(match c with|.tmp d=>[d]|_=>[])++Bk a++Bk b
 |.seq a b=>Bk a++Bk b
 |.block _ a|.loop a|.scope a=>Bk a
 |_=>[]
def bs(a:List Nat):Nat:=a.foldl (λb c=>b|||(1<<<c)) 0
def Q8(c:List Nat):Nat:=(c.foldl (λa b=>((a.1^^^b)^^^((a.1^^^b)&&&(a.2|||(a.1&&&b))),a.2|||(a.1&&&b))) (0,0)).1
def kb(e:Func)(j:Nat):Nat×Nat:=
 let R:=Gw (e.body.getD .skip)
 let g:=Bk (e.body.getD .skip)
 let r:=bs ((bI e.results).map λ|.tmp k=>k|.cell i _=>i)
 let c:=bs (R.flatMap λa=>(bI a).flatMap (·.looksAt a))
 let d:=(R.foldl (λd a=>d|||((bI a).foldl (λf b=>(λh=>(f.1|||bs b.dst.toList,f.2|||(h^^^(h&&&f.1)))) (bs (b.looksAt a))) (0,0)).2) 0)
 let b:=Q8 (g.map (1<<<·))
 (bs g|||r|||(c&&&(d|||(2^j -1)))|||(c^^^(c&&&Q8 (R.map λa=>bs ((bI a).filterMap (·.dst))))),b^^^(b&&&(c|||r)))
def an(a:Func)(b:Nat)(e:List Nat)(c:List (Nat×Nat))(f:List Nat)(d:List (Nat×List Nat)):bR:=⟨bt 999 0 (kb a b).1,bt 999 0 (kb a b).2,e,c,f,d⟩
def xV:List UInt8:=(ay 256).map λa=>if a=0 then 8 else .ofNat (Nat.log2 (a^^^(a&&&(a -1))))
def adM:List UInt8:=[1,1,2,4,8,16,32,64,128].zipIdx.flatMap λa=>db a.1 (.ofNat a.2)
def fc(n:Nat)(a:Nat->K):K:=match n with|0=>a 0|n+1=>a (n+1)
def rd(b c n:Nat)(d:Nat->Nat->K):K:=fc (n%b) λa=>fc (n/b) λn=>if a+1<b then d a n else fc (n%c) λw=>fc (n/c) λn=>if w+1<c then d (a+w) n else fc (n/4096) (d (a+w+n%4096))
def bl(b:Nat)(a:Nat->Nat->K):K:=rd 5 38 b a
def Q9:Nat->Nat->(List Nat->Nat->K)->K
 |0,a,b=>b [] a
 |f+1,a,b=>bl a λd a=>Q9 f a λc a=>b (d::c) a
def rl(a:Nat)(c:List Nat->Nat->K):K:=bl a λb a=>Q9 b a c
def KC:List Nat->List (Nat×Nat)
 |x::b::a=>(x,b)::KC a
 |_=>[]
def Ra:List Nat->List (Nat×Nat×Nat)
 |x::b::c::a=>(x,b,c)::Ra a
 |_=>[]
def ec(a:In)(r:List In×Nat×List In):List In×Nat×List In:=(a::r.1,r.2)
def bk(r:List In×Nat×List In)(a:List In->Nat->List In->K):K:=a r.1 r.2.1 r.2.2
def dc:Nat->Nat->List In->List In×Nat×List In
 |0,x,af=>([],x,af)
 |f+1,x,af=>rd 38 27 x λau x=>match au with
  |1=>bl x λac x=>rl x λai x=>ec (.R ac ai) (dc f x af)
  |2=>bl x λac x=>bl x λah x=>ec (.a ac ah) (dc f x af)
  |3=>bk (dc f x af) λak x af=>bl x λac x=>ec (.c ac ak) (dc f x af)
  |4=>bl x λac x=>ec (.y (cu ac)) (dc f x af)
  |5=>bl x λac x=>rl x λai x=>ec (.k ac ai) (dc f x af)
  |6=>bl x λac x=>ec (.Q ac) (dc f x af)
  |7=>bl x λac x=>ec (.n ac) (dc f x af)
  |8=>bl x λac x=>bl x λah x=>ec (.l ac ah) (dc f x af)
  |9=>bk (dc f x af) λak x af=>bl x λac x=>ec (.r ak ac) (dc f x af)
  |10=>ec (.z ff) (dc f x af)
  |11=>bl x λac x=>ec (.p ac) (dc f x af)
  |12=>ec (.z tt) (dc f x af)
  |13=>bk (dc f x af) λak x af=>bl x λac x=>rl x λai x=>ec (.w ak ac ai) (dc f x af)
  |14=>bk (dc f x af) λak x af=>bl x λac x=>ec (.G ac ak) (dc f x af)
  |15=>bl x λac x=>bl x λah x=>ec (.e ac ah) (dc f x af)
  |16=>bk (dc f x af) λak x af=>bl x λac x=>ec (.Gf ac ak) (dc f x af)
  |17=>bl x λac x=>bl x λah x=>ec (.E ac ah) (dc f x af)
  |18=>bl x λac x=>bl x λah x=>bl x λaj x=>ec (.s ac ah aj) (dc f x af)
  |19=>bl x λac x=>bl x λah x=>ec (.S ac ah) (dc f x af)
  |20=>bl x λac x=>ec (.u ac) (dc f x af)
  |21=>rl x λai x=>ec (.T ai) (dc f x af)
  |22=>bl x λac x=>bl x λah x=>ec (.i ac ah) (dc f x af)
  |23=>bl x λac x=>bl x λah x=>ec (.I ac ah) (dc f x af)
  |24=>bl x λac x=>bl x λah x=>bl x λaj x=>ec (.t ac ah aj) (dc f x af)
  |25=>bl x λac x=>ec (.L ac) (dc f x af)
  |26=>bl x λac x=>bl x λah x=>ec (.m ac ah) (dc f x af)
  |27=>bl x λac x=>bl x λah x=>ec (.A ac ah) (dc f x af)
  |28=>bl x λac x=>ec (.o ac) (dc f x af)
  |29=>bl x λac x=>rl x λai x=>bl x λah x=>bl x λaj x=>ec (.Z ac ai ah aj) (dc f x af)
  |30=>bl x λac x=>rl x λai x=>ec (.K ac ai) (dc f x af)
  |31=>bl x λac x=>bl x λah x=>ec (.B .sub ac ah) (dc f x af)
  |32=>ec (af.headD .tr) (dc f x af.tail)
  |33=>bl x λac x=>bl x λah x=>bl x λaj x=>ec (.J ac ah aj) (dc f x af)
  |34=>bl x λac x=>ec (.q ac) (dc f x af)
  |35=>bl x λac x=>bl x λah x=>bl x λaj x=>bl x λw x=>ec (.b ac ah aj w) (dc f x af)
  |36=>bl x λac x=>bl x λah x=>ec (.gg ac ah) (dc f x af)
  |37=>bl x λac x=>bl x λah x=>ec (.B .geq ac ah) (dc f x af)
  |38=>ec (.z (.str [])) (dc f x af)
  |39=>bl x λac x=>rl x λai x=>bl x λah x=>rl x λam x=>ec (.f ac ai ah (KC am)) (dc f x af)
  |40=>bl x λac x=>bl x λah x=>ec (.B .gtr ac ah) (dc f x af)
  |41=>bl x λac x=>bl x λah x=>bl x λaj x=>bl x λw x=>ec (.P ac ah aj w) (dc f x af)
  |42=>ec (.z .aq) (dc f x af)
  |43=>bl x λac x=>bl x λah x=>bl x λaj x=>ec (.d ac ah aj) (dc f x af)
  |44=>bk (dc f x af) λak x af=>ec (.h ak) (dc f x af)
  |45=>bl x λac x=>bl x λah x=>ec (.ob ac ah) (dc f x af)
  |46=>bl x λac x=>bl x λah x=>ec (.C ac ah) (dc f x af)
  |47=>bl x λac x=>bl x λah x=>ec (.B .leq ac ah) (dc f x af)
  |48=>bl x λac x=>rl x λai x=>rl x λam x=>ec (.fn ac ai am) (dc f x af)
  |49=>rl x λai x=>rl x λam x=>ec (.H ai (Ra am)) (dc f x af)
  |50=>bl x λac x=>rl x λai x=>ec (.v ac ai) (dc f x af)
  |51=>rl x λai x=>ec (.g ai) (dc f x af)
  |52=>bl x λac x=>bl x λah x=>ec (.B .add ac ah) (dc f x af)
  |53=>ec (.y (-1)) (dc f x af)
  |54=>bl x λac x=>bl x λah x=>bl x λaj x=>bl x λw x=>ec (.j ac ah aj w) (dc f x af)
  |55=>bl x λac x=>ec (.O ac) (dc f x af)
  |56=>bl x λac x=>rl x λai x=>ec (.W ac ai) (dc f x af)
  |57=>ec (.y2 λr h=>aa ((AV.b7 h.length),(h++[(.mp ad [] [])]))) (dc f x af)
  |58=>bl x λac x=>bl x λah x=>ec (.M ac ah) (dc f x af)
  |59=>ec (.z .dG) (dc f x af)
  |60=>bl x λac x=>rl x λai x=>ec (.V ac ai) (dc f x af)
  |61=>ec (.z (.int .u8 95)) (dc f x af)
  |62=>bl x λac x=>bl x λah x=>ec (.B .quo ac ah) (dc f x af)
  |63=>bl x λac x=>bl x λah x=>ec (.B .mul ac ah) (dc f x af)
  |64=>bl x λac x=>bl x λah x=>ec (.B .and ac ah) (dc f x af)
  |65=>bl x λac x=>rl x λai x=>bl x λah x=>bl x λaj x=>bl x λw x=>ec (.X ac ai ah aj w) (dc f x af)
  |66=>bl x λac x=>bl x λah x=>bl x λaj x=>ec (.x2 λr h=>fy (.sl ac) (nv r ah) ae (aa (nv r aj)) h) (dc f x af)
  |67=>bl x λac x=>bl x λah x=>ec (.D ac ah) (dc f x af)
  |68=>bl x λac x=>ec (.N .str ac) (dc f x af)
  |69=>ec (.z (.int .u8 48)) (dc f x af)
  |70=>ec (.z (.int .u8 57)) (dc f x af)
  |71=>bl x λac x=>bl x λah x=>ec (.B .shr ac ah) (dc f x af)
  |72=>bl x λac x=>bl x λah x=>ec (.x2 λr h=>mb (nv r ac) (nv r ah)) (dc f x af)
  |73=>bl x λac x=>bl x λah x=>ec (.x2 λr h=>iI ⟨ab,1,[0]⟩ (I 0) ab (nv r ac) (nv r ah) h) (dc f x af)
  |74=>bl x λac x=>ec (.x2 λr h=>pO (.int .u64) (nv r ac)) (dc f x af)
  |75=>bl x λac x=>bl x λah x=>ec (.Y ac ah) (dc f x af)
  |76=>bl x λac x=>bl x λah x=>ec (.U .n .eql ac ah) (dc f x af)
  |77=>ec (.z (.int .u8 1)) (dc f x af)
  |78=>ec (.z (.int .i32 95)) (dc f x af)
  |79=>ec (.z .oO) (dc f x af)
  |80=>bl x λac x=>bl x λah x=>bl x λaj x=>ec (.x2 λr h=>fy (.sl ac) (nv r ah) (aa (nv r aj)) ae h) (dc f x af)
  |81=>bl x λac x=>ec (.x2 λr h=>pO (.int .i64) (nv r ac)) (dc f x af)
  |82=>bl x λac x=>bl x λah x=>ec (.B .shl ac ah) (dc f x af)
  |83=>bl x λac x=>bl x λah x=>bl x λaj x=>ec (.z2 λr h=>jO ⟨ab,1,[1]⟩ (nv r ac) (nv r ah) (nv r aj) h) (dc f x af)
  |84=>bl x λac x=>rl x λai x=>bl x λah x=>rl x λam x=>ec (.F ac ai ah (KC am)) (dc f x af)
  |85=>ec (.z (.int .u8 97)) (dc f x af)
  |86=>ec (.z (.int .u8 122)) (dc f x af)
  |87=>ec (.z (.int .u8 65)) (dc f x af)
  |88=>ec (.z (.int .u8 90)) (dc f x af)
  |89=>bl x λac x=>bl x λah x=>ec (.U .b .neq ac ah) (dc f x af)
  |90=>bl x λac x=>bl x λah x=>ec (.z2 λr h=>jO ⟨ab,1,[0]⟩ (nv r ac) (nv r ah) tt h) (dc f x af)
  |91=>ec (.z (.int .u8 0)) (dc f x af)
  |92=>bl x λac x=>bl x λah x=>ec (.B .or ac ah) (dc f x af)
  |93=>bl x λac x=>ec (.x2 λr h=>mb (nv r ac) (I 0)) (dc f x af)
  |94=>ec (.z (.int .u64 1)) (dc f x af)
  |95=>bl x λac x=>bl x λah x=>ec (.x2 λr h=>iI ⟨ab,1,[0]⟩ ff ab (nv r ac) (nv r ah) h) (dc f x af)
  |96=>ec (.tr) (dc f x af)
  |97=>bl x λac x=>bl x λah x=>ec (.x2 λr h=>tO [(nv r ac),(nv r ah)]) (dc f x af)
  |98=>bl x λac x=>bl x λah x=>ec (.x2 λr h=>sR [(nv r ac),(nv r ah)]) (dc f x af)
  |99=>ec (.z .fN) (dc f x af)
  |100=>bl x λac x=>bl x λah x=>ec (.x2 λr h=>iI ⟨ab,1,[1]⟩ (I 0) ad (nv r ac) (nv r ah) h) (dc f x af)
  |101=>ec (.z (.int .i32 48)) (dc f x af)
  |102=>ec (.z (.int .i32 57)) (dc f x af)
  |103=>bl x λac x=>bl x λah x=>ec (.x2 λr h=>iI ⟨ab,1,[1]⟩ (I 0) ab (nv r ac) (nv r ah) h) (dc f x af)
  |104=>bl x λac x=>bl x λah x=>ec (.B .xor ac ah) (dc f x af)
  |105=>bl x λac x=>bl x λah x=>ec (.U (.a 3 [0,0,1]) .eql ac ah) (dc f x af)
  |106=>bl x λac x=>ec (.x2 λr h=>pO .bytes (nv r ac)) (dc f x af)
  |107=>bl x λac x=>bl x λah x=>ec (.x2 λr h=>fy (.sl ac) (nv r ah) (aa (I 1)) ae h) (dc f x af)
  |108=>bl x λac x=>bl x λah x=>ec (.x2 λr h=>fy (.sl ac) (nv r ah) ae (aa (I 1)) h) (dc f x af)
  |_=>([],x,af)
def dg(b:Nat):List UInt8->Nat
 |[]=>b
 |c::d=>(λa=>if a<92 then a -46 else a -47) c.toNat+76*dg b d
def sn:List String->Nat
 |[]=>0
 |s::a=>dg (sn a) (bI s.toUTF8.data)
def nY(a:Nat)(args:List AV)(b:List String)(c:List In):Prop:=dT a args λh Q=>cK Q 999 (dc 999 (sn b) c).1 args [] h
variable{hJ:List String}{fj:List In}
theorem nY.pr{args:List AV}{r:AV}(h:nY U args hJ fj)(d:fo)(c:args.map AV.pl=args:=by rfl)(b:cK (λe a=>aM a .res e r) 999 (dc 999 (sn hJ) fj).1 args [] []=fo:=by conv=>(lhs;(conv=>arg 3;cbv);simp only[cK,hZ,Int.reduceOfNat])):PR C U args r:=dT.pr h c (b.mpr d)
theorem nY.hr{args:List AV}{r:AV}(h:nY U args hJ fj)(d:fo)(c:args.map AV.pl=args:=by rfl)(b:cK (λe a=>e=r/\a=gC) 999 (dc 999 (sn hJ) fj).1 args [] M=fo:=by conv=>(lhs;(conv=>arg 3;cbv);simp only[cK,hZ,Int.reduceOfNat])):C U args M r gC:=dT.hr h c (b.mpr d)
theorem nY.hq{args:List AV}{Q:AV->List Obj->Prop}(h:nY U args hJ fj)(d:fo)(c:args.map AV.pl=args:=by rfl)(b:cK Q 999 (dc 999 (sn hJ) fj).1 args [] M=fo:=by conv=>(lhs;(conv=>arg 3;cbv);simp only[cK,hZ,Int.reduceOfNat])):∃r a,C U args M r a/\Q r a:=h c _ _ (b.mpr d)
theorem rs{fn:Func}(h:aU.funcs[U]?=aa fn)(args:List AV)(c:List String)(d:List In:=[])(j:List Nat:=[])(e:List (Nat×Nat):=[])(k:List Nat:=[])(f:List (Nat×List Nat):=[])(b:List Nat:=[])(i:xU fn (Z args)=true:=by kernel_rfl)
 (g:∀a Q,cK Q 999 (dc 999 (sn c) d).1 args [] a=FU aU G0 C (an fn (Z args) j e k f) (pM b) (fn.body.getD .skip) (bI fn.results) args a Q:=by intro _ _;kernel_rfl):nY U args c d:=ru h _ b i g
theorem rp{fn:Func}{args:List AV}(f:aU.funcs[U]?=aa fn)(h:List Nat:=[])(c:List (Nat×Nat):=[])(i:List Nat:=[])(d:List (Nat×List Nat):=[])(b:List Nat:=[])(g:xU fn (Z args)=true:=by kernel_rfl)
 (e:∀a Q,dn fj args a Q=FU aU G0 C (an fn (Z args) h c i d) (pM b) (fn.body.getD .skip) (bI fn.results) args a Q:=by intro _ _;kernel_rfl):dT U args (dn fj args):=ru f _ b g e
section
open Go.Proofs.Tryz
variable{x0 x1 x2 x3 x4 x5 x6 x7 x8 x9:AV}
abbrev adO:=rs func18 [x0,x1,x2] ["ECUWF/0NTW@[;:9WQIM^geX7owtIJy>lgh:>QA_ogv<DnkTxH=V.>J1EYaVg","Fv]snsf=:rbV4>de`3TK;StUDHj].IzJO9JX7`.Bt0NxttI5v0B>9lVc4jLC","3PN[Q@wSBFp30Eo3LQfn_5ASC.1]y0Ydj;yjzhacV5PZ<FVcDkPF.Kvrhbr@","f=8VkhZb6SDd<Hu9.HojKJOmt52mnjlAbb6`<cDmipffqQk`Jo4y;JFgPY6m","gP8^1:/1SBj3@NzZLz5Nu^OImEUGHEDuJ;GtKiAHOEs?snV?HlcZEhimj@WN","nGNRt8ImsufjH.a8fy2?gNVuSBv.A]>j<.dSK00hidr:0OhdnT9P9GFH]Itk",":R2z_[J0kfNX>z03lyIBtcWp//Ws?VbZfYLl9;nWxLEwb7Oc@EpX`NtnHZA.","AZ<hDW.OF.;eGTfGEuZdDTrdtC?y3fc9vHp`G<[=TuY;Iul`>[Y^Xa19L6rR","i:JwID:cFi7l5/"] [.y 20000,.z2 λr h=>jO ⟨false,1,[0]⟩ (nv r 19) (nv r 17) (nv r 0) h,.x2 λr h=>iI ⟨false,1,[0]⟩ .aq false (nv r 0) (nv r 2) h,.z2 λr h=>jO ⟨false,1,[0]⟩ (nv r 16) (nv r 9) (nv r 3) h,.z2 λr h=>xv (nv r 7) (nv r 16) h] [20,25] [] [66] [] [119]
abbrev adP:=rs func19 [x0] ["^1Yj9N3ccpW2nQqBm@MPefp6Eu]_6CxEQdlGrl6W^?^7iOreP39Lj<9qv^WV","PBY@07rjhxKIJ:a;=th4j=?SeI8pN^Chn73<3eprVebtmS2WcH7cpsxP]O]E","nhKm_fOo;Qen0_KN:bXCw.s_uOvKk.A:[:;0zB=l8@[j6A3Ey;reI>Wj0^VD","<V6Hrk36i[`nu47a@Z[::QD0"] [.y 20000,.U (.a 3 [0,0,0]) .neq 2 0,.U (.a 3 [0,0,0]) .neq 2 0,.y2 λr h=>JZ (nv r 0) h,.x2 λr h=>fy (.sl 3) (nv r 3) (some (I 2)) none h,.x2 λr h=>iI ⟨true,3,[0,0,0]⟩ (.agg []) true (nv r 10) (.agg [(nv r 0),(nv r 1),(nv r 2)]) h,.z2 λr h=>jO ⟨true,3,[0,0,0]⟩ (nv r 14) (.agg [(nv r 4),(nv r 5),(nv r 6)]) (nv r 0) h] [5,6]
abbrev adQ:=rs func20 [x0,x1,x2] ["zCa>/s/W^rUuTLOm4NBIT95SJ0I>6^VWP^L7vXUWA[lMcnlL[>U@<oAXinG0","Vf.yl8=>A]KwC3iRP5c9GK`gAjS"] [.z2 λr h=>jO ⟨false,1,[0]⟩ (nv r 0) (I 0) ff h,.z2 λr h=>jO ⟨false,1,[0]⟩ (nv r 0) (I 1) tt h] [] [] [3] [] [35]
abbrev Rc:=rs func29 [x0,x1] ["YSU@I]^fYrB<Z5mrTNGZgGql<i=mJz1gUI?MlAGF_QrfYwR08>Rifro^l5ko","d:7zoO4"] [.z2 λr h=>C3 3 [(I 0),.aq,(I 0)] (nv r 0) h] [7]
theorem Re:dT 31 [x0,x1] (dn [.I 3 0,.L 2,.S 3 1,.v 1 [0],.u 0,.Q 0] [x0,x1]):=rp func31
abbrev adR:=rs func39 [x0,x1] ["E2paw4@tEEkb:R6E4W[dG=q7sx.P7sc1K?M"]
abbrev Rf:=rs func43 [x0,x1] ["Ej]alwZ:4WaFj4]ywH2/n=j[xz?0"]
abbrev adS:=rs func45 [x0] ["zoqu9>j;:Cw?xu^]]L/5gPPbyQ9bMuibeygpDQke[XcAsCK8HwP0g=qB1/L`","mIFr:6f.YC98x0J.zewS@AH3T6NTZe4l@BlV8KTsE0x=X;n26X6MmS7YRmK3","BUfK1umFM^gI`8/Y"] [] [] [(2,2),(5,2)] [1]
abbrev Rg:=rs func49 [x0] ["Xxu:/HfdREpzVf[04"] [] [2]
abbrev adT:=rs func64 [x0] ["EVD]3h1PWdu1Lu>f=J@W8zMo/v8>G`>P9v6`4@Ami88bJ9E:E^pgV>rkO4ck","zmGabMk;8[B?7<[[6GzHy8x@NQO"] [] [] [(2,2),(3,2)]
abbrev adU:=rs func68 [x0,x1] ["loH6IT6Q?E3"]
theorem Rh:dT 78 [x0,x1] (dn [.n 0,.y 0,.w [.l 1 3,.c 0 [.s 3 5 2,.v 7 [0],.c 0 [.Q 4],.p 4,.R 0 [4,0]],.y (-1),.Q 0] 2 [0,0]] [x0,x1]):=rp func78
abbrev Ri:=rs func81 [x0,x1] ["YS0]7W^L>/N:xj]Bg91mzqzm8WpHTq:pRnr0;bs"]
abbrev adV:=rs func94 [x0,x1,x2,x3] ["lv]:cJ2w`Hor;rlMHf0?/Q8nIu0qyYU8b15x/]6;HGEe`zulA=SL"]
abbrev Rj:=rs func101 [x0] ["lH?I^aADPmT2rXuffAxM41[nZ4A3HQXy__PmGq00U1`:TNTna^pe3cIKfSZa","0:z4@z1O"] [.y 9999]
abbrev Rk:=rs func104 [x0] ["E01H25BzUSa;?ue]/b7c5K>e?.KFqWKqO89F=d5zm.rckDmnoo2E>]kC]UvL","jPkxH.EPS0"] [] [7]
theorem Rl:dT 109 [x0,x1] (dn [.n 0,.y 0,.w [.l 1 3,.c 0 [.i 5 2,.e 7 0,.c 0 [.Q 4],.p 4,.R 0 [4,0]],.y (-1),.Q 0] 2 [0,0]] [x0,x1]):=rp func109
abbrev adW:=rs func112 [x0,x1] ["E=?gV<WkraWuaZprEdp^9CGLcq68vIpoA"]
abbrev adX:=rs func120 [x0,x1,x2] ["J3FKQOAZ]=KgyW`9oKi;MldzX6dsu"]
abbrev Rn:=rs func139 [x0,x1,x2] ["5KmLCHQa8E1heEPgvY7V9U]uzH5.e4x:sWH::2VX2H`sWsoPPKLyl45"] [] [8]
abbrev Ro:=rs func140 [x0,x1] ["E26]Z3Xg6eev?]VGhP227Sc7XP9[[qonzX:eQwfQ76_ZW.9f>VnILxtCN/"]
abbrev Rp:=rs func150 [x0] ["EjEJRf^7mU1TRY@F_L7i/2ZXIlofmQZGIvO<IXXqxZRP?b2Q1OIh4@4Q9gQ?","LJKtuz2z1^;fmWCn=CClgBruiAGeu4rbx=8R?n_TGYaa8[R5cDXS[[tiCwuf","hHZ=L4U:OSy8^trl`FtyzyHRpJvLcI8AG^1Iyj.C=cGwN7H718q_FrHljm7G","M]Yt_V7Crb^ogl:/hJ<I/h@A296;<jJrh7TNC1eMXMBnpSAB@pt7835tfN><","9A2GftMth9Yr1pDXvPcU`ViLbJ5uQvDy5Itj]SS_d[nUs>6iNOF/"] [.x2 λr h=>tO [(nv r 0),(I 20)]] [2,6] [] [] [] [14,36]
theorem Rq:dT 159 [x0,x1] (dn [.k 214 [0,1],.y 0,.B .geq 1 0,.Q 0] [x0,x1]):=rp func159
abbrev Rr:=rs func188 [x0,x1,x2] ["5KFV7fC]u.Mh`aYrQQM_o?6D4qZ8NtJMdiAAyi8aq0iN::7<0"]
abbrev adY:=rs func203 [x0,x1] ["lOisxgz2Vit:l8ho3^v3oHTRC9O46quCOOxQ0O><aZU`W1dRe:Ia>;vgf5Z:","Sa/1l7FEt6k;]Z79zHVbU1RJ1lvnEnlPCQQ3iDnGnEX8A20Z>zO7o8Zj/"]
abbrev Rs:=rs func209 [x0] ["ECz4qcV=Bpe?<5JfQ1^2qA7B`Y5y_8i:kEfGBK.emO1SqUQ5g;i6R:K/o=.q","3LyRMwF@]RtM_Icw7OP4NB0"]
abbrev Ru:=rs func212 [x0,x1] ["lcEm06hMb]GD^]fUF?eLdBUwTC5^m]T8t5S]cBE8o?S[CJH]NUG8/^6dPTQL","VB._WTIKQka??713FN`/YQ]RojJ<@Wd:q6h/_.[Kls8H0"]
abbrev Rv:=rs func218 [x0,x1,x2,x3] ["E]RNX<?^.nBXUq_lJT3B7tDJ?7Q?4EO[vx97[xbQ]ONxbIJg9uA_[s9NvawA","FNJl<lz[A0LFBilvQE`x=;?NCprfyew;kb2.dFz[84.aBCsR31]y7S16QcV_","4?g0MTnB]h/`aW^.hc"] [.U (.a 3 [0,0,1]) .neq 0 1,.z2 λr h=>A4 ⟨false,1,[1]⟩ (nv r 0) (nv r 1) h] [11,12] [(8,1)] [] [] [53]
abbrev adZ:=rs func228 [x0] ["PyuUQ540"] [] [] [(2,1)] [3]
abbrev ad0:=rs func232 [x0] ["^@AX`HjrqXM]I]USm]1BW1C2^?<Mmqb6fbqTZj[e9hgid@2K2s2/<i;P@_b9","bn9hyiWJUq=fCbVkdF_>cEa8]raS12J/=aHEG1cx4D<K>8NbT:7KKNE^HO2V","uf3p>tQ5ezK]@lqm1=RP6v;eyJ9sO1w`zUL/N/R53G@4uSI<:Feb3Yi:CfTu","w`ieBn5nRl"]
abbrev ad1:=rs func250 [x0] ["lOzZg7F?uoxtCwl/wr.[xSxl[?nf:G?`eZ5COKCwaPqeU.rT3I/QjnT7<etj","IvONd^ZMI0hqK/kayv:P5sze7;]g;omm=hBP4`W[4qBmgGMepskaRTev;]qP","Bss`_Lkt@RRmDXW=CoH1bla3]@2S/Pa_W2pulz/s>Iw>q.=Im>qX2_1vAHKD","s2ydr4HdZ@rwR8Dl1H6/8voyMCK[9cb.7a:0pTvAo;etE]wrdEC/wt5NM5cT","VcQXi=7HdL@WIJ/gB1IRwngFi3o6Iewyfkp[gXhPqkkT9uc[J00;wbP0rd]=","CF9k`[/:Bl4@UYjnlGlYK"]
abbrev ad2:=rs func251 [x0] ["EC@V:JLG.:p4>skJXkfzml8?zYop0D<yuK1;CHrKWdTIx5JI43hFi^ANA4MS","TLz[d8e2;qF/YwpHyl_BXBRVV=dl^U5]xI[6Fos/@Y42:u<TBHRknRcSRQnP","xEHdf3En/e]3apyJCgzblZhK<_uYxZbdWhAMzsS>w^fTXoc:SOHI:A/6<7VI","qJ@XcE[afB>3eup7bX?QrxfdPlO4"]
theorem Rw:dT 258 [x0,x1,x2] (dn [.M 1 2,.r [.n 1,.B .leq 0 3,.G 0 [.fn 299 [] [2],.k 298 [4,0],.u 0,.R 0 [0]],.z ff,.R 0 [0]] 1,.Q 0] [x0,x1,x2]):=rp func258 [] [] [5]
theorem Rx:dT 260 [x0,x1,x2] (dn [.M 1 2,.r [.n 1,.B .leq 0 3,.G 0 [.fn 303 [] [2],.k 302 [4,0],.u 0,.R 0 [0]],.z ff,.R 0 [0]] 1,.Q 0] [x0,x1,x2]):=rp func260 [] [] [5]
abbrev ad3:=rs func266 [x0] ["EjE^:qVpvR0whT]=B6"] [] [3]
abbrev ad4:=rs func267 [x0] ["PfLeU8@suzE_7bbsGB2"] [] [] [(2,1)] [5]
abbrev ad5:=rs func268 [x0] ["wfLeUm^QC6gJEq/tGB2"] [] [] [(2,2)] [5]
abbrev ad6:=rs func270 [x0,x1] ["ECiNHWv:F`P@JAlneLONhMU>EOnw.K]jIjmpTNlCLCCbNJ=Tntu/_WFLUhnD","4PEA68KF1.l0D^Un0CVu<rRZ1EN8kv[CZ0eAVG_3:tYff3ASnd;]:[]0ukW5","045GgQx4JtErGRYkugKP9]_E[;eA>I@jNAjH@4L_8akS0TnseZt8RbT<dWKz","TfAwLR2/f<k./t?[5lV_a3"] [] [] [(4,1),(9,1)]
abbrev Ry:=rs func273 [x0,x1] ["JLgGzTbcu/M_eL?tLy[D0WWyD`yWEx;2z8/2QdZWVFI[T@m=cQRlMm`LxHf@",">5>c/_zE4].APWBHzt00Tq>59xvd?=?WUkRlr6QuN<1xYqNAUf_9GkRnyDyM","o3^ROZukTj.FKA4nb/riy`[J@7?;rd[_1I]XMb20Vt:q^wVso8J^^6qv/yzy","B5XkKl:5XqnV4ZMpcbwyHiYdtGwl_;UVxGpFHM4:x@]e7uhEqcRTxse03;YU","gm4SUTG5go^FX7DNoVn]2>j2t_9rU4uCw`qMA5"] [] [5]
abbrev ad7:=rs func314 [x0,x1] ["EjE7W9oLvon@bV;2_mYr[nQu5GzZrK4=FUSMHW?nIU^Rs>3vq^qdt:]Te92z",".kkr/@J0qN?5iUqk4X>=:LkQy@M7QIblwy7HcEtnaeOJ=N>.zSmoVRr[E3DU","v0o;5gRRT^U7XOd5iAU7"]
abbrev KE:=rs func318 [x0,x1] ["JmnPly/gq[t5I3JdXGv0;TJ6KHGf/S[muX6zf?D`pbei65.lG;9Bi;[CuI:G","=0a7Vw]lWu4xOO0fe9RRN<>.Ez>qwOZxfcPwapI/"] [.N .map 0,.y2 λr h=>A2 ⟨false,1,[1]⟩ (I 0) (nv r 2) (nv r 14) h,.z2 λr h=>A3 (nv r 4) (nv r 0) (nv r 6) h] [] [] [] [(4,[0,1,2,3,4,5,6,7,8,12,13,9,10,11,14,15])]
abbrev Rz:=rs func319 [x0,x1,x2,x3] ["[o<:ifISBxf0T<y;yEcISN[n@iL0RvNgT7WsYG@]o12czi;g4"] [] [10] [] [] [] [32]
abbrev ad8:=rs func320 [x0,x1,x2] ["E0:.j1d:kK[QaMhWT6Zn_ses=/7:ntHFiElU5ZdQ26j:7Tw^j06._[HKuVon","ltaOFhQNH<2XQoB2ss]N:nzP?.2Bnu]l`F.W?t5TM@j5pJWfq.uQlPUTMi0x","`HlK:BD4l5oOW8mT4?zqE_z5C<aNKLyJhl.Ypl2Uw`=OvX0^.DValL1;hYpG","289d.7wSxb=CO"] [] [] [] [] [(5,[0,1,2,4,5,6,3,7,8,9])] [18,28,32,36]
abbrev ad9:=rs func323 [x0,x1] ["zsl^u>aZopAyJos/V@b4Xo@s;r__>K@=<[wEMFh]q<u2vhpxvYUO:@x<t8si","<k</8jgp.0GlC[L;u@M3vQjLz^K:nZy1jX=h4sjnh9sp:U3;J;EKgo"] [] [4] [] [2]
theorem RA:dT 335 [x0,x1] (dn [.L 1,.v 0 [1],.u 0,.Q 0] [x0,x1]):=rp func335
theorem RB:dT 338 [x0,x1] (dn [.k 93 [0,1],.y 0,.B .geq 1 0,.Q 0] [x0,x1]):=rp func338
abbrev RC:=rs func341 [x0,x1,x2] ["ECE:zy30FK`URJ/V]`R:?NWObSYQ8pBKE3BfRyfyrfIX7SrzuR/EpPQeCNXF","68GDTwIE"] [] [] [] [] [] [19]
theorem aea:dT 343 [x0,x1] (dn [.n 0,.y 0,.w [.l 1 3,.c 0 [.i 5 2,.v 7 [0],.c 0 [.Q 4],.p 4,.R 0 [4,0]],.y (-1),.Q 0] 2 [0,0]] [x0,x1]):=rp func343
abbrev RD:=rs func364 [x0,x1] ["qFiNTK0:7<^r9:=J@C"] [.x2 λr h=>A5 31 (nv r 3)]
end
section
open Go.Proofs.Tryz
variable{x0 x1 x2 x3 x4 x5 x6 x7 x8 x9:AV}
abbrev r5:=rs func5 [] ["3;b5d/R:e03XAhR_kE[:zE8FW7Dt:VW[3UAF/>ho.7Wd79yZ4jeoiNG60lXf","I=v]X^g^dYgQIwbHG8JC38N^pPJql:ZWF9pK[epYlXkCQ6>qkXnCA@Ick::N",";k.Gw>_bOunaKn62Nc4lY3SC3caih65.QtVO2ut4Q`y[b=g7auU@R>wTBr1y","1YzKldFVKl?J2^ac^jS3W2:zAiP>x5CPw:UahRgEGpscdGerj2el7Jf_1l4N","s.`qWL8p;uMlSm1_/>knELrje2>[D:5Lc;v2IQwwOUqQ.^ymD:CstawrdWQ_","nju1Nh_s]P^5cz7HPkHaHBnZ8c=jQ[@n[v.8^RpXnjRgVyVNiPwzsgA26Ff6","Bg^>jNimp1r5QC2"] [.z (.str [97]),.z (.str [98]),.z (.str [99])] [1]
abbrev aec:=rs func22 [x0,x1,x2] ["EjEJf:Og6LaTt64FqTMzsWmJ[iaP8SYBaY:hzA9HkT]j.Mm^C3gzE[[hB212","x=/8<Johafn3Jv>B_AOoaMsxwktubdkm`]3"]
abbrev aed:=rs func23 [x0] ["Ej]tze5cCZocG7=tKtTz1n6tJdWmv.`yNAAAfsN;uRGS7"]
abbrev RE:=rs func26 [x0] ["EVkfGpcxDY7F@UY0G^N58k=b?:=^=Ee<VVBixriaQNkR<ToW2lAzdxN1=w<x","OBw04>.WZI8GMk.n;Cx3KU.t2;mfTvu0dOVY@hK=ojqK[e7p@D]3Cgge/g.i","aa0PH<QGM1eb^jDIqBYekd:D<YYNNkw1s.IfsE[nWP9=1QE2ZdwT<MwVT?gX","GUnf<[U7n:Vh4z.suH1Iw><vPA?7b`>T4cQ@Zlu<T?cbwbO<dF=l47.W/b<g","KevBlS6p22<LYTk2w4^0FEEUK10=<5P=5Hoi>:GKKgZX4N7<E3@Nef]o?7ky","LjvB.TE/"] [.x2 λr h=>iI ⟨true,2,[0,0]⟩ ff false (nv r 15) (.agg [(nv r 1),(nv r 2)]) h,.z2 λr h=>jO ⟨true,2,[0,0]⟩ (nv r 19) (.agg [(nv r 3),(nv r 4)]) tt h,.x2 λr h=>A5 31 (nv r 0)] [11,14] [(2,1),(18,1)] [87] [] [104,109,113,151]
theorem RF:dT 27 [x0,x1] (dn [.I 3 0,.L 2,.a 0 1,.k 28 [1,0],.Q 0] [x0,x1]):=rp func27
abbrev aee:=rs func41 [x0,x1,x2] ["^ooRWmn]/]yw[TLwCRi9ed779"]
abbrev aef:=rs func50 [x0,x1] ["Ej8vLEJL[fyzvV<0.qIS`N0HJ8^N_liYhSfw40b.G@LCOB4=Swl:74MR`0<?","jnAW;Sq:U04D46Wzo/c57QP.j4M6PPKHVrL/=n>hL;QydaGokAP4[d/xuZX5","CreFLI;fIuiCsrAg[uE2:x/9I1Jrn9YoY0.J.0ZDaAiByDc.dOsk;fm0qJQ/","uqv]hVrv[w.ittUywrCOtfT>7_GZ7cSgxahYfP0s6HhYY8[JO]sVX_Og^z>v","`"] [] [5,7,8]
abbrev aeg:=rs func55 [x0,x1] ["lcP`uN0Mu_1.l^V?87HiF]n:uc@];PAe?9/_tXIutsEYDd>k2IM8>YTGPfap","q[bzyja7X]jx6o1kHXhU_;HdgOc.[s1=Z?;.Ns_nDZ2VKpD40syrRO6^t0O6","=uG=O0;qOBL7:`z7lDOXolvP_1OpOK>v]7xBAHaVH.B3d9zWMHwl5GaPK/0^","S7k_Fbm/?ces0?E0"] [.x2 λr h=>iI ⟨false,1,[0]⟩ .aq false (nv r 0) (nv r 6) h,.z2 λr h=>jO ⟨false,1,[0]⟩ (nv r 5) (nv r 9) (nv r 0) h] [13] [] [43]
abbrev aeh:=rs func60 [x0,x1,x2,x3,x4] ["nlaEqpQ6e4w7IthvJOj@Pi9EklpsRzUnxL2Ko]Sv;hLN2FxtUUIetfgZpmWZ","S=]DjnUWq=avRJ49/Q;`8<Ai@]o`6JrT6Oa31T2l?:lHLB"] [.x2 λr h=>iI ⟨false,1,[0]⟩ ff true (nv r 0) (nv r 1) h,.z2 λr h=>jO ⟨false,1,[0]⟩ (nv r 0) (nv r 16) (nv r 1) h] [9] [] [] [] [34,39,46,51]
abbrev aei:=rs func61 [x0,x1] ["Ej]:vkCG[zzPpzEm7:<lpP7.xJYI>YjMuvSrk]^VP53uB/kBz^5@sw6N8]LC","ncPns5iG0x6oc4m=E[Sq@MwZIXH7sFO_GK]1XTJ5@Nko;mh//"]
abbrev aej:=rs func62 [x0,x1] ["E0;QuXu?nvV9UI3DnwJ`IIf.h=U8M93qr169qz`e7uB==laoK8=j:AJE3dRk","0f>B]1_6iQ.PgRclWsqv20xCd4]2wgGgPvW^4b?G08q_3Daw;zFpW9VQ6jt0","a8<qMr4szqk<hznr4c9/_K<sQ=ae@lnO/A_:Jxw_0Ml`yK<nYpztVb?8PBcU","IbrpCw@.FpP^c[VpH`AI3o]AvH=nC=y@EcSWZl@HXQ6kr3"] [] [] [(4,3),(5,3)] [57]
abbrev RG:=rs func74 [x0,x1] ["N>BYEnzxG^Y/"] [.iV [(132,364,none)] 0 [1],.iV [(17,358,none),(132,75,(some (1,false)))] 1 []] [] [] [] [] [6,9,11]
abbrev aek:=rs func102 [x0] ["Ejl@GX.>MABl"]
abbrev RH:=rs func103 [x0,x1] ["ECSpUp6A_5yq6rHyVY9c5"]
abbrev ael:=rs func113 [x0,x1] ["Xbg:Q<wMu8rAGT0QSGD]KQTVV1"]
abbrev RI:=rs func124 [x0] ["PfLeU8@suvm9xefzFB2"] [] [] [(2,1)] [5]
abbrev RJ:=rs func127 [x0,x1,x2] ["^ZrNNm:?HOP.A8D3ww1oMhyqs@LNl7z?>rkt1B:.SQ>8gEKHIz9mfD^xSzNt","FlD4W]Z2"] [.iV [(132,362,(some (1,false)))] 7 [1,3],.iV [(132,362,(some (1,false)))] 7 [0,6],.iV [(132,365,(some (1,false)))] 9 [8,2]] [] [] [] [] [32,38,43]
abbrev aem:=rs func143 [x0,x1] ["ECUeT8vE.EfAwhiHYnu`K7qqKi2e0pjz6;XU5lV1`y0?9S8JA76KSE6oJ?A0","=vWlaJOnOY>I5rdjXBFqHIwhU4>WI19>U=c[/PRj8^1p_Gr.3/wo.`vax7`7","mB>cD2/RqWpK7Nw6D5[0P?NbOm4_eI:NEnGJiJ3ruo13M<ym?r/8aqawAFoX","jN5D_=^^oYK^QjZcAt?hMt]4mA8DVkHPIC=B;EX0pT2Rp00"] [] [4,7,10] [(5,2),(6,2)] [] [] [24,47,66]
abbrev RK:=rs func155 [x0,x1] ["lOiL[>Z1zGTCGu[bJ=Bb3aMa1Tt"]
abbrev RM:=rs func161 [x0,x1] ["EjNZrtGFBh]jEqX]J65QvqTiF/5"] [.x2 λr h=>iI ⟨false,1,[1]⟩ (.agg []) true (nv r 2) (nv r 0) h] [5]
abbrev KG:=rs func163 [x0,x1,x2,x3,x4,x5,x6] ["z4UW::o^r_G=Ub/x?KRO/Z]jdA6oNSgRSrx>8/MFPuihB8VZFUA0"] [] [] [] [7] [] [14,26]
abbrev RN:=rs func165 [x0,x1] ["nYFlX9B/"] [] [] [] [] [] [5]
abbrev RO:=rs func189 [x0,x1] ["YSfj27"]
abbrev RP:=rs func190 [x0,x1] ["Y@k^CV^t>/N:xj]Bg91mzqzm8WpHTq:pRnr0;bs"]
abbrev aen:=rs func194 [x0] ["EjEqoT0lHx6S6@:h9H@tZqm8G8M^h[Byt<5m9Qaf>7G50b</B_eghs@d9Pl>","8FvqEQCiJ:^EhhF0n;^RFpOcDrsP:4JS_DifF`aglP`^XWCPAV9ag38uf0._","7wvw/a6e<UyWB2vrcATN>]FlWjdODXm2eEYNgJmlL1S?v4qyY`O28@7Q_?y7","tc8"]
abbrev aeo:=rs func195 [x0,x1] ["EVwW;ns7qj;iSHTTFgWNXLDqRuT>0>fhf1"]
abbrev aep:=rs func207 [x0] ["E0NNBLDwPyBBQMLNgCBIdBErSl:HOBVaMe0fqZFO297?wfxqHF63yKK3pN3l","UfLXkOf7Tg?@kBvtKd.rS;`MKbmW7i;j8:vZ0R3JD7XXmVJ>HE>ay4IstaPP","];_^dDHCk9aC?mZHVLI31[99K9X9^5HYic`/:nOgv7T>aTaSqgp0"] [] [] [(2,1)] [14]
abbrev RQ:=rs func213 [x0,x1] ["lvuvLO?vSxF^/`X<X3RWtcFsf?A@7^B:dfwA_YO0"] [] [5]
abbrev RR:=rs func215 [x0,x1,x2] ["5KYQgfY:I_yNc;Xu9nCNuU[ZNUK4Ng<.]4HdyN2BOIxvyQgV[UHbO/@a.A[w","KvRJcW<PHm50"]
abbrev RS:=rs func220 [x0,x1] ["lk^0jDt.<Cm2p0irbCQDDq4`@spF;uC<7xPRG?SoKyvp:"] [.x2 λr h=>iI ⟨false,1,[1]⟩ (.agg [(I 0),(I 0),(.str [])]) true (nv r 1) (nv r 0) h] [4,6]
abbrev aeq:=rs func225 [x0,x1] ["EjYieJ<BEO^;D@wZT>4:O6b9;P>?K/575cbyq[J;wU6E"]
abbrev RU:=rs func227 [x0,x1,x2,x3,x4] ["aG?k2rf60hepWqr/du:QtT;_DK5mQj7alpHeTFPKyJQij;L<n[o5Uh[zTMP0","a3<>lnkcA@;Ogl=jou<_?a/cIs:E7MrBcM=;7[zBlcrvydoyvXzB]o6^mX:;","y^?ItJ[WmgPPM;_HbpGdf;lY9kspXlAv<kFfKa]rXYph;[MO7k.b4U4@wSbB","5a7O4g?]2w.uh=LC[96H@SmFT:M02DPD;H_.GQ6nN3r3]xG:PE=@lXm6Vknk","vHo.d0kq7jrjBBtCj:8Y=1ks`odPho[9"] [] [] [] [] [] [30,37,44,52,61,80,103,111,134,146]
abbrev aer:=rs func233 [x0] ["YgR28nK3Ir/^tpb7`nH<N0[1Gb`oByO"]
abbrev aes:=rs func241 [x0,x1] ["^j@xn>^xzdNCoJt>QZ=jgO@q>ztf"]
abbrev aet:=rs func255 [x0,x1] ["XbgM`=pw5v/HdJHiXU3G.kcOl<u6Wh[57F3H4jQHnoSS5/6OS2y/Dlrpvi]n"]
abbrev aeu:=rs func256 [x0] ["E0D;bzvs"]
abbrev RV:=rs func271 [x0] ["PCI=pAGyRym`wRm1453hsgJ"] [] [] [(2,4)] [5]
abbrev aev:=rs func278 [x0] ["ECkm_7.LWdrE7m_`aw5_ct^Ldh6?OHYUgU9e[VKH8?PbbCz@T..pcY8G/_S@","32:glf3uYFx^j1^F=`[YD/0LkpV0KQ>O]nygVhQl1t2ag@cME92OEU1Q>jMs","XPF.l>4pmf/Woa[U9;Y`5Hn^SK/jWlI4H_<D0vkmP5jTR>y8Lb?JHDxwV@x<","]`=0@kYk>Kt;<0@_Xigw2LH.uvr<OGnWoU]U3BKLr9@aRgVlxpNuBY]0d[T5","ki3hY05vf]]HjLiZefqIRfA6RFete9Gwokk5Lo_@I2DG_A4h0s@w0Yp0QDO7","M5lV:mR0f@yFhk.i?yvfHoA_^hn_tofhY0]B.1u:UP3qKzDyT4sN9KxaAuz]","An:TM]SaqCxM@tM1;UHh>j6GV4VrqpR6XcDTRS<;0/K:clzlwS`05n_U`2>v","FlZDCdLP?HffV`dfXJWLIPugb;wZo5qm5Tll?:TecDknJRNrwPaK_]_QQGR9","dV:;hV_s.idz<iqUCzgZ^;EgFIyUlLTFfHVR4VaqHM]P7TIpaKh4gIHoRcwF","..Zu6ZBJp4>5wsgO1w1c=AAQo;OcFuQW?DH/twp^RIfath9QP_=68iHnNRIm","UhGqBtbt>u]5Yb];CgSoyPaH;t>KF4jPByu6okxgy@tlrB1tkm@EqltiRi[@","f95xDbOB0Z^Qupz22XXu.GUyQzdw>Dnb6RxAxWK9Uja</L_2gfa<V_AMCe?n","Mh9Qr28l:y??Qjc"] [] [2,9]
abbrev aew:=rs func292 [x0] ["^@AX`HjrqXM]I]USm]1BW1C2^?<Mmqb6fbqTZj[e9hgid@2K2s2/<i;P@_b9","bn9hyiWJUq=fCbVkdF_>cEa8]raS12J/=aHEG1cx4D<K>8NbT:7KKNE^HO2V","uf3p>tQ5ezK]@lqm1=RP6v;eyJ9sO1w`zUL/N/R53G@4uSI<:Feb3Yi:CfTu","w`ieBn5nRl"]
abbrev aex:=rs func293 [x0] ["E01?BeEx2AK@afIOz.0k=a:Na=AM;NeR_Qa^ZX3j72orF9HA"]
abbrev aey:=rs func294 [x0,x1,x2] ["EjcRN;W.t[RSuGEtEOX/1xHbup:^/k^d?O0VR9:>ao`bvs9;`0JT1^R3>nA=","q0@7mn4iV^d]i>ZreIkKexysGShh95GmnXgrJWC@zP8CL<?OFP74"]
abbrev RW:=rs func309 [x0] ["Sp20h@dqI3ECd"]
abbrev RX:=rs func321 [x0,x1,x2] ["NCQwoYtv]7wAnBfGrP/^HmvLA/"] [.y2 λr h=>vW (nv r 0) h,.y2 λr h=>tP (nv r 2) h,.U .b .eql 0 10]
theorem RY:dT 329 [x0,x1] (dn [.n 0,.y 0,.w [.l 1 3,.c 0 [.s 7 5 2,.v 7 [0],.c 0 [.Q 4],.p 4,.R 0 [4,0]],.y (-1),.Q 0] 2 [0,0]] [x0,x1]):=rp func329
theorem RZ:dT 333 [x0,x1] (dn [.n 0,.y 0,.w [.l 1 3,.c 0 [.s 7 5 2,.v 7 [0],.c 0 [.Q 4],.p 4,.R 0 [4,0]],.y (-1),.Q 0] 2 [0,0]] [x0,x1]):=rp func333
theorem R0:dT 334 [x0,x1] (dn [.k 344 [0,1],.y 0,.B .geq 1 0,.Q 0] [x0,x1]):=rp func334
theorem aez:dT 340 [x0] (dn [.x2 λr h=>mb (.str xV) (nv r 0),.x2 λr h=>pO (.int .i64) (nv r 0),.Q 0] [x0]):=rp func340
end
section
open Go.Proofs.Tryz
variable{x0 x1 x2 x3 x4 x5 x6 x7 x8 x9:AV}
abbrev r4:=rs func4 [x0,x1] ["EjjXU^DQxN6W3c81G7Tps8WLZlzmun<?NzBH<;vVkY31q:OcUYG4bJE82/<@","3dfk]W?uP2S^WWEU1cgVpQVg6X;du8JwEeHR88B1UM_6_jl/8Vo=QiejS9DS","Hy:dFJ.;m224Z]0shx=l3gsNXmdX^^>`A8TPndQYwTcTbyU=H<kXf0uiZcr9","b?xIJ[eq_SVrFVpD:ljBqFV4_Ln1]`xsUDadmyZ;Cv0JDONymOH<5RLk<VrU","e`Eby0=AswSB?NxJuC"] [] [] [(15,1)]
abbrev aeA:=rs func11 [x0,x1] ["8jZXPo0`CC7I>=m@;>]m:YhW^a5"]
abbrev aeB:=rs func24 [x0,x1] ["EVYI2tqYd>D].mN5uptJ8P@pBO;`[fAFe33N?5HhYv6D^AzuFoEG5>eLB38z","/sQZS4<DOn>3"]
abbrev aeC:=rs func32 [x0,x1] ["[x.1b2fb@cEb;kiJO.K@5"] [] [] [] [] [] [13]
abbrev R1:=rs func34 [x0] ["P.y1UwFukxL?z1VWswf?zQLPW6gBjxR<BU@CC8CaA:iYN:JbM>.dKg`M9J9`","xgjM:"] [.z (.str [108,101,110,32,111,117,116,32,111,102,32,114,97,110,103,101])] [] [(2,3)] [] [] [24]
abbrev aeD:=rs func51 [x0,x1] ["EjEq5wM57LaTt6GQjf7>m72pw9M?iOe8zw7bzftI9JPZZsWmq>jMJ`zRH@i_","vHogk[6JPzuu_b.iR;8YwDgQ5PrVxzSp7RAQhZZ0xwlbJls:GeEzs9Te9]z@","fjZ^PL598@W]LRq7fv=joYd]10VJ22iB>>6W63cfjmM?zTUl_IUz[=XzVYRA","n=YKZy/"] [] [16] [] [27]
abbrev aeE:=rs func52 [] ["XQ0davrHf^V]:QZh0H7"]
abbrev aeF:=rs func53 [x0,x1,x2] ["J3FKQOh=GEy8gdHl35sK?FvwsyE/"]
abbrev aeG:=rs func56 [x0,x1] ["wr:2/zCbiNVDPlmnI1v1;do.pL59s`eVLsvF<mejt.H3n=7]XQcF.Fh/vF2>","z3O[7VsJSe5<J<k/YI?E@0UM2HQB/sVcnx8Bxq>GXoLCk2Be=;.GWEwp[oz3","F6@Ng2hrVM=IP2uCkZS/pVmBvMqgGJ?Sp2``mBG=e"] [.x2 λr h=>iI ⟨false,1,[0]⟩ .aq false (nv r 1) (nv r 0) h] [] [(4,1)] [15]
abbrev aeH:=rs func57 [x0,x1,x2] ["2VOpfWMC?;W1q[>qy</"]
abbrev aeI:=rs func63 [x0] ["l<NTj?P96/;;iXJ1lMzQAtO.h.VTLKAxfN<CAr0XlNrrzi.158I][^EbIBvJ","S:FJLVIuz>dS]HyR.tz/Zzh4Lc?jK_5o@pyY^oI]Z[5_KkN`oE0zg33"] [] [] [(2,1),(3,1)]
abbrev aeJ:=rs func66 [x0,x1] ["Ej8vLEJ`CJE<olaMMjEkEmUIB5K0^9^L.5xqSIv7r`5JH/y2ZOe_;;czLd.h","cR4mRUbQSak@kIVU9fc2O[P^HaQS.TXPe8Z=4]ux_0t<tI`kfL>nkmM3UilN","r]lDQVVRG0pNLh7j=rdk@QPtm0f?g?K=c@Mxl`ic=S.SX=E_pqQ0[aiC=919","ZID8YEijT?5"] [] [5]
theorem aeK:dT 67 [x0,x1] (dn [.k 78 [0,1],.y 0,.B .geq 1 0,.Q 0] [x0,x1]):=rp func67
abbrev aeL:=rs func69 [x0] ["w_8y7t[f.h[vDs9F:/ITuVzEj@rze3JVdc`O64T2tD2Y"] [] [5] [(2,3),(3,3)]
abbrev R2:=rs func75 [x0] ["5="]
theorem R3:dT 77 [x0,x1] (dn [.n 0,.y 0,.w [.l 1 3,.c 0 [.i 5 2,.e 7 0,.c 0 [.Q 4],.p 4,.R 0 [4,0]],.y (-1),.Q 0] 2 [0,0]] [x0,x1]):=rp func77
abbrev aeM:=rs func85 [x0,x1] ["Ej_7`rTLlzDv>z89TFCe`9rdRDQ]:TWr64yroWKKdzbIFdyUqGXvR`=967XY","zvm@>>g=n2MLFl76M5UO9l1M6uGHV[?`5MKYvqFSvJqR.mJ/Y>xiRKCPd5G0","4Z5Ylc@OCs7Tb];NKyvJbadn?UI[J3H4wU`hNEdXQu<8wSdy_wF@dHo3[v^s","Qp9Ftzz0uBbxcSCh15^JN_3gVRhUtKHmb5Z_qA[uX0jPnNgp6JtrvGiGB4nW",">?kBau88hLkE]crbiPT[Jo88MZ[J:77jGBXr4HW9t5F]?HoMpiTzKT9]t^j9","_>EL3oXe^y5zHL=?7/E?B1OpIuv9rY`emRIUZ]VmWYg9<qO99aEx?1tK[[dH","a.[UG:;PSItL5>.BHRxXYBEjziriB87q9IECgP>3PFg2TYYwbxY<`=.:>4`p","3?64KR4BYHbj2.rJllX7xq<x/Pbj?0>b_xL5]=bdIuGn_BLUjgA7LDgET]5R","3X/1UfWEQQ4IC5yK195..vj;OimA^Bt51n7Wm/P;NAWeN/=:x.PNZZ2NDF_A",">Df;6/hOW.[]igovUeeOjB41/eMHdi=t93rSKhUiIh36@Y4rNYK5x3^iWXe0","DrHJKY0"] [.U (.a 2 [0,0]) .neq 1 0] [6,7,10,11,13,14]
abbrev aeN:=rs func87 [x0] ["EVkf4s@9;<TCnfVqn=qs.e3mD.F]Rct>1uy/UFoS?x9?njIi]Zg^WL]nK=>w","CjUX8kqA8KtPu1cw0`SCIC7KUdR7:EhZM87JiObEsU7<:nnajN`RiPhz]TTa","NMsu]WZj?7qUz10a61"] [] [7] [(2,2),(3,1)] [9,10]
abbrev R4:=rs func107 [x0,x1,x2] ["zUPzCD:jLQ/Nrko:N634kAaiYpTUFjyd_Hz@6HM`NiTV>55NNO/6poPlLAMp",";oiMU:oC=:nG5PJ=a7MRZxxYPgMqQ0uGpIud9;/M/IQRkv8JHQqVvz>eTEay","tXeU27=EEuAqEhBFP.`CK7co74@]_OGog<jfwy=XG3Jp6GukYZ/bRmrN83mB","ZwK0c7;Gojmal2rMQVuXE6V^FTVwGsbbgAb>cly0T4ywbfB/be@y?W]Q"] [] [3,15] [(6,1),(7,1),(12,1),(13,1)] [40] [(16,[0,1,2,3,5,6,7,8,4,9,10,11])] [44,46]
theorem aeO:dT 108 [x0,x1,x2] (dn [.q 3,.q 3,.n 2,.y 0,.w [.l 1 3,.c 0 [.r [.d 4 7 2,.z (.str []),.e 1 0,.c 0 [.g [3,4,5],.f 3 [10,10,2] 1 [(0,0)],.P 3 32 9 0,.R 0 [0]],.L 14,.L 16,.k 109 [0,4],.s 3 2 0,.f 3 [13,13,5] 1 [(0,0)],.P 3 32 12 0,.R 0 [0]] 1,.p 3,.R 0 [1,0]],.Q 1] 2 [2,0]] [x0,x1,x2]):=rp func108 [7] [(4,3),(5,3)]
abbrev aeP:=rs func115 [x0,x1,x2] ["ECi`YdcJNbIfemkd/[a4CBs13YnKhzu5aJDaJGGp^rTNepDw/"]
abbrev aeQ:=rs func117 [x0] ["lH?I^aADPmT2rXN]_JAKVFR@gJK:QR:HaO[HXO?I<upsnsx]BAT;7K9M1bcU","G/kk[uu4Wi/"] [.y 9999]
abbrev aeR:=rs func118 [x0] ["PgLeUT/1_F84mxAfIB2"] [] [] [(2,3)] [5]
abbrev aeS:=rs func119 [x0,x1] ["qrdqM6vouVQr3AG]HBftCSeVhq@gmjLW]63eTgf/_`kA"] [] [4]
abbrev aeT:=rs func122 [x0,x1,x2] ["EjXExj7W61li`IwWlg7/"]
abbrev R5:=rs func138 [x0] ["Hz"]
abbrev aeU:=rs func144 [x0,x1,x2] ["wlcbY=^mvKDMX]MFbb;NS5yAt]hX5.CFH_l8DHr48"] [] [] [(6,2)]
abbrev aeV:=rs func151 [x0,x1] ["[?;Vz3vnt6<uh2EMDc^H3:zQs_:fnpbafPt/0"]
abbrev R6:=rs func153 [x0,x1] ["lOi`j?fA.PXgJ.AI=2BuxTzz14MHpx7S9ZN7OD9R.ZZFhO.4oNaC"] [.U (.a 4 [0,1,1,0]) .eql 2 0]
abbrev R7:=rs func157 [x0,x1] ["Ej8vLEJ`CJE<olaMMjEkEFs81mgu8Fuv?/mrevBMLIW`5Fa/E>/1>aqO=BTn",">uyk^tC98]vWp.?GuV=x:8mktLm1lay;Rqlfab_e=Ed8jZ/F=8>^LiMlqbOI",";0y2:zYgsn?`U48R2??<eG.GX;M/BxHWm19Yh^zV`_q^^N.ijaHNxOL98V.8","X1OlKr=FQ_HWzg9J:>23B8:IfO8gn[1mDl>G^=u@hoP`X4aDkHxqQ=G7"] [] [5,7,8]
theorem R8:dT 167 [x0] (dn [.r [.z (.str []),.e 1 0,.Gf 0 [.N .str 2,.y 16,.B .gtr 1 0,.Gf 0 [.x2 λr h=>mb (nv r 5) (I 0),.z (.int .u8 97),.l 1 0,.Gf 0 [.x2 λr h=>mb (nv r 8) (I 0),.z (.int .u8 122),.B .gtr 1 0,.Gf 0 [.x2 λr h=>fy (.arr 10) (gv G0 0) none none h,.k 162 [0,12],.R 0 [0]],.z tt,.R 0 [0]],.z tt,.R 0 [0]],.z tt,.R 0 [0]],.z tt,.R 0 [0]] 1,.c 0 [.z ff,.Q 0],.fn 222 [] [],.k 223 [2,0],.u 0,.Q 0] [x0]):=rp func167
abbrev R9:=rs func171 [x0,x1,x2,x3] ["lJHeKt7D6z;l@n5rGnSOt3T>P6eGX]bun4GaekC0i_OowC<<ce7BWkvgvxcg","0NVMk0:bb==v[PzGCaqc7tCfr[PZsO@jn7Em6FMxl0"] [.x2 λr h=>iI ⟨false,1,[1]⟩ (.agg [(I 0),(I 0),(.str [])]) false (nv r 0) (nv r 1) h] [5]
abbrev aeW:=rs func178 [x0,x1] ["ECSpUp6A_5yq6rHyVY9c5"]
abbrev aeX:=rs func191 [x0] ["lJSx0T5.`H9O_b@ziWh[7^DIa9.ZO0b0RL9O2w?7TmJtKwO1;IHF4BzXYGtn",">DIYmdOl`]oqw4O[hqqZ^b3ZeJ5dejBWqPF=@1wT5ko94Q3r4<GkMJWUe_`S","Yl10"]
abbrev aeY:=rs func197 [x0,x1] ["EVPNZh2ObNrrqTTTFgWNXLDqRuT>0>fhf1"]
abbrev aeZ:=rs func199 [x0,x1] ["ECD1Df]XKM@p`D1/lELKnMV]:m.=arUYTnI4oWqc1F??SB?9T5frc.v=^sCT","APrs7QSGRW08aS[RzEgdCC0Mb4l?sGn6.;yb]sKmB1ZEGK]/@j>@V24VE45S","8xcH`NBIy8o76cr`^tsSCe/ZkIqEj04IZ=@vwe4al2]/.yqZhG^5ZfAdV4lC","X6@C1A<SMUr8N=s22NL/1Xe]_Nhy1w`h^9QrgUnu>Hw1dYdKjI=.AYXEZxm8","=qg5iOQ1l9G@^lubj7CCHlf]PSJiHmO=dNlwULjX]X8J7QbnKX@Ymu_ty:_m","zNfeo5`Nj8LiAPP7pi=VBB=x9pO?6lZ`>=nYiFChn]m=@=@Ldguw//flm.mL","w2=YiKB<XIBGciqWkP[C=5GKZ>e3Xyv^82YIRysBA`=^IUfrvm[0"] [] [3,4,6]
abbrev ae0:=rs func204 [x0,x1] ["X;0^He?<vj001_di>p^.OaoVv98pev:dGFYdRM>?jJQIAeKj_MbBehqWxuOm","AKl]KTpcQ1hLN8.aAKp0>WMpuMYN"]
abbrev ae1:=rs func226 [x0,x1,x2] ["EawWK;<O0^SHt^H:TRt9aGD^m9Tb3=I^AGnZPZ9s]c8vM:;w9[?/bftG/"] [.B .andNot 12 0]
abbrev ae2:=rs func259 [x0] ["lJS>f_YVY`kF<nzRNKG1yCRX@]cfn=>0J2Ql4O4PoZu1>MIyRRfn`QoxjE:@","Y]7/:Qd@NQw6zka4N67:d/by@L@<2v="]
abbrev ae3:=rs func295 [x0,x1] ["ECE:gD<UGEMgu;nBv[uxPEef2pL:mjm2DPD8[1"]
theorem Sa:dT 298 [x0,x1] (dn [.k 329 [0,1],.y 0,.B .geq 1 0,.Q 0] [x0,x1]):=rp func298
abbrev Sb:=rs func300 [x0] ["7xk2l=fodxF`G@y?v.LgLW/5v]hxcVs4;bTaa3lfv7bhh4UNQZ5/JOFG1mL6","@UJJG3/<ohUK.pUrojO9/>iJPSr:/"] [.z (.str [108,97,116,116,105,99,101]),.z (.str [102,117,110,99,116,105,111,110]),.z (.str [111,110]),.z (.str [98,97,115,101]),.z (.str [118,105,101,119]),.z (.str [107,101,121]),.z (.str [100,101,110,121]),.z (.str [110,111,116]),.z (.str [105,110,116]),.z (.str [115,121,109])]
theorem ae4:dT 301 [x0,x1,x2] (dn [.M 1 2,.r [.n 1,.B .leq 0 3,.G 0 [.fn 332 [] [2],.k 331 [4,0],.u 0,.R 0 [0]],.z ff,.R 0 [0]] 1,.Q 0] [x0,x1,x2]):=rp func301 [] [] [5]
theorem Sc:dT 302 [x0,x1] (dn [.k 333 [0,1],.y 0,.B .geq 1 0,.Q 0] [x0,x1]):=rp func302
theorem Sd:dT 305 [x0,x1,x2] (dn [.M 1 2,.r [.n 1,.B .leq 0 3,.G 0 [.fn 335 [] [2],.k 334 [4,0],.u 0,.R 0 [0]],.z ff,.R 0 [0]] 1,.Q 0] [x0,x1,x2]):=rp func305 [] [] [5]
theorem Se:dT 307 [x0,x1] (dn [.I 9 0,.L 2,.S 9 1,.v 1 [0],.u 0,.Q 0] [x0,x1]):=rp func307
abbrev Sf:=rs func311 [x0] ["E0Da6G9qOVcY@tLbyATby?Rc>fEy/41RbN].i?ur;x>JgwoA"]
abbrev ae5:=rs func316 [x0,x1,x2] ["qr=jpD5qa3rsyKE"]
theorem Sg:dT 336 [x0,x1] (dn [.n 0,.y 0,.w [.l 1 3,.c 0 [.s 9 5 2,.v 7 [0],.c 0 [.Q 4],.p 4,.R 0 [4,0]],.y (-1),.Q 0] 2 [0,0]] [x0,x1]):=rp func336
abbrev Sh:=rs func363 [x0] ["qYZdr`LtbHJl6WX.uvjS4Nc7AmG6"]
end
section
open Go.Proofs.Tryz
variable{x0 x1 x2 x3 x4 x5 x6 x7 x8 x9:AV}
abbrev ae6:=rs func10 [x0] ["EVkyi2X95ETO7H1m^?bjL:yG5p=Ky<KjKpD:dt0TOkGDEuSgq/Op_ijBaWe1","eJl]L`:^ED.?G2mR?Ay=UIv7x^BUBAQ:fiqib0kG/vc[8;8WW52h<p95R=kC","ElJ<w7Gtqj[;wc7oF8qUq0BEOp>`XY0[H2<f/ZzD;a>4Y<Nz^pyrKlaM92?N","BV[@mzF<Cg3u2"] [] [] [(2,1)] [18,74]
abbrev Si:=rs func35 [x0,x1,x2] ["lwI_oja<YQwBoCJX.pvjK9C9?l4A0Ke0S>V1@ATTbNtHjMWAsm=m.1TjHr4S","DQW>S1r=/CVjfzClT;"]
abbrev ae7:=rs func38 [x0] ["EjE7D>s>uN?:KAp=>^>DHc[zzRRPsLY_=dYGOgc0qk1TvN62"] [] [3]
abbrev ae8:=rs func40 [x0] ["E0;@JLDwPyBBQM`2zLrtJ8e15w2?aeY0u=Kd;5xNCkOiYKpPGSpLtytpK`o[","?xs9A;lH3EyTbF4@khYi6SEaL6.h4<E_/GV<_BKIJppJXf5m;gqk89bmn5fJ","mrPpMGuq>VoltO]I08u7B4=WQFJI5UGMunn.PGfOelUwxAiTlcQ0"] [] [] [(2,1)] [15]
abbrev afa:=rs func48 [x0,x1,x2,x3] ["zQO]y5Yxt4lcgCAXk1Vh0Y[lNux^wst[P7A/9cG8x@G8fyi6zFMM6`il;1"] [] [8]
abbrev afb:=rs func59 [x0] ["E.cpWfgX^tVfETY8v.r65"]
abbrev afc:=rs func70 [x0,x1] ["E8Mko=;nZBe75A9x:Rr3m4s1Gqez1.GugH@NHp8/kmmqojTI/B:9sJtoa>q_","np9y6t/^mTL`j`:q?MeFw6I4Dz1aq2]B0]H<_E5CAQfr`02K65iQ8toc]sEf","zvA=q9ky:1Dra0prDXW>kw=LiCbNEOj7?0e45G0N=5:H[/"] [] [5] [] [44] [] [45]
abbrev Sj:=rs func73 [x0] ["EVWkR8tpl[EkYC[itwvecxAmIFvG17nkD@7eJeXMSw3N=x;_Ii=qjo9l[LsR","X8oHI@i6z88b=f.8quCy?JiL_6O[z4;7CElMNlBDpElQTM/l[EO7_F0ne[u4","kX8Fi</8IuGUg<G5KcLqYgY<"] [] [7,9] [(2,2),(3,1),(4,2),(5,1)] [] [(10,[0,1,2,3,4,5,6,8,9,7,10,11,12,13,14])]
abbrev afd:=rs func88 [x0] ["Ejlgd4[M@?Bl"]
abbrev Sk:=rs func90 [x0] ["EjE^:qDjuNt3@KFF1M;HQu;heYM2WMO?I:ty6@[Kn<q;J<b<BEhaN:yQsB_n","8Lcsie5E.jyj8G]5DFipX><halhm5E^6<5@TDcri7?dI/8PCv>Ww/To2PHFt","zwnz^rIHSi@SCbH5I:H=w[>KXxng`nyGb_lEPIllfH"] [] [3,6,8]
abbrev Sl:=rs func97 [x0,x1,x2] ["z7gFot4u;k_Qzs=C3ZJ2PJJpBl<rAe4.]_xaLFKAM;=b=^aErDs1wlR?.ij9","y:L4TkSzPZwlOwT0"] [] [] [] [3,4,5] [] [22]
abbrev aff:=rs func110 [x0,x1,x2,x3,x4,x5] ["SZ3E5Pr=bbX@wFG3Xu>3rQy.?b;zlclyV_E4WR77YR6bQzD?ymK[<l4j.7mT","q<L@8mVg:QaV=PZXOM]z>2F6fDR<jK3`XKSt^6b@"]
abbrev afg:=rs func116 [x0] ["lOSQLUIJjlPip9hCYQTOX1"]
abbrev afh:=rs func123 [x0,x1,x2,x3,x4,x5,x6,x7,x8,x9] ["Gq5lhZVYT//qZ=`6ME]Pww2;T3^usDV<em]TrLhC4gl4tA?n9UF;^RdR//j<","hga3Ug^<.qZW]E^Ua2COi^3vdR40Jx>v1z_y6vt?6l@P5b2oAinx=43itFz.","go;cjJxvzz0Q14bBqkL9>qW].pj@PfBrWV?sW50PXm/42/3Sp/:L;Zqx7ZAf","_Csd^ZNIr.DR3yHkaU^zkigMsH=EGs4d:4.8@bRsT3=jV0X2<y[nF<p`D0AW","YICxe8=f@37tDBuW:cHH[Bcp^x7JrfQgikAAhApzWpw:/"] [] [] [] [] [] [51,97,117]
abbrev afi:=rs func141 [x0] ["EC@V5[B;nzNXux]en=so@QNBHTqFgbWT.Zmwqaae=x/^O.Bm2.WcO/ZkGR5u","?/HL<8/LpucaLpbHC>EjvaaT8IX6PSwPrIMAdJR//hPT:lsIzeGb:_ER?eO`","57GFbfY_Xcy1py>^x>p>/@=e.y4V@ba4gs9E03WK3FM8vGjp:mmzdebNKMUk","bmNkbV:32p.F.]uX@O/"]
abbrev Sn:=rs func152 [x0,x1,x2] ["[?;Vz3vZRt2]@?3jPucM<Yfg`d1[ON:]x0.U6EJ]:Y0fN5A6=C0"] [] [8,9]
abbrev Sp:=rs func160 [x0] ["z^AZHQ[3pd1O8.hrg?HxH`6CV0"]
theorem Sq:dT 162 [x0,x1] (dn [.k 109 [0,1],.y 0,.B .geq 1 0,.Q 0] [x0,x1]):=rp func162
abbrev Sr:=rs func164 [x0,x1,x2,x3] ["zc7U7a^i<BIWMEPVz:^n>H2oMKMbXfcHTP=<gXNEh8x4Hy[9Z;]9qVXZTDe0","=;YAr0NPgmYg?jcv9lja@kQY:FTww_G8iiTWj.XN?`[T8ssk6PPrWn/p:FA:","t7`58gfX^?<4>y?JV=Ku_93P2f;@pl=HH8xhc3Yzxt3inS4j2itv@l`BTrd9","<^gcGjW?<txaHu3C]gX?Kzsz6=PEDj?_N>O;84r[Y@jpX:ab5.eqlYsM^z5v",">=GhXV9HYkaV09.=Kp67yw9@w9[Gni;K5^fG.TkpP?1f8]yBxhjD5M?ePI]9","s0Dxv?BRSOg9xHnqu;B5j[04G7r^`5BhQHYq2Y8V3Y2o_<?:ol8iOrZeGUqv",";kFk;`Z21JX=7jP=5m[5y/uNTD1ckbE0Qn^/VBb[5o0klmaskxpypa9dCu?q","Ylf^iiFQkCYJBL:V[dTsHa8NOsnJ32.joeaT?[xQdXQdA8B1>txkSC.[DRYU","DXeRvWYwScMSt.A0CjuOw2OLZO]._o_]^?zNdSAUMt^iEner?qzi4b;`[XKd","2dL.Uve.N@47^2"] [] [12,14] [] [5,6,7,111,121] [(19,[0,1,2,3,4,6,5,7]),(21,[0,1,2,3,4,6,5,7])] [70,103,113,123,159]
abbrev afj:=rs func166 [x0,x1] ["Ep1.REOxfS4i0Pqum`QLdcDOJ4CqMe_zVjOpY@To98LV^TwnMAO53W?/"] [] [7,8] [(4,3),(5,3)]
abbrev afk:=rs func169 [x0,x1] ["lwph<g2yHci0SQrAj``ybCu1m`MP/"] [.U (.a 3 [0,0,0]) .eql 1 0]
abbrev afl:=rs func175 [x0] ["l<uqFadTTkMIiy9pBlsF`ZyP2`zmDaUP]k>2qLJ]75=AG2]=bu2nvCIUl/n2",";Kxzu[KUa3sb^MSI/"] [] [] [(2,1),(3,1),(4,1),(5,1)] [] [] [20,35]
abbrev afm:=rs func182 [x0,x1,x2,x3] ["aG?k2K]/9X4@/gpc0L`2V6?ampH4w0w^ndNca/JY6fbK=.^XoaN?FzdX3Gr7","0PiYg.lr@hln6CZ<f4Ah;il@pacUPbWN8rPyks<Q9bwUi<[3sEe=lYiJxGv4","5X5O<ODljL^RHI.nXS/7f@6FTZWUax0@4skLr2I@X[_QDlTsGuNHQ^mxu4wC","3CT`]ZEjBsW_mW^JnxJk^Q@o<cT>Qufk@eHK[xhcLfH4QZApTa7?MIodR392","s[CRQmvVbnbg3"] [] [] [] [] [] [27,33,39,46,54,72,92,99,121,132]
abbrev afn:=rs func200 [x0,x1] ["ECDWtOQ1ZXnLgZ`^2x98dPLv:a8qfpoU<4X?AO:>ou^a@u>tYkIqI=@x14uI","Ap^.:][CcEPz=7aeCr27XYj`HO7lA<s]uwqu/`5v?vEpl?mVc.ojxngc6oCF","IvbU;5Jb>pXy.<mb?w]IG?jxGbL<z:=yR:Thc?X[JOAWEBrqbaoYi<:`hson","Jdr4IF=?MyBpPXsVtVaOEld0F:XA>ffJ91l7:>gkkUo]wk2yOy]f]HGpY_Ic","pdeUf<Y<OyRRMcTx>v:v<fUirJLGILortGcI3?tXCCoL`Ib?7oS46a/z9wXf","j]eCdj:f2AZ[zCKSWg2mB`MOfjp3^Z>pX^]r0cB/QX]wxyVeyLdxC^@Js1Db","h[_y]JP>ra]/^n@:37>4:mf4fd`6w9GVJvuF9JK=5R/0qgI>b_UjH.cU<LRZ","I]l3Lwz.uuFOoJCd]1C/hHt/c6Hh[a[H<mTCksjAk</YFAyvsBvS1dJp9u6U","4/"] [] [3,4,6]
abbrev afo:=rs func201 [x0,x1] ["ECi`w7I`;xvGr4x=Zu`>4vYI:i8S1`A_wCcphmBQo?0t_A@:L_8GyF?AiPuP","=jQ`t;0G2h^V2H0:>3Y/nrR3UF_7HF8rAa2.hOIB>WMtmzula8kz=Jq6u_]Y","oIIs=Z9d<u_yDJv@jTXW[`wrUGdcO6`^DvXem3aNcANit2=QBB>UaU/lhAzJ","4:Jr.YtC:;vmI__lJ`G:uLwY@=gAWjf4=0`I17.nEp0ezrka:ic[pw@/[hE9",":1Gx.8glvA.2Dc8.18f"] [] [10]
abbrev afp:=rs func206 [x0,x1] ["5Z]Dd@=9ildXz[Nw5AOZUvRYWRVgBlDVE7N5EzPn7d3WmN8Wd7A]?tpad9zH","93uYYyFjIK;?]g`2FnThJ`CowCI1M"]
theorem Ss:dT 214 [x0,x1] (dn [.n 0,.y 0,.w [.l 1 3,.c 0 [.s 4 5 2,.v 7 [0],.c 0 [.Q 4],.p 4,.R 0 [4,0]],.y (-1),.Q 0] 2 [0,0]] [x0,x1]):=rp func214
abbrev afq:=rs func217 [x0,x1,x2,x3] ["Yg8Dl<Amf[BnEb`9Z206Lih95RWAN3`sTyjeNgC6@=T_kLxX3;O@0"] [] [9]
abbrev Su:=rs func219 [x0,x1,x2,x3] ["7UrwQvmcCSH?tbO0b<[NKK5/kYTQZ["] [] [] [] [] [] [14]
theorem afr:dT 246 [x0] (dn [.r [.N .str 0,.y 0,.e 1 0,.Gf 0 [.N .str 3,.y 16,.B .gtr 1 0,.Gf 0 [.x2 λr h=>mb (nv r 6) (I 0),.z (.int .u8 97),.l 1 0,.Gf 0 [.x2 λr h=>mb (nv r 9) (I 0),.z (.int .u8 122),.B .gtr 1 0,.R 0 [0]],.z tt,.R 0 [0]],.z tt,.R 0 [0]],.z tt,.R 0 [0]] 1,.c 0 [.z ff,.Q 0],.z ff,.y 0,.w [.N .str 5,.l 2 0,.c 0 [.x2 λr h=>mb (nv r 7) (nv r 3),.k 292 [0],.u 0,.c 0 [.Q 8],.p 6,.R 0 [6,0]],.w [.z (gv G0 1),.L 0,.n 0,.l 4 0,.c 0 [.L 3,.i 0 6,.e 0 15,.c 0 [.Q 14],.p 8,.R 0 [8,0]],.z tt,.Q 0] 2 [2,4]] 2 [1,0]] [x0]):=rp func246
abbrev afs:=rs func249 [x0] ["^SFB8PYHBADq[<dQ;@PxAZVPpDd]a`LS2D^.6m4/dHH^B.xG=VIUB/87NrwG","ZtF:^Q<o@@I>/;S`CfaWtZ2/:I1Y`>yX8[<oM92XPi?5lsR:HYBq5KC;Qp7[","3R5:xY0r>5>a>f]E`JAL40@h"]
abbrev aft:=rs func252 [x0,x1] ["Ej]ald`=:U5aQ9gEFj2z`Ud;wVDlo^Zyffv<?1=U>@Q[xBedgq3KH35r^3?k","HxiWP>Ik3zD@]ds94dqvPZr?KLLuoZbL8`nKj6`T@SGLWTjLxA/ObWrM^K?A","5?K5QN?tydd2>8"]
theorem Sv:dT 262 [x0,x1,x2] (dn [.M 1 2,.r [.n 1,.B .leq 0 3,.G 0 [.fn 307 [] [2],.k 306 [4,0],.u 0,.R 0 [0]],.z ff,.R 0 [0]] 1,.Q 0] [x0,x1,x2]):=rp func262 [] [] [5]
abbrev Sw:=rs func263 [x0] ["lO[/zuDo^siG@eB1p_5QpBO9Fm[_NKpt@tmp[/cmT5lI22[>Uv>K7dVpGdmi","9]j7AP:wmkli8rm7vp^=:ZtFKRBGXOTJSJiJuITdDgC^sM_2Dq@k<Kb:lDGX","8A:<]S@cNh>?zfo<4?iU?Z3@5_8zeerFf?ub;8]2=FOEr:.Gb@e6ceBtqpGu","P:ZvRR=j9okypw`IV@Glh9Et>Xo;UIOuJJN]2GYS7AbVO1Y_e9A6g2XVhngI","MQpRwvd`YEH>ZrOJMC@0t9Y=go0?N>;vInwDTKrKAN?FYwR/"]
abbrev Sx:=rs func269 [x0,x1] ["zclv7hG^1>WmE"]
abbrev Sy:=rs func272 [x0] ["wOI=pAKI^HrE[sv0F5W=tgJ"] [] [] [(2,9)] [5]
abbrev afu:=rs func276 [x0,x1,x2] ["EjE7W9oLvon@bV;NbHXSN]Ej1?z]v023<Ez.LLkCPjS9x]VY]pnLk30kMXpU","[K]qHetk;>SX/t8/w46"]
abbrev Sz:=rs func277 [x0,x1] ["aC^jj=D"]
abbrev SA:=rs func279 [x0,x1,x2,x3] ["9OKf`e9hUhqXmzh9KE;OgS/:0k<Sln?c/@b8Lf[yj`rZy3?3cEzVTC.wr.S6","BZnLitKWva[2"]
abbrev afv:=rs func287 [] ["zctPfIlgcA:fC4wMupGx1QVxOWET]<b5aa"] [.z (.str [108,97,116,116,105,99,101]),.z (.str [102,117,110,99,116,105,111,110]),.z (.str [111,110]),.z (.str [98,97,115,101]),.z (.str [118,105,101,119]),.z (.str [107,101,121]),.z (.str [100,101,110,121]),.z (.str [110,111,116]),.z (.str [105,110,116]),.z (.str [115,121,109])]
theorem SB:dT 296 [x0,x1] (dn [.k 328 [0,1],.y 0,.B .geq 1 0,.Q 0] [x0,x1]):=rp func296
abbrev SD:=rs func304 [x0] ["7VJN]zL3?o_U65X"]
abbrev SE:=rs func308 [x0,x1,x2] ["BII[?nvsCiM"]
theorem SF:dT 328 [x0,x1] (dn [.n 0,.y 0,.w [.l 1 3,.c 0 [.s 4 5 2,.v 7 [0],.c 0 [.Q 4],.p 4,.R 0 [4,0]],.y (-1),.Q 0] 2 [0,0]] [x0,x1]):=rp func328
theorem afw:dT 332 [x0,x1] (dn [.L 1,.v 0 [1],.u 0,.Q 0] [x0,x1]):=rp func332
theorem SG:dT 337 [x0,x1] (dn [.I 4 0,.L 2,.S 4 1,.v 1 [0],.u 0,.Q 0] [x0,x1]):=rp func337
abbrev SH:=rs func365 [x0,x1,x2] ["Dc1YfSx.jj738"]
end
section
open Go.Proofs.Tryz
variable{x0 x1 x2 x3 x4 x5 x6 x7 x8 x9:AV}
abbrev r6:=rs func6 [x0,x1] ["Ej6;nf.k9uSvKo;;]h7`/t7>zD1kXS18XZ9pZvtHk0eI53dVlzMiOtQEmi;f","jeSRf.=:4b139]bJE`a=JddT[<5_H9SA"]
abbrev afx:=rs func14 [x0,x1,x2] ["Ej]:Ou7Sj<]J<iE<tm[;OXvyyn^xCB:WLdh?1ZgJSdR9A`Fr/dNmpg?KPPJ>","n[vDN4UqhUwpE8asLy0"]
abbrev afy:=rs func16 [] ["2KdPq<^BCipb9xJig`VqFmnQmChHfqKi2y1oiG13=C=.oAwj;i2mw^erh/5Z","[SuK4FD]X0awMDt5rmUvBRf:fz7A4CZN_QhSpf<kosWXBb^sQOULD?_5q^/t","`T8[<?`[[tSCUBI`^P:OWELu76YQbANx<m[:/rTH.CVk^xKLQ5z<yFtzPoJg","rSlok2rz`ahyvErzfNHWS/sbRRep>EZGkj4z1N>l^8?deDpc7?_=fLiuwMU>","`^ZshDeU[RrUfSe12RFeeQ?kaNY/"] [.z (.str [101,100,103,101]),.z (.str [112,97,116,104]),.z (.str [88]),.z (.str [89]),.x2 λr h=>C1 3 1 false (nv r 0),.z (.str [90]),.x2 λr h=>C1 3 1 false (nv r 0)] [0,2,3]
theorem SI:dT 28 [x0,x1] (dn [.k 77 [0,1],.y 0,.B .geq 1 0,.Q 0] [x0,x1]):=rp func28
abbrev SJ:=rs func36 [x0,x1,x2] ["[?;Vz3v46_MR_OmoCM:xpaTwiVO2M/nDGHM>MMv2opxfQuPh8u@"] [] [8,9]
abbrev afz:=rs func46 [x0,x1] ["zn<E`V/Md7BaNH1>myq4Hzbw:9ozXzolf.kmDHHgNpXfqc1ODp4D6gwB^t[F","Z?=c6wvyLtiEU.8Kwa03lC/LjUW1Q1S4l[l8Il]WKhA:/;_/1h2nRWxK0Y"] [.z .gE] [] [] [2,13] [] [37]
abbrev afA:=rs func54 [x0,x1] ["2/9O^o4qRn`1vJ1j4r/LMdPjJ:A3"]
abbrev afB:=rs func58 [x0,x1,x2] ["X9nT5nXPH45g=OgxK0"]
abbrev afC:=rs func65 [x0] ["E0u/VJamfF87BL?ORUTh@D<@3jy4Eko7Co/RhpMJA41THbx[u7B<:GoujTs`","=jxR//ZSM=Xp^Ovdi?_>;wCO3@UwGvOntck4o;6feb8@uhDWsPXJsSbfpY[7","fw7IendL=Zf6N4iqYkoW9wz_3^eKY`s.fgkvyJ`@=YMeddT^qdHSbH2^2BB?","DoKxYoWp3JBsnNQO`f^[]3m=A"] [] [6,8] [(2,2)] [11]
abbrev afD:=rs func79 [x0,x1,x2,x3,x4] ["aG?kX.nSp_;ZWqr/=Xr2?vBqhHYLQVcPcDO4UJfkf3nQSVBZ1AmhnWW>Ia?9","g^bSUueNJPxKLf9QBvJhX7=JmGhK9zoYX@P.7WmKc=b[Te4lgbas@>qMxwW]","dk8]v`RYz2ym8kk]h6:TRqer49jluJqdeyvQdQZx35vahR:FK=4HX?dm=q.B",":2tfe:ouWbs9ivi60sKixOVglmtVwF^xn>q.zVVNOK/_l^]XrxUMm92jsg2h","Fj[:bNdPTDFt=BtCj:8Y=1ks`odPho[9"] [] [] [] [] [] [30,37,44,52,61,80,103,111,134,146]
abbrev SL:=rs func82 [x0,x1] ["SsmNr?708b[2"]
abbrev SM:=rs func83 [x0,x1] ["PFYPDKo;E=ZWD@kf0WU6tmDMMxcY::`uieqJ/9myadRI?ax2uEU8"] [.z (.str [99,97,110,110,111,116,32,98,101,32,110,101,103,97,116,105,118,101]),.x2 λr h=>FK (nv r 1),.x2 λr h=>FK (nv r 7),.y2 λr h=>C2 3 40 [(I 0),.aq,(I 0)] (nv r 0) (nv r 4) h] [] [(4,3)]
abbrev afE:=rs func84 [x0] ["E0uBxYWoqUl6Adb1vzmTIm=NpJN/3JTi2wwLvD<v6z]wA>Li:WQMM5cjSrpp","FXWy?e9Q4`63:?M@W.ELsRRXa77OfCXJB?ot<zrW0hn@6SrHAq<oH:6X3V[b","k53G^VFsG]HDjmmtSBV3:kZgdVIOJolina6`6uvUb:vI;1I=Jf/_4d9uTpah","8lF2`AYiYvkCH5QSh.<kMS856MT5GvTO2Qox?afEN?S<e_Jq.N4rsal5A_O7","JEYiz^iH[hph5vA[MgeVxQ5"] [] [2,4,7] [(3,2)] [15] [] [18,61]
theorem KH:dT 93 [x0,x1] (dn [.n 0,.y 0,.w [.l 1 3,.c 0 [.s 9 5 2,.v 7 [0],.c 0 [.Q 4],.p 4,.R 0 [4,0]],.y (-1),.Q 0] 2 [0,0]] [x0,x1]):=rp func93
abbrev SN:=rs func95 [x0,x1,x2] ["ECi`mrwt>OaJ:AvaQ3xtm?Z04S=^3[S4^m/NBcaaulOA>pN9y"]
abbrev SO:=rs func96 [x0] ["lOSQLUIJjlPip9hCYQTOX1"]
abbrev afF:=rs func99 [x0,x1,x2] ["lcV>D>_/U^AkCyZQeHas=.2J/>9pBIkqPp5_0mYB:>M.9eOKv;w;0P:QR5Qa","/5PGVtXxif@J6bofNwfnYBnhhNIFCk>gQvXdaH]d29[swo;fV/N6skL]>hc>","V9AfWv_w65y`ku>PN:jIiNEA_;f`x7_"] [] [6,7]
abbrev SP:=rs func126 [x0,x1] [";VK`8tFw_hHJXbno4NHhzN_cNJeQ0"] [.iV [(132,362,(some (1,false)))] 6 [5,1],.iV [(132,365,(some (1,false)))] 6 [1,5]] [] [] [] [] [15,21]
abbrev afG:=rs func128 [x0,x1,x2,x3] ["9OKf`>0:BBYuqBsjCf_YWUqEQYk5UyFB:<jfxf.8c/]^n8YXn=FviY1xr.S6","BZnLitKWva[2"]
theorem qN:dT 137 [x0] (dn [.r [.z (.int .u64 4294967296),.B .geq 1 0,.c 0 [.z (.int .u64 32),.B .shr 3 0,.y 32,.R 0 [1,0]],.y 0,.R 0 [3,0]] 2,.r [.z (.int .u64 65536),.B .geq 1 0,.c 0 [.z (.int .u64 16),.B .shr 3 0,.y 16,.B .add 6 0,.R 0 [2,0]],.R 0 [2,3]] 2,.r [.z (.int .u64 256),.B .geq 1 0,.c 0 [.z (.int .u64 8),.B .shr 3 0,.y 8,.B .add 6 0,.R 0 [2,0]],.R 0 [2,3]] 2,.x2 λr h=>pO (.int .u8) (nv r 0),.x2 λr h=>mb (.str adM) (nv r 0),.x2 λr h=>pO (.int .i64) (nv r 0),.B .add 4 0,.Q 0] [x0]):=rp func137
abbrev afH:=rs func145 [x0,x1] ["[?;07uq65412oLC?6P5K27DQ[k71DKQHnIfw./"]
abbrev afI:=rs func146 [x0,x1] ["lOiLoLbG;HWxRo7Huy<RtrNxf?]rrd=PKfpD]AylYZCd`bmnep>a.P0Ll>2p","6;eEbbx`?b@oa>EXzZCvz8RlU8OQAKVAT/JZ3abhQ?aBA6KRCg_d[fq./LNA","QjSrE3RPxOvzQ"] [.U (.a 4 [0,1,1,0]) .neq 2 0]
abbrev afJ:=rs func147 [x0,x1] ["E2I1ulyLLB^H[j:rr=ZuQC1A3VU1;NYF3kA0i5U7l5ZfpmR0n9Q/"]
abbrev afK:=rs func148 [x0,x1] ["6jkfq`rcN0MD^b^"]
abbrev afL:=rs func149 [x0,x1] ["EjE^MEMFHC7;2M`dW_cnR:YzR38LSj1Zx5ZhNLU]f^IbcAQN>md90vTDj5h`","b;Jzo6><`0sz6"]
abbrev SQ:=rs func158 [x0,x1] ["l<uNfUVi4J@9OZcdp5^1cPbi`hMnpNCgL>t7T9VDrvr=_>ki9rb51]QYDO4G","8mR8PfjfYtcISTk:bETam/2e]Bty=<pVPRxFA;4`rxogVkV9gBX/WRSNSJu;","/40YDC/"] [] [10] [(4,1),(8,1)] [] [] [12,43]
abbrev afM:=rs func168 [x0,x1] ["EjE7W9oLvon@bV;2_Lj32URe9s:zqsA<cTyl4KTS@FlPJ;GQqs.]VB]eOAa3","XRn<o4z0^Q.ZIYs/:^KyV:gjVWZ?8;>@M?TR_5EdHXWycJ0"]
abbrev afN:=rs func170 [x0] ["PgLeUT/1_B`[`/FmHB2"] [] [] [(2,3)] [5]
abbrev SS:=rs func172 [x0,x1] ["[x.1b2fEr/@xUZlJO.K@5"] [] [] [] [] [] [13]
abbrev afO:=rs func176 [x0,x1] ["EVhL/Pk1iTMmi<1OBF1h:48s"]
abbrev afP:=rs func177 [x0,x1] ["8jZXPo0`CC7I>=m@;>]m:YhW^a5"]
abbrev afQ:=rs func179 [x0] ["^SF:B5THBADq[4EiO/9OJc>lOtByaqkty9K.V8EL[2J>H2f@xx]gDLSVL6Wx","/[?2eXjbkciIC[.RDD56;;849ic]tyD5SlH/`?72"]
abbrev afR:=rs func193 [x0] ["lOzZgJT@Cpc02ZWOayaVrVKysJC>cYLbwVdY]miJXRI]gXu8qkyn1QYmOKkI","vcu;/2kAqOA4@fz2aWgLnK9JkTpKVvA[if<EL9Pp.7zZ/fi?PSefh:ehqeHh","ga/vkckhQ6POW=kFTAdeH=>_]==Yn6O=UN3b;HqA=tQDusjfRsGu0<xF]JEP","K1alIW<AN7/E2rRoTtz3pNJAkTPylsW10njf[Mo=b2.pwg04D1nhG7faQ_vS","Z=0U5Jpqhqriif=i^<hDH]NZyvaG/V0td_/y3Jn[?K78uzQ312;xPE4eBj<q","qdwB_KR3jC0VHlg8k=WkzgsSvfy1k7BI`LL=jM`:PO4QH2ZI=L85Kt0Cxx.7","zKfuPCjzuPt4wP.A_[;3YswqsIK`N>0EU2fuD53bK_Vr?q3OpoJLZ9?7S?1s","RZ=WLXSpaB[B_xZiU7refU41"]
abbrev afS:=rs func205 [x0,x1] ["ECSI`=vYU5yq6rHyVY9c5"]
abbrev afT:=rs func208 [x0,x1] ["_@FCsqPTSLyaZ7omTJep;Dd4]M1qv>"]
abbrev SU:=rs func210 [x0] ["Eja7Wa;L;Jd?U8V8`=lEg2DdxCcJlL5lYhK2[tvlCO5Qdjdg<<QmWNfseVfI","k_A0wa/:ova``70R6<4VM?q1f;Wh8KNZTvlD3I8mgQIP0e_.HL_/bZLID;PU","P1fn8a2m@Tlli.Bgwh`Cf?M]=MvxY0T.uBkRaaZRBDUAG<HUJGVw]i^tChN5","mBh8i1Ik;Y3ZlW5IlaAh3rroXPoU.gEt1^B@.XiAJtjqbE@doMLKyFCHTQj6","TpkmZ;Ez_?jD`ZdJ98hs[qn?Ty>fYMQTK?kTNBuupWT2l=qwGC2K07JzWDY0","Y2yU94gpH8b`tlIZh=[liFPeiZy=]eNk>;eatmKPntcnI_;euMOC7JI1aEZY","p]_Nb5vibMsa=pl=?VASE=G`=g`wej:3GNph=<31F]a1yp0:YPnFtuQiYa2>","?946_.oMHG]O^uFJB1b5>sqtTPoo6ew`vm=0Z]_>RpCPHq5jVDS_3.IbffBP","AXjM^w;Y6"] [] [6,8,11] [] [17] [(6,[0,1,2,3,4,5,6,7,8,9,11,12,10,13]),(18,[0,1,2,3,4,5,6,7,8,10,11,9,12]),(30,[0,1,2,3,4,5,6,7,8,10,11,9,12])] [38,41,112,115,165,168]
abbrev afU:=rs func221 [x0,x1,x2] ["lZ>R@inIivF/4=0coOiya:1y59=[QmYN8mVR344=EXq8e8w"]
abbrev SV:=rs func222 [x0] ["7x@QqPIEUG`<z=grQA5nUiEu8hj.36ULhE3QBwVCFuaf2ZUzIR2z]05a`urG","mDkB99.LQGLypu>ERwPcgzW;Uq4WOG2?z06htm8[qDKDUUzl/6WRkbUNd:zg","HT[z6CJEeZd3L?1NXYt=V3Kr=16MHfd[ojN`ZEVONPeWefrJZ:PUm.^O3j?M","wqK5B]hiuO]Y9>>_jPd"] [.z (.int .i32 97),.z (.int .i32 122),.z (.int .i32 65),.z (.int .i32 90),.z (.int .i32 65),.z (.int .i32 90)]
abbrev SX:=rs func245 [x0] ["Hz"]
abbrev afV:=rs func248 [x0] ["5_v=Z[PrFdCDTEpCfq^Lfetf09vd`PzG2=PU_DdQ_"]
abbrev afW:=rs func254 [x0,x1,x2,x3] ["EjtxGV<aeposFVe>jiqCBJJ]zZ6y3@p1nN3_tJUsY]/4?YusxYK0/H[G]Jv]","[inlHEyXMFfCnf82oVPmLR0olT_T1nUh3z8xPYMYYEmjDaXNHF9GX60S^E>s","q8EH`/`Vd9j:A=w;t?gyD280x^1xF4JFT>?3IzHg75?7.<a5HNm2zbwYb`T1","Rf195p51_4jDRW5NAKx3KjEf=OEn9e1/xLmjXk=];OcZ[zI5AbH1.v]X"] [] [] [] [16] [] [41,88,124,142]
abbrev SY:=rs func261 [x0] ["lJSx0To2YF>S>UX^S:CvNK8^5.`]U3VJFc_Na=.Mb2je9WCwuz?bq`?7LZvl","[wNtfNqXefklGm.8BKcxW>OWzB^RyKW=kpwP:BfOVVnxBdAaBTuAAuMGLTJ?",">DWu]/[YNsdJEL_h6hw6nyxnP3"]
abbrev SZ:=rs func264 [x0,x1,x2] ["26CsZaxLc^6cxFLndShGEZ/rvjxASLm4;^T"]
abbrev S0:=rs func265 [x0,x1,x2,x3] ["zclvp9>lAiSwae9_`?lB7"]
abbrev S1:=rs func274 [x0,x1] ["J`hGgYo]xN2E.ySR]gm0W`gjXSqXiWpjI7[qtyGJectCXxcgwZq8R9Ab`/G0","Gu.sbu4U]Yo3x03AiPwe69zKWaV`>jrpX7U3kT]w]yVMbRTOGgIOzfvBQ0<S","tc9k_/Nbxn;?gK/lYZ`I9M5h17LWh:NJ2TlyhksK.Uk:o/cXD<<?5><7=DZ[","FyrJmGJT2mr5@g/HlzS/bQwZSKyT7umvqSm<S7`po4<zic@XSP@aO::lZ<SJ","=`UWyA1DNE.^/CaUl2HY;FEN/mJyHOTs<E0_UGba:pRvBYN^`[_=rit5feXB","eMYVw`_gQohVn/76ooGo6.0b;E=7=KV=wy4gJi6.om^u16/xh<8UnxMI?9"] [] [5,6,7]
theorem afX:dT 299 [x0,x1] (dn [.I 7 0,.L 2,.S 7 1,.v 1 [0],.u 0,.Q 0] [x0,x1]):=rp func299
theorem S2:dT 310 [x0,x1,x2] (dn [.M 1 2,.r [.n 1,.B .leq 0 3,.G 0 [.fn 337 [] [2],.k 159 [4,0],.u 0,.R 0 [0]],.z ff,.R 0 [0]] 1,.Q 0] [x0,x1,x2]):=rp func310 [] [] [5]
theorem S3:dT 312 [x0,x1,x2] (dn [.M 1 2,.r [.n 1,.B .leq 0 3,.G 0 [.fn 339 [] [2],.k 338 [4,0],.u 0,.R 0 [0]],.z ff,.R 0 [0]] 1,.Q 0] [x0,x1,x2]):=rp func312 [] [] [5]
abbrev S4:=rs func317 [x0,x1] ["5KFje[6VQn`wQkcg5.[wB4UbOC.`e0B5;M7"] [] [4] [] [] [] [17]
abbrev S5:=rs func330 [x0,x1,x2] ["^@Qrp:lE^ouJJvvxJTLJfyXwTA4>t0D9Th;FyMKmyok4L=gscgY;PGsGzAG;","dMg]9Td]`PKb/3gVTn/SD;dMRW`kU_jS<8C/:dA6<w;uCQrTWgEZVt3Zk^C>","0zStNahhMw=MSv]Iew`uQ@HHp^iu:qH5K^MCYwXA<nh9"] [.z (.int .u8 32),.z (.int .u8 32)]
theorem afY:dT 331 [x0,x1] (dn [.k 343 [0,1],.y 0,.B .geq 1 0,.Q 0] [x0,x1]):=rp func331
theorem S6:dT 339 [x0,x1] (dn [.I 9 0,.L 2,.S 9 1,.v 1 [0],.u 0,.Q 0] [x0,x1]):=rp func339
abbrev afZ:=rs func362 [x0,x1,x2] ["kcN9aBA48D3"]
end
section
open Go.Proofs.Tryz
variable{x0 x1 x2 x3 x4 x5 x6 x7 x8 x9:AV}
abbrev r7:=rs func7 [x0,x1] ["EjEJRkmWXPJLaD6<Z1w:U;=E>e><.yryJtx7hd2T1qon`b<v@iL/LsWgv9XG","`PkXppPRI^Cus]qt9ThRbad;7I8q@7F1Kws6yd2K]0j7voQN?h`I0<16OWpu","qFzt@4SVuMTpnY6m<Upx7<p;Eh]UDWIeR=l.AzBX[cQggs/J6J:I3LF]QnzC","a=9>a?Iw@13IgG1/IbbxJSm.xYDr:=5baTZ:J0szxb@_XD[:]VZ9lhAu/^gE","sUo8NLv1/5;Iko@Mi/u<69LA0gD5F=?rGjHd@;<twq<0PT8[RmZuVh6"] [] [19] [(10,3),(14,3)] [] [] [52,54,57,63,65,119]
abbrev af0:=rs func17 [x0,x1,x2] ["Y@M/]l0[r<1m75uLLRoji1q_pTHrNPZmqD<Hxz"] [] [6]
abbrev S7:=rs func21 [x0,x1] ["[?;07uq65412oLC?6P5K27DQ[k71DKQHnIfw./"]
abbrev af1:=rs func25 [x0,x1] ["z5^Rj/Vip3G`PB^Tom:Tkt3Oxq=Ktw<[L061aGM8Px57GaAOID[Bu9nxP]J6","YmN/aQGl11]0@Uc1/XhYLPfW]8Zyl0s:UyrSHxGA[xb18PcqkcepY.sSdk]T","uvvYlDKcDd0oz?a:UoKIOLb/u4UJNA4Ex6eV>1BMhl2Zd]W8Rs_nU;xYjmu;","f;nufwvKddgr<t9R?ZY_EiFSP8cc6bU"] [] [11] [] [2,36] [] [34,55]
abbrev S8:=rs func30 [x0] ["PgLeUT/1_J^Xyt=_JB2"] [] [] [(2,3)] [5]
abbrev S9:=rs func33 [x0,x1] ["E26]Z3Xg6eev?]0e0GB]GkF:f1vQ"]
abbrev Ta:=rs func37 [x0,x1] ["Elg[RXNNG4C/n?slpBx`yU5BxT=z"]
abbrev Tc:=rs func44 [x0] ["EVDp3@BwpLIBT;KL]WT=fB^8Olz=eyzVF3UnrBD=IUb9n0XR_R9F`kW9f<7a","^tIxO/ME7UnGHUKeyvE1QaVak4"] [] [5] [(2,2),(3,2)]
abbrev af2:=rs func71 [x0] ["SID>.@aj>]yyin4D4O<=n<12h9Uoi`FB1u5p/rk0SP@Y_e]ix"] [.z2 λr h=>jO ⟨false,1,[0]⟩ (nv r 13) (nv r 2) (nv r 0) h] [5]
abbrev Td:=rs func76 [x0] ["NV_GZvzn;EPw=1"] [.iV [(17,358,none),(132,75,(some (1,false)))] 0 [],.iV [(132,365,(some (1,false)))] 4 [0,1],.iV [(132,363,none)] 6 []] [] [] [] [] [5,9,12,14]
abbrev Tf:=rs func80 [x0] ["Y@?qh/"]
abbrev af3:=rs func86 [x0,x1] ["X;j@@1qP2cIQWvE0iaWKR7TQAjnb<isAhDxDI?;GUCxPNPV1Ol?Bh<"]
abbrev Tg:=rs func91 [x0,x1] ["EjYi>hxjn9CUYj:83eq4HBBdDhvJeZ63375Kh1ssHi1jaAQxZ?>?Np>s.;pq","GP8WOOB5?Yy=4k@nuE>HOCjdz9J/4r.hKKp_<V0Rx[/"] [] [6]
abbrev Th:=rs func92 [x0] ["lOvB[z=cBnFz7l[b:PM31YCYULyDHm==x;;ycYn[vxFn_e[`s2RFoIVQXgEA","mLj@nEQ8@p^.looCeRS[:t5q5MCO^Y0XQSToUt`^E7=3@n_GcdvEM8TP/"] [] [] [] [] [] [22]
abbrev af5:=rs func98 [x0,x1,x2,x3] ["lqg/cwIei0OEh7nn94BzRK"] [] [] [] [] [] [10]
abbrev af6:=rs func105 [x0,x1] ["E`.U3uEIENX21N]FcGNHowygRPv>xdW9v;4@z@]wmP8Odd>b<wYt9cW>[7=3","/"] [.y 20000] [] [(4,3)] [] [(6,[0,2,3,5,6,1,4,7,8])] [19]
abbrev Ti:=rs func106 [x0] ["l<;F2hkn`;V7_cAIqyz.zM2DTQ1e4;V/s7Nl]f:f=mynyt@3a5H8`gnV]fis","qO?XMG5IXTdT6LE>Xas_kNT0Fqi^oZB07Adut>rMNzL`2F:<7v[V6h2;6CL6","m=]=GEIi<Tf[rED:UTs/puWW4jt>0;poJNLFNQ7ITWwVty58Id5V3;6JIVZf","5cz:"] [] [7,9] [(2,1),(3,1)]
abbrev af7:=rs func111 [x0] ["EC@0RqcTUrvhb70P^1usL/aX]IV.udp2wxU_HPsVA1.ePKIlAn3<Y?d;3bzK","v8dhIy4mJTEvid_E/Y:^mVE6w9H`>nkmPpcb227VV]9xkW6o9yyn]<i1`p36","ku5ZmXvU4s0cgi5LVLf00]ylIBlF?[HD1Z@W2Y0Fm3R=Q=^fnthIP`0tFgBL","wtXg<f@[pCanVH^FAwO[dZL]1ctfYicYqnsiY_CXBS8t;:;NP[cHab?Skxi9","gq=poZ^Gkl=8`EPT`xJG245I^9NU^1W1uH_a.WH1PVh6rsrnYWqddIMQgq:S","1QcBps^2@lY>W96uhhvyP3"]
abbrev af8:=rs func114 [x0] ["lOvB[S4Q5pFz7l[bMK@apUBC66co:FX04:cxC5jPmL8]:nayYJ_UQFT^6Ats","qvGwofnz_Rd4=3s]me2PHQIz;1vRZ:d/<46q[1zzuuK=xf].XCD2Tu1"]
abbrev af9:=rs func125 [x0] ["[x.1b2f5Q0uW8]h@6zu0"] [] [] [] [] [] [10]
abbrev aga:=rs func142 [x0] ["EV1[aAKub@dUIw30Z]6@G5^iCA`OP[[KKw[[Oux6=b:C4z0ignn1AkQf/NCp","fSI6bu>7r]_8]9Fb37D8Zg<Muxm<iv=f>0oW_0S9x<_[b`IA>ED_H;yzEurO","naXsR=rf1;]?tT_lOx3YSPPHotw1cfZSCtkOh:?dsf0>31ndINEMM?.zn/GC","RSF1j04LhGXMq/y4edQ_eVkMD=is<<CG_1V;SD94JPCNJlO7jvZ03:T8tIoa","t1kalo>cQX[WdExc=`?K^p_3iZop?xX2/Lk6T1C^^o?=[^dl[IA8i`0F0^7k","ovsAQeEX<bTedWwhySKX`Z3R=Ir1:xh?5Bamc:Ac<M3nbmh5zYs@c:<pm43b","227TS3VEFq:k63@`q1NPwhqF.Ib:1lx4EZ=[Wjs8S9hpxZpW7>WP<>s2D.27","ZdIsbQRh:pjVo6>b2jQ6uKWy^<P;jI_iNYNWP82x61_Kt<LIz9PgOvP13/vj","Dn0S`BxUYra6sWcC3BPz:^8^xj4rkdu8gB;ooyenKVkr05Va1/Cbe9d@9s>z","HZfTtb@`yrqLk8e/h=d_[vgJ_KL2qVvzZf;h[S5RemN@wqt?2ME<4sgilIAC","6:Fhn1"] [] [2,4,7,10,13] [(3,2),(5,2)] [] [] [42,92,138]
abbrev Tj:=rs func154 [x0,x1,x2] ["[?;Vz3vZRt2]@?3jPucM<Yfg`d1[ON:]x0.U6EJ]:Y0fN5A6=C0"] [] [8,9]
abbrev Tk:=rs func156 [x0,x1] ["E26]Z3Xg6eev?]0e0GB]GkF:f1vQ"]
abbrev Tl:=rs func173 [x0,x1] ["lk/pU`^RLGFS"]
abbrev agb:=rs func174 [x0,x1] ["l<uuozhi4J@9OZoVaPATJ:SgxlVtA]aC8NyK;zyfvjWGE?A2clO?6IGEtj7k","v_cl5=[2flYh9OEfIpRDK_em@?A.fR/rfv[HV4x7NWx6W.1>er`Sgw4f[.wA","`1Nx8?a^61;v1BuVaF@ViblXW?RNx"] [] [] [(4,1),(8,1)] [] [] [12,60]
abbrev agc:=rs func192 [x0] ["l^tDtsyO3bxNS?@G/cyB]9hKDAeg=<ekUUSAWO_=uQ1R?Au=uzR^a.]kKx50","2PgxU5NQICND8VQJ]luWXcoj4qGiOo`1r@BBeV28T9UyrUcYW=nyuAZd1J`j","]`2T4YeDVnK@I8J^jvPJg[HK.^Wow8"]
abbrev agd:=rs func196 [x0,x1] ["ECibVivWjKiOtXm[6ZY`2Cyq]pK:^9fOco[Z3EEh]:6J/8cfpePxnY@vS..J","tNunRIJW>FOTLgZ=T9H:omtg/gfjP_SA;vC4d_b:jpVaOz10rZeyHIn1.03[","1Qyf3kg5m`1O:/EoTTym3fx_evjhGNSA[_fq1RWT;rh.N_eV1h3rxYHTnbn9","kfkzG13=iscEPWvM>CrpDC?6yva/"] [] [] [(4,1),(8,1)]
abbrev age:=rs func198 [x0,x1] ["EVwDz;Hn]Q/sqTTTFgWNXLDqRuT>0>fhf1"]
abbrev agf:=rs func202 [x0,x1] ["[?;07uq]>N6CIP@hU0NY:=KMrI9PjTFo]nwn;@A"] [.U (.a 4 [1,0,0,1]) .neq 1 0]
abbrev Tm:=rs func211 [x0,x1] ["SW2fXBUzl/M_LJZsI7]0g^9R>8tUhR>?VhuN/5ImI;x:ObU=UNqSGd6gHk:3","[?UpPaFb3__:pCQd?Z@s1kN:Xn?pM4d]vMrmGb:]Zemxjo6XbxkebGYI@_KY",">PWtud/jG0vSjag9toy7SWu2cKd>r@cv5<0og1gFPAzjiVBS.0A:epfTb5TB","TfhpD[@[14j_k^[YMCMI/"] [] [4] [] [3] [(3,[0,1,3,4,2,5]),(9,[0,1,2,4,5,6,7,3,8])] [18,23,26,48,53,65,68]
abbrev Tn:=rs func216 [x0,x1] ["l5ttTF:nA"]
theorem To:dT 223 [x0,x1] (dn [.k 277 [0,1],.y 0,.B .geq 1 0,.Q 0] [x0,x1]):=rp func223
abbrev agh:=rs func224 [x0] ["EjE^:qVpvRe7_M_z8`j=sr`LwT/QNs"] [] [2]
abbrev agi:=rs func229 [x0,x1] ["lc.5qA]2boJ.z6iRdNdl//LP[kBl@sdlW82Qd>2qQ0Q=_<czBG=/_1c1wENz","`<D;jk0upOD39^h2EPzVg>0g@sw:x6ZB9WbJfX@j?Iirtmdt?/lFAd_IG8hf","L>ev8WYg"]
abbrev agj:=rs func230 [x0,x1] ["lO<evprfGPtsS4TolL24DAx5c7rRfVXOJ"] [] [] [(4,1)] [] [] [20]
abbrev agk:=rs func231 [x0,x1] ["PN6F9?hi_;1ZKGK<wWM419E@l.2czYOQl71"] [] [] [(4,1)]
abbrev agl:=rs func235 [x0,x1,x2] ["9OKf`e9Tn]0jT;TF5kH=Y<:qT.NIhRvVJwKH5NSXYyKbN2O9f[@Crg`pyrAZ","otJ6JOMe0"]
abbrev agm:=rs func247 [x0,x1] ["7H^?3`UIp[UuSPV3TycPFJEzE_"]
abbrev agn:=rs func253 [x0,x1] ["lqmX62KjcKNQbq5ZFC7niJfFOcALSey>UM7fmltA=kPp6=x?XH^X.EB]lNRR","fXJ0IH3>4/"]
theorem Tp:dT 257 [x0,x1,x2] (dn [.M 1 2,.r [.n 1,.B .leq 0 3,.G 0 [.fn 297 [] [2],.k 296 [4,0],.u 0,.R 0 [0]],.z ff,.R 0 [0]] 1,.Q 0] [x0,x1,x2]):=rp func257 [] [] [5]
abbrev Tq:=rs func275 [x0,x1] ["l<vlbcJffOwAnroSTNPX=`9WWsi<[qxHnC]x1Fp:rlVMNr]KcwK6]E_vG0_G","j0qbUs>0wn9c;_q4fg40n1Ngm[^Z.8oeW<[JY=1yVrSJ?SL^_XICk;g>wBJ6","fQ1Vga/O/5Fdu6`bQ6WDue@3j_v5_=]4>fu5?>ltd@?ggSU8`@JNIf:te_W<","uL[b7Seo8zuuo:yU9;q8`5mb^le8skwb:6ZVn?a<t:CV69Xcg[@3hMZRq3W=","ewjqo3d/T0It18WKA]8/2FK7JQ?Y^_r2S1WB8/W=9WK.se@l6Zz4hg_W4>Q_",">Wva2okCgk6mS5`J8KOdW`EN=n8wSQOIL7414GDzgJD=d3;JPt7vLbF4oe7g","Qk5OJ6UIo2kr6;hb6[ExT>A.6k]kAt2`;TxgJ8h27nP29DsMQXo]VkOLmG76","Xj?ve^f=p:OEB@CkRIg?"] [.z .gE,.N .map 0] [9,11,14] [] [19] [] [24,35,55,80,94]
theorem ago:dT 297 [x0,x1] (dn [.I 4 0,.L 2,.S 4 1,.v 1 [0],.u 0,.Q 0] [x0,x1]):=rp func297
theorem Ts:dT 303 [x0,x1] (dn [.I 7 0,.L 2,.S 7 1,.v 1 [0],.u 0,.Q 0] [x0,x1]):=rp func303
theorem Tt:dT 306 [x0,x1] (dn [.k 336 [0,1],.y 0,.B .geq 1 0,.Q 0] [x0,x1]):=rp func306
abbrev Tu:=rs func313 [x0] ["lOzZg^v<em>d3m6sdr=vsI_Snap.qPYyQdWF`QVxI8ggVnj3.ZvX6.Q1]Ixa","vwGxstApCtjjP=G3P/5ZRVw34aRtHY]mUT@Ahzt.1APM7;^=xIcsqbYu.P<A","HP5BenAQKF?iUf^ZidoK6>>4INniTO_QkfmKYtW<Ih0r];Ly[H<5o/r:0n8q","blY]QMOmyNg]dFmvq<G?q;cRB=yAuSJE4P^>N3@q7_sb7aHJ]=r@;f]Ta8`j",";RRbDdlT4QBblnMn/"]
abbrev Tv:=rs func315 [x0,x1] ["lqmX62KjcKNO8W<xbKuP<aC5aVe8@tt1:a3]irrvi]g@]PovXn?>:<zzR:;d","6XdI6?<"] [] [6]
theorem agp:dT 322 [x0] (dn [.r [.z (.str []),.e 1 0,.Gf 0 [.N .str 2,.y 16,.B .gtr 1 0,.Gf 0 [.x2 λr h=>mb (nv r 5) (I 0),.z (.int .u8 97),.l 1 0,.Gf 0 [.x2 λr h=>mb (nv r 8) (I 0),.z (.int .u8 122),.B .gtr 1 0,.Gf 0 [.z (gv G0 2),.L 0,.k 162 [0,13],.R 0 [0]],.z tt,.R 0 [0]],.z tt,.R 0 [0]],.z tt,.R 0 [0]],.z tt,.R 0 [0]] 1,.c 0 [.z ff,.Q 0],.x2 λr h=>pO .bytes (nv r 1),.n 0,.z ff,.y 0,.w [.l 1 4,.c 0 [.i 6 2,.r [.r [.z (.int .u8 97),.B .leq 0 1,.G 0 [.z (.int .u8 122),.B .leq 3 0,.R 0 [0]],.R 0 [7]] 1,.c 0 [.R 0 [0]],.r [.z (.int .u8 65),.B .leq 0 2,.G 0 [.z (.int .u8 90),.B .leq 4 0,.R 0 [0]],.R 0 [8]] 1,.c 0 [.R 0 [0]],.r [.z (.int .u8 48),.B .leq 0 3,.G 0 [.z (.int .u8 57),.B .leq 5 0,.R 0 [0]],.R 0 [9]] 1,.c 0 [.R 0 [0]],.z (.int .u8 95),.e 4 0,.R 0 [0]] 1,.c 0 [.p 4,.R 0 [4,0]],.Q 6],.z tt,.Q 0] 2 [1,0]] [x0]):=rp func322
theorem Tw:dT 344 [x0,x1] (dn [.n 0,.y 0,.w [.l 1 3,.c 0 [.i 5 2,.v 7 [0],.c 0 [.Q 4],.p 4,.R 0 [4,0]],.y (-1),.Q 0] 2 [0,0]] [x0,x1]):=rp func344
end
def fA(a b:Int):Int:=if a<b then -1 else if b<a then 1 else 0
def nZ:d->d->Int
 |[],[]=>0
 |[],_::_=> -1
 |_::_,[]=>1
 |a::c,b::e=>if a=b then nZ c e else fA a.toNat b.toNat
def nD(a w:aG):Int:=if a.ty≠w.ty then fA a.ty w.ty else if a.n≠w.n then fA a.n w.n else nZ a.s w.s
def jP:List aG->List aG->Int
 |[],[]=>0
 |[],_::_=> -1
 |_::_,[]=>1
 |a::c,b::d=>if nD a b=0 then jP c d else nD a b
theorem Tx(a:Int):fA a a=0:=by simp[fA]
theorem xW:fA f b9=0<->f=b9:=by
 grind[fA]
theorem zv(a b:Int):PR C 148 [I a,I b] (I (fA a b)):=by
 apply afK.pr;simp only[A,eX,O,c3,A9,Dj,decide_eq_true_eq,fA];grind
theorem KI(a:Int):PR C 138 [I a] ff:=by
 apply R5.pr;simp
theorem Ty(a:UInt8):PR C 245 [.int .u8 a.toNat] ff:=by
 apply SX.pr;simp
theorem zw(a b:Int):PR C 81 [I a,I b] (I (fA a b)):=by
 apply Ri.pr;apply c (KI a);apply c (KI b);simp only[A,eX,O,c3,A9,Dj,decide_eq_true_eq,fA,eZ,if_false];grind
theorem agq(a b:UInt8):PR C 190 [.int .u8 a.toNat,.int .u8 b.toNat] (I (fA a.toNat b.toNat)):=by
 apply RP.pr;apply c (Ty a);apply c (Ty b);simp only[A,eX,O,c3,A9,Dj,decide_eq_true_eq,fA,eZ,if_false];grind
theorem agr(a b:UInt8):PR C 189 [.int .u8 a.toNat,.int .u8 b.toNat] (I (fA a.toNat b.toNat)):=by
 apply RO.pr;apply c (agq a b);simp
theorem Bl(b a:Nat):fA (b:Int) (a:Int)=if b<a then -1 else if a<b then 1 else 0:=by simp[fA]
theorem Tz(a:d):nZ [] a=fA (0:Nat) (Z a):=by
 cases a<;>simp[nZ,fA]<;>omega
theorem TA(a:d):nZ a []=fA (Z a) (0:Nat):=by
 cases a<;>simp[nZ,fA]<;>omega
theorem TB(a:List aG):jP [] a=fA (0:Nat) (Z a):=by
 cases a<;>simp[jP,fA]<;>omega
theorem TC(a:List aG):jP a []=fA (Z a) (0:Nat):=by
 cases a<;>simp[jP,fA]<;>omega
theorem Gx{a b:UInt8}:(a.toNat:Int)=(b.toNat:Int)<->a=b:=by
 grind[UInt8.toNat_inj]
theorem ags(e f:d)(k:Sm e):PR C 204 [.str e,.str f] (I (nZ e f)):=by
 apply ae0.pr;unfold Sm at k;apply bG (λb:Nat=>[I 0,I b]) (λ_=>[]) (λb=>Z e -b) (λb=>b<=Z e/\b<=Z f/\nZ e f=nZ (e.drop b) (f.drop b)) 0 (by simp);rintro b ⟨m,n,g⟩ l p;simp only[bw,zn,O,i,G,A,jC,decide_eq_true_eq];by_cases h:b<Z e;by_cases j:b<Z f;rw[oC h,oC j,nZ]at g;simp only[a,h,j,decide_true,if_true,c3,Dk h,Dk j,O,cx,Dl,QI,bne_iff_ne,ne_eq,Gx];split;rename_i o;apply c (zv _ _);simp_all
 rename_i heq;rw[if_pos (by grind)]at g;rw[a6,O];grind;have:b=Z f:=by omega
 subst this;simp only[a,h,if_true,cn,decide_false,c3,eZ,if_false];apply c (zv _ _);rw[qk,TA]at g;simp only[A9,Dj,g,q5,Bl];omega;have:b=Z e:=by omega
 subst this;simp only[a,cn,eZ,if_false,c3];apply c (zv _ _);rw[qk,Tz]at g;simp only[A9,Dj,g,q5,Bl];omega
theorem KJ(h:U<=N):fA ((0:Nat):Int) ((N -U:Nat):Int)=fA U N:=by
 simp only[Bl];omega
theorem KK(h:U<=N):fA ((N -U:Nat):Int) ((0:Nat):Int)=fA N U:=by
 simp only[Bl];omega
variable{F:Bool}
theorem agt(e f:d)(k:Sm e):PR C 188 [eS T cU e,eS F cU f,.fn 189 [] []] (I (nZ e f)):=by
 apply Rr.pr;unfold Sm at k;simp only[a1,O];apply bG (λb:Nat=>[I 0,I b]) (λ_=>[]) (λb=>Z e -b) (λb=>b<=Z e/\b<=Z f/\nZ e f=nZ (e.drop b) (f.drop b)) 0 (by simp);rintro b ⟨m,n,h⟩ l o;simp only[O,i,G,A,di,c3,decide_eq_true_eq,beq_iff_eq,a,arA];split;rename_i j;simp only[aF j (F9 _),O,aK,Ga];split;rename_i g;subst g;rw[qk,TA,q5,KK (by omega)]at h;simp_all[Bl];rename_i g;have g:b<Z f:=by omega
 rw[oC j,oC g,nZ]at h;simp only[aF g (F9 _),O,aK,Ga,A9,lK,e3,nj,dK,sO];apply c (agr _ _);simp only[cx,O,c3,bne_iff_ne,ne_eq,xW,Gx];split;simp_all;rename_i heq;rw[if_pos (by grind)]at h;rw[a6,O];grind;rename_i j;have:b=Z e:=by omega
 subst this;apply c (zw _ _);rw[qk,Tz,q5,KJ (by omega)]at h;simp[h]
theorem agu(a w:aG)(b:Sm a.s):PR C 147 [.agg (cV a),.agg (cV w)] (I (nD a w)):=by
 apply afJ.pr;simp only[Bb,O,bj,aK,Dd,F1,F2,cx,c3,bne_iff_ne,ne_eq,nD,e];split;exact c (zv _ _) (by simp);split;exact c (zv _ _) (by simp);exact c (ags _ _ b) (by simp)
theorem TD(a w:aG)(b:Sm a.s):PR C 140 [.agg (cV a),.agg (cV w)] (I (nD a w)):=by
 apply Ro.pr;simp only[Bb,O,bj,aK,Dd,F1,F2,e];apply c (zw _ _);simp only[cx,O,c3,bne_iff_ne,ne_eq,xW,nD];split;simp;refine c (zw _ _) ?_;simp only[cx,O,c3,bne_iff_ne,ne_eq,xW];split;simp;simp only[Kf,O,Kg];exact c (agt _ _ b) (by simp)
def dX(a:List aG):Prop:=Sm a/\∀b∈a,Sm b.s
theorem mg(d e:List aG)(j:dX d):PR C 86 [eS T cV d,eS F cV e] (I (jP d e)):=by
 apply af3.pr;let⟨j,n⟩:=j;unfold Sm at j;apply bG (λb:Nat=>[I 0,I b]) (λ_=>[]) (λb=>Z d -b) (λb=>b<=Z d/\b<=Z e/\jP d e=jP (d.drop b) (e.drop b)) 0 (by simp);rintro b ⟨l,m,f⟩ k o;simp only[bw,a1,O,i,G,A,jC,decide_eq_true_eq,a];by_cases g:b<Z d;by_cases h:b<Z e;rw[oC g,oC h,jP]at f;simp only[g,h,decide_true,if_true,c3,aF g (sY _),aF h (sY _),O,u0];apply c (agu _ _ (by grind))
 simp only[cx,O,c3,bne_iff_ne,ne_eq];split;simp_all;rename_i heq;rw[if_pos (by omega)]at f;rw[a6,O];grind;have:b=Z e:=by omega
 subst this;simp only[g,if_true,cn,decide_false,c3,eZ,if_false];apply c (zv _ _);rw[qk,TC,q5,KK (by omega)]at f;simp[f];have:b=Z d:=by omega
 subst this;simp only[cn,eZ,if_false,c3];apply c (zv _ _);rw[qk,TB,q5,KJ (by omega)]at f;simp[f]
theorem agv(d e:List aG)(j:dX d):PR C 139 [eS T cV d,eS F cV e,.fn 140 [] []] (I (jP d e)):=by
 apply Rn.pr;let⟨j,n⟩:=j;unfold Sm at j;simp only[a1,O];apply bG (λb:Nat=>[I 0,I b]) (λ_=>[]) (λb=>Z d -b) (λb=>b<=Z d/\b<=Z e/\jP d e=jP (d.drop b) (e.drop b)) 0 (by simp);rintro b ⟨l,m,g⟩ k o;simp only[O,i,G,A,di,c3,decide_eq_true_eq,beq_iff_eq,a,arA];split;rename_i h;simp only[aF h (sY _),O,u0,xN];split;rename_i f;subst f;rw[qk,TC,q5,KK (by omega)]at g;simp_all[Bl];rename_i f
 have f:b<Z e:=by omega
 rw[oC h,oC f,jP]at g;simp only[aF f (sY _),O,u0,Ba,lK,e3,nj,dK,sO];apply c (args:=[.agg (cV d[b]),.agg (cV e[b])]) (TD _ _ (by grind));simp only[cx,O,c3,bne_iff_ne,ne_eq];split;simp_all;rename_i heq;rw[if_pos (by omega)]at g;rw[a6,O];grind;rename_i h;have:b=Z d:=by omega
 subst this;apply c (zw _ _);rw[qk,TB,q5,KJ (by omega)]at g;simp[g]
theorem KL(a b:List aG)(d:dX a):PR C 82 [eS T cV a,eS F cV b] (I (jP a b)):=by
 apply SL.pr;exact c (agv _ _ d) (by simp)
def o5(a:Int):Bool:=y (97<=a)&&y (a<=122)||y (65<=a)&&y (a<=90)||y (48<=a)&&y (a<=57)||(a==95)
def e7(a:UInt8):Bool:=o5 a.toNat
def n0(e b:Int)(a:d):Bool:=
 match a with
 |[]=>ab
 |c::f=>y (Z a<=16)&&y (e<=c.toNat)&&y ((c.toNat:Int)<=b)&&f.all e7
def mO(a:d):Bool:=gJ.contains a
def bY(a:d):Bool:=n0 97 122 a&& !mO a
def isVar(a:d):Bool:=n0 65 90 a
def nE(a:aG):Bool:=if a.ty=1 then y (0<=a.n)&&y (a.n<=9999)&&(a.s==[])else(a.ty==2)&&(a.n==0)&&bY a.s
theorem agw(a:UInt8):PR C 232 [.int .u8 a.toNat] (.bool (e7 a)):=by
 apply ad0.pr;simp only[bw,h0,la,di,O,jC,G,qG,qK,e7,o5];grind
theorem TE(a:UInt8):PR C 292 [.int .u8 a.toNat] (.bool (e7 a)):=by
 apply aew.pr;simp only[bw,h0,la,di,O,jC,G,qG,qK,e7,o5];grind
theorem agx(a:Int):PR C 222 [.int .i32 a] (.bool (!o5 a)):=by
 apply SV.pr;simp only[bw,h0,la,di,O,bK,jC,G,qG,qK,o5];grind
theorem agy:PR C 287 [] (eS ab cS gJ):=by
 apply afv.pr;show aM _ _ (eS ab cS gJ) (eS ab cS gJ);exact(FV _ _).snap
theorem TF[BEq K][LawfulBEq K](h:U<Z x):(x.drop U).contains dR=((dR==x[U])||(x.drop (U+1)).contains dR):=by
 grind[List.drop_eq_getElem_cons]
theorem agz(e:d):PR C 233 [.str e] (.bool (mO e)):=by
 apply aer.pr;apply c (agy);apply bG (λb:Nat=>[ff,I b]) (λ_=>[]) (λb=>Z gJ -b) (λb=>b<=Z gJ/\mO e=(gJ.drop b).contains e) 0 (by simp[mO]);rintro b ⟨m,f⟩ l j;simp only[a1,O,i,G,A,c3,decide_eq_true_eq,a];split;rename_i h;rw[TF h]at f;simp only[aF h (iR _),O,aK,lN,gT,c3,beq_iff_eq];split;simp_all;rename_i g;have n:Z gJ=10:=rfl;rw[a6,O];refine j (b+1) ⟨h,?_⟩ (by omega);rw[f]
 have:(e==gJ[b])=false:=by simpa usingλk=>g k.symm
 rw[this,l3];simp_all[uI]
theorem mP(e c:Int)(a:UInt8)(b:d):n0 e c (a::b)=(y (Z (a::b)<=16)&&y (e<=a.toNat)&&y ((a.toNat:Int)<=c)&&b.all e7):=rfl
theorem Dv{a:UInt8}(b:97<=(a.toNat:Int))(c:(a.toNat:Int)<=122):e7 a=true:=by grind[e7,o5]
theorem agA{a:UInt8}(b:65<=(a.toNat:Int))(c:(a.toNat:Int)<=90):e7 a=true:=by grind[e7,o5]
variable{ea:K -> Bool}
theorem Dw(h:U<Z x):(x.drop U).all ea=(ea x[U]&&(x.drop (U+1)).all ea):=by
 grind[List.drop_eq_getElem_cons]
@[simp] theorem Bm(a:UInt8)(b:List UInt8):mb (.str (a::b)) (I 0)=aa (.int .u8 a.toNat):=rfl
theorem agB(f:d):PR C 179 [.str f] (.bool (bY f)):=by
 apply afQ.pr;rcases f with _|⟨b,g⟩;simp[bw,bY,n0];have k:¬((Z (b::g):Nat):Int)<1:=by simp;omega
 simp only[bw,zn,O,A,eX,jC,Bm,decide_eq_false k,if_true,G,c3];by_cases l:(16:Int)<Z (b::g);have:bY (b::g)=false:=by simp only[bY,mP];rw[decide_eq_false (by omega)];simp
 simp_all;have m:Z (b::g)<=16:=by omega
 simp only[l,decide_false,if_true];by_cases n:(b.toNat:Int)<97;simp_all[bY,mP,decide_eq_false];simp only[n,decide_false,if_true];by_cases o:(122:Int)<b.toNat;simp_all[bY,mP,decide_eq_false];simp only[o,decide_false,eZ,if_false];have p:bY (b::g)=((b::g).all e7&& !mO (b::g)):=by
  simp only[bY,mP,oz,Dv (a:=b) (by omega) (by omega)];rw[decide_eq_true m,decide_eq_true (show(97:Int)<=b.toNat by omega),decide_eq_true (show(b.toNat:Int)<=122 by omega)];simp
 generalize b::g=f at*;apply bG (λe:Nat=>[ff,I e]) (λ_=>[]) (λe=>Z f -e) (λe=>e<=Z f/\f.all e7=(f.drop e).all e7) 0 (by simp);rintro e ⟨t,j⟩ r q;simp only[O,i,G,A,c3,decide_eq_true_eq,a];split;rename_i h;rw[Dw h]at j;simp only[Dk h,O];apply c (agw _);simp only[bK,O,c3,gZ];split;simp_all;rename_i s;rw[a6,O];refine q (e+1) ⟨h,?_⟩ (by omega);simp_all;rename_i h;rw[uI (by omega)]at j;apply c (agz _)
 simp[p,j]
theorem wo(a:aG):PR C 117 [.agg (cV a)] (.bool (nE a)):=by
 apply aeQ.pr;simp only[bw,Bb,O,bj,aK,Dd,F1,F2,di,h0,la,gT,jC,c3,beq_iff_eq,G,e,nE];split;simp_all;by_cases b:a.ty=2;by_cases d:a.n=0;simp only[b,d,if_true,beq_self_eq_true];exact c (agB _) (by simp);simp_all;simp[b]
theorem s5(f:d):PR C 246 [.str f] (.bool (bY f)):=by
 apply afr.pr rfl;simp only[cK,hZ];rcases f with _|⟨e,g⟩;simp[bw,bY,n0];have n:(((Z (e::g):Nat):Int)==0)=false:=by simp;omega
 simp only[bw,zn,O,di,A,eX,jC,Bm,n,if_true,G,c3];by_cases o:(16:Int)<Z (e::g);have:bY (e::g)=false:=by simp only[bY,mP];rw[decide_eq_false (by omega)];simp
 simp_all;have p:Z (e::g)<=16:=by omega
 simp only[o,decide_false,if_true];by_cases q:(e.toNat:Int)<97;simp_all[bY,mP,decide_eq_false];simp only[q,decide_false,if_true];by_cases r:(122:Int)<e.toNat;simp_all[bY,mP,decide_eq_false];simp only[r,decide_false,eZ,if_false];have D:bY (e::g)=((e::g).all e7&& !mO (e::g)):=by
  simp only[bY,mP,oz,Dv (a:=e) (by omega) (by omega)];rw[decide_eq_true p,decide_eq_true (show(97:Int)<=e.toNat by omega),decide_eq_true (show(e.toNat:Int)<=122 by omega)];simp
 generalize e::g=f at*;apply bG (λb:Nat=>[ff,I b]) (λ_=>[]) (λb=>Z f -b) (λb=>b<=Z f/\f.all e7=(f.drop b).all e7) 0 (by simp);rintro b ⟨y,k⟩ w t;simp only[O,i,G,A,c3,decide_eq_true_eq,a];split;rename_i h;rw[Dw h]at k;simp only[Dk h,O];apply c (TE _);simp only[bK,O,c3,gZ];split;simp_all;rename_i j;rw[a6,O];refine t (b+1) ⟨h,?_⟩ (by omega);simp_all;rename_i h;rw[uI (by omega)]at k
 have s:gv G0 1=.aH ab [eS ab cS gJ] 0:=rfl;apply bG (λb:Nat=>[ff,I b]) (λ_=>[]) (λb=>Z gJ -b) (λb=>b<=Z gJ/\mO f=(gJ.drop b).contains f) 0 (by simp[mO]);rintro m ⟨z,l⟩ x u;simp only[s,aK,de,a1,O,i,G,A,c3,decide_eq_true_eq,a];split;rename_i h;rw[TF h]at l;simp only[aF h (iR _),O,aK,lN,gT,c3,beq_iff_eq];split;simp_all;rename_i j;have B:Z gJ=10:=rfl;rw[a6,O];refine u (m+1) ⟨h,?_⟩ (by omega);rw[l]
 have:(f==gJ[m])=false:=by simpa usingλv=>j v.symm
 simp_all;simp_all[uI]
theorem Gy(e:d):PR C 249 [.str e] (.bool (isVar e)):=by
 apply afs.pr;rcases e with _|⟨f,g⟩;simp[bw,isVar,n0];have n:(((Z (f::g):Nat):Int)==0)=false:=by simp;omega
 simp only[bw,zn,O,di,A,eX,jC,Bm,n,if_true,G,c3];by_cases o:(16:Int)<Z (f::g);have:isVar (f::g)=false:=by simp only[isVar,mP];rw[decide_eq_false (by omega)];simp
 simp_all;have p:Z (f::g)<=16:=by omega
 simp only[o,decide_false,if_true];by_cases r:(f.toNat:Int)<65;simp_all[isVar,mP,decide_eq_false];simp only[r,decide_false,if_true];by_cases t:(90:Int)<f.toNat;simp_all[isVar,mP,decide_eq_false];simp only[t,decide_false,eZ,if_false];have x:isVar (f::g)=((f::g).drop 1).all e7:=by
  simp only[isVar,mP,List.drop_one,List.tail_cons];rw[decide_eq_true p,decide_eq_true (show(65:Int)<=f.toNat by omega),decide_eq_true (show(f.toNat:Int)<=90 by omega)];simp
 have y:1<=Z (f::g):=by simp
 generalize f::g=e at*;apply bG (λb:Nat=>[ff,I b]) (λ_=>[]) (λb=>Z e -b) (λb=>b<=Z e/\isVar e=(e.drop b).all e7) 1 ⟨y,x⟩;rintro b ⟨E,k⟩ m z;simp only[O,i,G,A,c3,decide_eq_true_eq,a];split;rename_i h;rw[Dw h]at k;simp only[Dk h,O];apply c (TE _);simp only[bK,O,jC,cx];have go:e7 e[b]=ad->(bd (aT .s .add (I ↑b) (I 1)) λB=>m [ff,B] []):=by
  intro j;rw[a6,O];refine z (b+1) ⟨h,?_⟩ (by omega);simp_all
 rcases j:e7 e[b]with _|_;have u:¬((e[b].toNat:Int)=95):=by intro q;simp[e7,o5,q]at j
 have D:(e[b].toNat:Int)<48\/(57:Int)<e[b].toNat:=by
  rcases E1 (e[b].toNat:Int) 48 with q|q;exact .inl q;rcases E1 57 (e[b].toNat:Int)with l|l;exact .inr l;simp[e7,o5]at j;omega
 have w:((e[b].toNat:Int) !=95)=true:=by simpa using u
 simp only[q6,if_true,w,k,j,vQ];by_cases v:(e[b].toNat:Int)<48;simp[v];simp_all;grind;simp_all[uI]
def b1(c:K->Bool)(b:List K):Int:=match b.findIdx? c with|aa a=>(a:Int)|ae=> -1
theorem TG(b:K->Bool)(a:List K):(0<=b1 b a)<->a.any b=true:=by
 grind[b1]
theorem tX(b:U<Z x)(d:∀a(c:a<Z x),a<U->ea x[a]=ab)(h:ea x[U]=ad):b1 ea x=U:=by
 grind[List.findIdx?_eq_some_iff_getElem,b1]
theorem wq(c:∀a(b:a<Z x),ea x[a]=ab):b1 ea x= -1:=by
 have:x.findIdx? ea=none:=by
  rw[yT];intro e d;obtain⟨a,b,rfl⟩:=kf.1 d;exact c a b
 simp[b1,this]
def TH(C:fq)(d:Nat)(h:Bool)(e k:AV)(c:List Obj)(Q:AV->List Obj->Prop):Prop:=
 bd (gk .sl e c) λl=>
 jA (λb a j=>
 bd (aT .s .lss (g b 1) l) λm=>
 ez m (
 bd (bT d e (g b 1) a) λn=>
 bd (aQ d h n a) λo=>
 cj (lK k [(AV.pl o)]) λi f=>
 cp C i f a λp=>
 ez p (
 Q (AV.pl (g b 1)) a) (
 bd (aT .s .add (g b 1) (I 1)) λq=>
 j [(g b 0),q] a)) (
 Q (AV.pl (I (-1))) a)) [(I 0),(I 0)] c
def fI(C:fq)(e:AV)(d r:AV):Prop:=∃b a,lK e [d]=aa (b,a)/\PR C b a r/\∀c,b6 c .df (a.map AV.pl) a
variable{dQ:AV}
theorem fI.cp{r:AV}(h:fI C E dQ r)(f:kg r):cj (lK E [dQ]) λb a=>cp C b a M kg:=by
 let⟨b,a,c,d,e⟩:=h;rw[c];exact⟨.df,a,r,by decide,e M,d,(λdQ=>by cases dQ),f⟩
theorem u4{r:AV}(h:PR C U [E] r)(a:Im E):fI C (.fn U [] []) E r:=
 ⟨U,[E],rfl,h,λb=>by rw[bS.pl (by simp[a])];simp_all[bS.snap]⟩
theorem wu{f:K->AV}(c:List K)(o:Sm c)(q:∀b,Z (a7 b)=U)(p:∀F b l,aQ U T (.aH F (a7 b) 0) l=aa (f b))(r:∀b,(f b).pl=f b)
 (n:∀b∈c,fI C E (f b) (.bool (ea b))):TH C U T (eS F a7 c) E [] (λs m=>aM m .res s (I (b1 ea c))):=by
 unfold Sm at o;simp only[TH,a1,O];apply bG (λd:Nat=>[I 0,I d]) (λ_=>[]) (λd=>Z c -d) (λd=>d<=Z c/\∀e(j:e<Z c),e<d->ea c[e]=ab) 0 ⟨by simp,λe _ h=>absurd h (by omega)⟩;rintro d ⟨u,k⟩ t v;simp only[O,i,G,A,c3,decide_eq_true_eq,a];split;rename_i h;simp only[aF h (q _),O,p,r];apply(n _ (bp h)).cp;simp only[c3];split;rename_i g;simp[tX h k g];rename_i g;rw[a6,O];grind;rename_i h
 simp[wq (λe j=>k e j (by omega))]
theorem agC{b:Lit->Bool}(f:E.pl=E)(a:List Lit)(e:Sm a)(d:∀c∈a,fI C E (.agg (bg F c)) (.bool (b c))):PR C 93 [eS T (bg F) a,E] (I (b1 b a)):=
 KH.pr (by simp[f]) (wu a e (jB F) (λ_ _ _=>rfl) (λ_=>rfl) d)
theorem TI{b:S->Bool}(f:E.pl=E)(a:List S)(e:Sm a)(d:∀c∈a,fI C E (.agg (cF F c)) (.bool (b c))):PR C 78 [eS T (cF F) a,E] (I (b1 b a)):=
 Rh.pr (by simp[f]) (wu a e (fR F) (λ_ _ _=>rfl) (λ_=>rfl) d)
theorem agD{b:aJ->Bool}(f:E.pl=E)(a:List aJ)(e:Sm a)(d:∀c∈a,fI C E (.agg (cT c)) (.bool (b c))):PR C 214 [eS T cT a,E] (I (b1 b a)):=
 Ss.pr (by simp[f]) (wu a e kq (λ_ _ _=>rfl) (λ_=>rfl) d)
theorem agE{b:bP->Bool}(f:E.pl=E)(a:List bP)(e:Sm a)(d:∀c∈a,fI C E (.agg (bo F c)) (.bool (b c))):PR C 328 [eS T (bo F) a,E] (I (b1 b a)):=
 SF.pr (by simp[f]) (wu a e (kH F) (λ_ _ _=>rfl) (λ_=>rfl) d)
theorem agF{b:Fn->Bool}(f:E.pl=E)(a:List Fn)(e:Sm a)(d:∀c∈a,fI C E (.agg (cg F c)) (.bool (b c))):PR C 329 [eS T (cg F) a,E] (I (b1 b a)):=
 RY.pr (by simp[f]) (wu a e (sZ F) (λ_ _ _=>rfl) (λ_=>rfl) d)
theorem agG{b:cO->Bool}(f:E.pl=E)(a:List cO)(e:Sm a)(d:∀c∈a,fI C E (.agg (bO F c)) (.bool (b c))):PR C 333 [eS T (bO F) a,E] (I (b1 b a)):=
 RZ.pr (by simp[f]) (wu a e (jg F) (λ_ _ _=>rfl) (λ_=>rfl) d)
theorem agH{b:aD->Bool}(f:E.pl=E)(a:List aD)(e:Sm a)(d:∀c∈a,fI C E (.agg (aS F c)) (.bool (b c))):PR C 336 [eS T (aS F) a,E] (I (b1 b a)):=
 Sg.pr (by simp[f]) (wu a e (mM F) (λ_ _ _=>rfl) (λ_=>rfl) d)
theorem agI{b:d->Bool}(g:E.pl=E)(a:List d)(f:Sm a)(e:∀c∈a,fI C E (.str c) (.bool (b c))):PR C 343 [eS T cS a,E] (I (b1 b a)):=
 aea.pr (by simp[g]) (wu a f iR (λ_ _ _=>rfl) (λ_=>rfl) e)
theorem agJ{b:Int->Bool}(f:E.pl=E)(a:List Int)(e:Sm a)(d:∀c∈a,fI C E (I c) (.bool (b c))):PR C 344 [eS T cI a,E] (I (b1 b a)):=
 Tw.pr (by simp[f]) (wu a e jf (λ_ _ _=>rfl) (λ_=>rfl) d)
theorem s6(h:PR C U [E,dQ] (I (b1 ea x)))(d:∀a,b6 a .df ([E,dQ].map AV.pl) [E,dQ]):
 cp C U [E,dQ] [] λf=>bd (aT .s .geq f (I 0)) λg=>(λe b=>aM b .res e (.bool (x.any ea))) (AV.pl g) []:=by
 refine⟨.df,_,_,by decide,d [],h,(λc=>by cases c),?_⟩;grind[h0,O,qG,qK,TG]
def h6(a:AV):Prop:=a.pl=a/\∀b,aM b .df a a
theorem Im.still(h:Im E):h6 E:=⟨h.pl,λ_=>h.snap⟩
theorem h6.two(b:h6 E)(c:h6 dQ):∀a,b6 a .df ([E,dQ].map AV.pl) [E,dQ]:=λa=>by
 simp only[eg,nj,b.1,c.1];exact .ck (b.2 a) (.ck (c.2 a) (.nil _))
theorem agK{c:S->Bool}(b:h6 E)(a:List S)(f:Sm a)(e:∀d∈a,fI C E (.agg (cF F d)) (.bool (c d))):PR C 67 [eS T (cF F) a,E] (.bool (a.any c)):=
 aeK.pr (by simp[b.1]) (s6 (TI b.1 a f e) (h6.two (acO _ _ _).still b))
theorem KM{c:aJ->Bool}(b:h6 E)(a:List aJ)(f:Sm a)(e:∀d∈a,fI C E (.agg (cT d)) (.bool (c d))):PR C 159 [eS T cT a,E] (.bool (a.any c)):=
 Rq.pr (by simp[b.1]) (s6 (agD b.1 a f e) (h6.two (Qk _ _).still b))
theorem agL{c:bP->Bool}(b:h6 E)(a:List bP)(f:Sm a)(e:∀d∈a,fI C E (.agg (bo F d)) (.bool (c d))):PR C 296 [eS T (bo F) a,E] (.bool (a.any c)):=
 SB.pr (by simp[b.1]) (s6 (agE b.1 a f e) (h6.two (Qm _ _ _).still b))
theorem agM{c:Fn->Bool}(b:h6 E)(a:List Fn)(f:Sm a)(e:∀d∈a,fI C E (.agg (cg F d)) (.bool (c d))):PR C 298 [eS T (cg F) a,E] (.bool (a.any c)):=
 Sa.pr (by simp[b.1]) (s6 (agF b.1 a f e) (h6.two (Qn _ _ _).still b))
theorem agN{c:cO->Bool}(b:h6 E)(a:List cO)(f:Sm a)(e:∀d∈a,fI C E (.agg (bO F d)) (.bool (c d))):PR C 302 [eS T (bO F) a,E] (.bool (a.any c)):=
 Sc.pr (by simp[b.1]) (s6 (agG b.1 a f e) (h6.two (Qo _ _ _).still b))
theorem agO{c:aD->Bool}(b:h6 E)(a:List aD)(f:Sm a)(e:∀d∈a,fI C E (.agg (aS F d)) (.bool (c d))):PR C 306 [eS T (aS F) a,E] (.bool (a.any c)):=
 Tt.pr (by simp[b.1]) (s6 (agH b.1 a f e) (h6.two (Qp _ _ _).still b))
theorem agP{c:d->Bool}(b:h6 E)(a:List d)(g:Sm a)(f:∀e∈a,fI C E (.str e) (.bool (c e))):PR C 331 [eS T cS a,E] (.bool (a.any c)):=
 afY.pr (by simp[b.1]) (s6 (agI b.1 a g f) (h6.two (FV _ _).still b))
theorem agQ{c:Int->Bool}(b:h6 E)(a:List Int)(f:Sm a)(e:∀d∈a,fI C E (I d) (.bool (c d))):PR C 334 [eS T cI a,E] (.bool (a.any c)):=
 R0.pr (by simp[b.1]) (s6 (agJ b.1 a f e) (h6.two (J7 _ _).still b))
theorem agR{c:Lit->Bool}(b:h6 E)(a:List Lit)(f:Sm a)(e:∀d∈a,fI C E (.agg (bg F d)) (.bool (c d))):PR C 338 [eS T (bg F) a,E] (.bool (a.any c)):=
 RB.pr (by simp[b.1]) (s6 (agC b.1 a f e) (h6.two (Ql _ _ _).still b))
def TJ(d:Nat)(e h:AV)(c:List Obj)(Q:AV->List Obj->Prop):Prop:=
 bd (gk .sl e c) λi=>
 jA (λa b f=>
 bd (aT .s .lss (g a 1) i) λj=>
 ez j (
 bd (bT d e (g a 1) b) λk=>
 bd (aQ d ab k b) λl=>
 bd (aT .s .eql h l) λm=>
 ez m (
 Q (AV.pl (g a 1)) b) (
 bd (aT .s .add (g a 1) (I 1)) λn=>
 f [(g a 0),n] b)) (
 Q (AV.pl (I (-1))) b)) [(I 0),(I 0)] c
theorem TK[BEq K]{f:K->AV}(d:List K)(b:K)(p:Sm d)(r:∀b,Z (a7 b)=1)(q:∀T b m,aQ 1 ab (.aH T (a7 b) 0) m=aa (f b))(o:∀b l,aT .s .eql (f b) (f l)=aa (.bool (b==l))):
 TJ 1 (eS T a7 d) (f b) [] (λu n=>aM n .res u (I (b1 (b==·) d))):=by
 unfold Sm at p;simp only[TJ,a1,O];apply bG (λc:Nat=>[I 0,I c]) (λ_=>[]) (λc=>Z d -c) (λc=>c<=Z d/\∀e(j:e<Z d),e<c->(b==d[e])=ab) 0 ⟨by simp,λe _ h=>absurd h (by omega)⟩;rintro c ⟨w,k⟩ v x;simp only[O,i,G,A,c3,decide_eq_true_eq,a];split;rename_i h;simp only[aF h (r _),O,q,o,c3];split;rename_i g;simp[tX (ea:=(b==·)) h k g];rename_i g;rw[a6,O];grind;rename_i h
 simp[wq (ea:=(b==·)) (λe j=>k e j (by omega))]
theorem Gz(a:List d)(b:d)(c:Sm a):PR C 109 [eS T cS a,.str b] (I (b1 (b==·) a)):=
 Rl.pr rfl (TK (f:=.str) a b c iR (λ_ _ _=>rfl) (by simp))
theorem TL(a:List Int)(b:Int)(c:Sm a):PR C 77 [eS T cI a,I b] (I (b1 (b==·) a)):=
 R3.pr rfl (TK (f:=I) a b c jf (λ_ _ _=>rfl) (by simp))
theorem TM[BEq K][LawfulBEq K](a:List K)(b:K):a.any (b==·)=a.contains b:=by
 grind
theorem xX(a:List d)(b:d)(c:Sm a):PR C 162 [eS T cS a,.str b] (.bool (a.contains b)):=by
 rw[<-TM];exact Sq.pr rfl (s6 (Gz a b c) (h6.two (FV _ _).still (Qe _).still))
theorem TN(a:List Int)(b:Int)(c:Sm a):PR C 28 [eS T cI a,I b] (.bool (a.contains b)):=by
 rw[<-TM];exact SI.pr rfl (s6 (TL a b c) (h6.two (J7 _ _).still (acH _ _).still))
theorem agS(a:UInt8):e7 a=(!(((a.toNat:Int) !=95)&&((y ((a.toNat:Int)<48)||y (57<(a.toNat:Int)))&&(y ((((BitVec.ofInt 8 (a.toNat:Int)|||BitVec.ofInt 8 32).toNat:Nat):Int)<97)||y (122<(((BitVec.ofInt 8 (a.toNat:Int)|||BitVec.ofInt 8 32).toNat:Nat):Int)))))):=by
 have:∀b:Fin 256,o5 (b.val:Int)=(!(((b.val:Int) !=95)&&((y ((b.val:Int)<48)||y (57<(b.val:Int)))&&(y ((((BitVec.ofInt 8 (b.val:Int)|||BitVec.ofInt 8 32).toNat:Nat):Int)<97)||y (122<(((BitVec.ofInt 8 (b.val:Int)|||BitVec.ofInt 8 32).toNat:Nat):Int)))))):=by decide+kernel
 exact this ⟨a.toNat,a.toNat_lt⟩
theorem agT(bk:BK)(a:UInt8):aT bk .or (.int .u8 a.toNat) (.int .u8 32)=aa (.int .u8 ((BitVec.ofInt 8 (a.toNat:Int)|||BitVec.ofInt 8 32).toNat:Int)):=by
 have h:∀b:Fin 256,IntKind.u8.wrap ((BitVec.ofInt 8 (b.val:Int)|||BitVec.ofInt 8 32).toNat:Int)=((BitVec.ofInt 8 (b.val:Int)|||BitVec.ofInt 8 32).toNat:Int):=by decide+kernel
 have:=h ⟨a.toNat,a.toNat_lt⟩;exact congrArg (λb=>aa (AV.int .u8 b)) this
theorem TP(c:d)(g f:UInt8)(u:∀e:UInt8,(g.toNat:Int)<=e.toNat->(e.toNat:Int)<=f.toNat->e7 e=ad):PR C 330 [.str c,.int .u8 g.toNat,.int .u8 f.toNat] (.bool (n0 g.toNat f.toNat c)):=by
 apply S5.pr;rcases c with _|⟨e,j⟩;simp[bw,n0];have n:((e::j)==([]:List UInt8))=false:=rfl;simp only[bw,zn,O,gT,A,eX,jC,Bm,n,if_true,G,c3,Kf,Kg,a1];by_cases o:(16:Int)<Z (e::j);have:n0 g.toNat f.toNat (e::j)=false:=by simp only[mP];rw[decide_eq_false (by omega)];simp
 simp_all;have p:Z (e::j)<=16:=by omega
 simp only[o,decide_false,if_true];by_cases q:(e.toNat:Int)<g.toNat;simp_all[n0,decide_eq_false];simp only[q,decide_false,if_true];by_cases r:(f.toNat:Int)<e.toNat;simp_all[n0,decide_eq_false];simp only[r,decide_false,eZ,if_false];have t:n0 g.toNat f.toNat (e::j)=(e::j).all e7:=by
  simp only[mP,oz,u e (by omega) (by omega)];rw[decide_eq_true p,decide_eq_true (show(g.toNat:Int)<=e.toNat by omega),decide_eq_true (show(e.toNat:Int)<=f.toNat by omega)];simp
 generalize e::j=c at*;apply bG (λb:Nat=>[ff,I b]) (λ_=>[]) (λb=>Z c -b) (λb=>b<=Z c/\c.all e7=(c.drop b).all e7) 0 (by simp);rintro b ⟨H,l⟩ m w;simp only[O,i,G,A,c3,decide_eq_true_eq,a];split;rename_i h;rw[Dw h]at l;have v:aT .s .or (.int .u8 c[b].toNat) (.int .u8 (32))=aa (.int .u8 ((BitVec.ofInt 8 (c[b].toNat:Int)|||BitVec.ofInt 8 32).toNat:Int)):=agT .s c[b]
 simp only[aF h (F9 _),O,aK,Ga,cx,jC,A,eX,v];have go:e7 c[b]=ad->(bd (aT .s .add (I ↑b) (I 1)) λx=>m [ff,x] []):=by
  intro k;rw[a6,O];refine w (b+1) ⟨h,?_⟩ (by omega);simp_all
 have no:e7 c[b]=ab->aM [] .res (AV.pl ff) (.bool (n0 g.toNat f.toNat c)):=by
  intro k;simp[t,l,k]
 rw[agS]at go no;revert go no;generalize((c[b].toNat:Int) !=95)=z;generalize y ((c[b].toNat:Int)<48)=F;generalize y (57<(c[b].toNat:Int))=B;generalize y ((((BitVec.ofInt 8 (c[b].toNat:Int)|||BitVec.ofInt 8 32).toNat:Nat):Int)<97)=D;generalize y (122<(((BitVec.ofInt 8 (c[b].toNat:Int)|||BitVec.ofInt 8 32).toNat:Nat):Int))=E;simp_all;simp_all[uI]
theorem KN(a:d):PR C 309 [.str a] (.bool (isVar a)):=by
 apply RW.pr;exact c (TP a 65 90 (λf b e=>agA b e)) (by simp[isVar])
theorem agU(a:d):mO a=(a==[108,97,116,116,105,99,101]||(a==[102,117,110,99,116,105,111,110]||(a==[111,110]||(a==[98,97,115,101]||(a==[118,105,101,119]||(a==[107,101,121]||(a==[100,101,110,121]||(a==[110,111,116]||(a==[105,110,116]||a==[115,121,109]))))))))):=by
 simp only[mO,gJ,List.contains_cons,List.contains_nil,OC]
theorem xY(a:d):PR C 300 [.str a] (.bool (bY a)):=by
 apply Sb.pr;have yes:mO a=ad->aM [] .res (AV.pl ff) (.bool (bY a)):=by
  intro h;simp[bY,h]
 have no:mO a=ab->(cp C 330 [.str a,.int .u8 (97),.int .u8 (122)] [] λb=>aM [] .res (AV.pl b) (.bool (bY a))):=by
  intro h;exact c (TP a 97 122 (λj e f=>Dv e f)) (by simp[bY,h])
 rw[agU]at yes no;simp only[bw,gT,O,G,c3];revert yes no;generalize(aM [] .res (AV.pl ff) (.bool (bY a)))=g;generalize(cp C 330 [.str a,.int .u8 (97),.int .u8 (122)] [] λb=>aM [] .res (AV.pl b) (.bool (bY a)))=i;intro yes no
 repeat' split
 all_goals grind
def wx:List (Nat×Nat):=[(118,3),(124,1),(267,1),(268,2),(271,4),(272,9)]
structure e8(C:fq):Prop where
 agV:∀s:d,Sm s->PR C 321 [.str s,.fn 222 [] [],tt] (I (b1 (λc=> !e7 c) s))
 Bn:∀f sz,(f,sz)∈wx->∀b H,C f [.sl b []] H (.q (Z H+1) 0 0 0) (H++[.arr 0 sz [],.arr 0 sz []])
def iJ(a:aJ):Bool:=if a.aE=[]then nE a.const else isVar a.aE&&y (a.const=⟨0,0,[]⟩)
def eQ(b:Int)(c:K->Bool)(a:List K):Bool:=y ((Z a:Int)<=b)&&a.all c
def n4(a:Lit):Bool:=
 decide (0<=a.ba)&&y (1<=a.ax)&&y (a.ax<=5)&&eQ 4 iJ a.af&&
 (if(a.ax==5)=ad then a.au==[]else bY a.au)&&(if(a.ax==3||a.ax==4)=ad then bY a.aj else a.aj==[])&&(a.bind==[]||a.ax==1&&isVar a.bind)&&
 (if(a.ax==5)=ad then((Z a.af:Int)==2)&&y (1<=a.op)&&y (a.op<=4)else a.op==0)
def nF(r:aD):Bool:=
 decide (0<=r.ba)&&y (0<=r.aj.ax)&&y (r.aj.ax<=3)&&(r.au==[]||bY r.au)&&(!(r.au==[])|| !(y (0<(Z r.af:Int))|| !(r.aj.ax==0)))&&
 (if(r.aj.ax==1||r.aj.ax==3)=ad then bY r.aj.au else r.aj.au==[])&&(if(r.aj.ax==2||r.aj.ax==3)=ad then isVar r.aj.aE else r.aj.aE==[])&&
 eQ 4 iJ r.af&&eQ 8 n4 r.ah
def tY(a:Fn):Bool:=y (0<=a.ba)&&bY a.au&&bY a.aN&&((Z a.src:Int)==Z a.dst)&&eQ 8 bY a.src&&eQ 8 bY a.dst
def mQ(a:Int):Bool:=a==1||a==2
def tZ(a:cO):Bool:=
 decide (0<=a.ba)&&bY a.au&&(a.aN==[]||bY a.aN)&&eQ 4 mQ a.aZ&&
 decide (0<=a.fx)&&y (a.fx<=(Z a.aZ:Int))&&(a.fx==(Z a.aZ:Int)||a.eo&&a.aN==[])
def zx(a:bP):Bool:=y (0<=a.ba)
def rR(a:D):Bool:=eQ 4 zx a.aw&&eQ 8 tY a.aO&&eQ 24 tZ a.Q&&eQ 40 nF a.ak
def TQ(C:fq)(b:Nat)(e f:AV)(a:List Obj)(Q:AV->List Obj->Prop):Prop:=
 bd (j0 b e) λg=>
 bd (aQ 1 ab f a) λh=>
 bd (aQ b ad g a) λi=>
 cj (lK h [(AV.pl i)]) λd c=>
 cp C d c a λj=>
 bd (np .not j) λk=>
 Q (AV.pl k) a
def TR(C:fq)(d e:AV)(a:List Obj)(Q:AV->List Obj->Prop):Prop:=
 bd (aQ 1 ab e a) λf=>
 cj (lK f [(AV.pl d)]) λc b=>
 cp C c b a λg=>
 bd (np .not g) λh=>
 Q (AV.pl h) a
theorem Bo(a:Z bE=U)(c:bE.all AV.bU=ad)(h:fI C E (.agg bE) (.bool T)):TQ C U (.agg bE) (.aH ad [E] 0) [] (λd b=>aM b .res d (.bool (!T))):=by
 simp only[TQ,tU a c,O,aK,de,acR a,Ba];exact h.cp (by simp)
theorem TT(b:E.pl=E)(h:fI C dQ E (.bool T)):TR C E (.aH ad [dQ] 0) [] (λc a=>aM a .res c (.bool (!T))):=by
 simp only[TR,O,aK,de,b];exact h.cp (by simp)
theorem xZ(h:PR C U [dQ,.aH ad [E] 0] (.bool (!T)))(d:h6 E)(b:h6 dQ):fI C (.fn U [] [.aH ad [E] 0]) dQ (.bool (!T)):=by
 have c:h6 (.aH ad [E] 0):=⟨rfl,λa=>.uN _ (by decide) _ _ _ _ (.ck (d.2 a) (.nil _))⟩;exact⟨U,[dQ,.aH ad [E] 0],rfl,h,h6.two b c⟩
theorem ya(b:h6 E):h6 (.fn U [] [.aH ad [E] 0]):=
 ⟨rfl,λa=>.fn _ _ _ _ _ _ (.nil _) (.ck (.uN _ (by decide) _ _ _ _ (.ck (b.2 a) (.nil _))) (.nil _))⟩
def TU(C:fq)(h i:Nat)(c j l:AV)(e:List Obj)(Q:AV->List Obj->Prop):Prop:=
 cj (nw 1 l e) λm a=>
 jn (λb=>
 bd (gk .sl c a) λn=>
 bd (aT .s .leq n j) λo=>
 gd o ad (
 (λp=>
 cp C h [c,p] a λq=>
 bd (np .not q) λk=>
 b [k] a) (AV.fn i [] [(AV.pl m)])) (
 b [ff] a)) λd f=>
 Q (AV.pl (g d 0)) f
theorem agW(a:Bool):NB (.bool a):=.bool a
theorem yb(m:∀i,gk .sl E i=aa (I z))(d:z=Z x)(c:Im E)(e:Im dQ)(g:dQ.bU=ad)
 (h:PR C U [E,.fn N [] [.aH ad [dQ] 0]] (.bool (x.any λb=> !ea b))):TU C U N E (I f) dQ [] (λn j=>aM j .res n (.bool (eQ f ea x))):=by
 have l:nw 1 dQ []=aa (.ptr 0 0 0 0,[.arr 0 1 [[dQ]]]):=by
  have k:dQ.pl.cells=[dQ]:=by rw[e.pl];cases dQ<;>first|rfl|cases g
  have:dS 1 dQ=aa [dQ]:=by
   unfold dS;rw[k];exact if_pos ⟨rfl,by simp[g]⟩
  simp[nw,this]
 simp only[TU,l,e3,bw,m,O,la,jC,zm];split;rename_i a;refine e4 (bE:=[E,.fn N [] [.aH ad [dQ] 0]]) _ h ?_ (agW _) ?_;simp only[eg,nj,c.pl,acQ];refine .ck c.snap (.ck (.fn _ _ _ _ _ _ (.nil _) (.ck ?_ (.nil _))) (.nil _));exact .oU 0 0 0 0 1 [[dQ]] [dQ] [dQ] rfl rfl (.ck e.snap (.nil _));have:x.all ea= !(x.any λb=> !ea b):=by simp[arB]
 simp only[bK,O,G,qG,qK,eQ,this];rw[<-d,a,cZ];rename_i a;have:y ((Z x:Int)<=f)=false:=by rw[<-d];simpa using a
 simp[eQ,this]
theorem agX(a:aJ)(b:Im E)(h:fI C E (.agg (cT a)) (.bool T)):PR C 337 [.agg (cT a),.aH ad [E] 0] (.bool (!T)):=
 SG.pr rfl (Bo rfl rfl h)
theorem agY(a:Lit)(b:Im E)(h:fI C E (.agg (bg T a)) (.bool F)):PR C 339 [.agg (bg T a),.aH ad [E] 0] (.bool (!F)):=
 S6.pr rfl (Bo rfl rfl h)
theorem agZ(a:bP)(b:Im E)(h:fI C E (.agg (bo T a)) (.bool F)):PR C 297 [.agg (bo T a),.aH ad [E] 0] (.bool (!F)):=
 ago.pr rfl (Bo rfl rfl h)
theorem ag0(a:Fn)(b:Im E)(h:fI C E (.agg (cg T a)) (.bool F)):PR C 299 [.agg (cg T a),.aH ad [E] 0] (.bool (!F)):=
 afX.pr rfl (Bo rfl rfl h)
theorem ag1(a:cO)(b:Im E)(h:fI C E (.agg (bO T a)) (.bool F)):PR C 303 [.agg (bO T a),.aH ad [E] 0] (.bool (!F)):=
 Ts.pr rfl (Bo rfl rfl h)
theorem ag2(a:aD)(b:Im E)(h:fI C E (.agg (aS T a)) (.bool F)):PR C 307 [.agg (aS T a),.aH ad [E] 0] (.bool (!F)):=
 Se.pr rfl (Bo rfl rfl h)
theorem ag3(a:d)(b:Im E)(h:fI C E (.str a) (.bool T)):PR C 332 [.str a,.aH ad [E] 0] (.bool (!T)):=
 afw.pr rfl (TT rfl h)
theorem ag4(a:Int)(b:Im E)(h:fI C E (I a) (.bool T)):PR C 335 [I a,.aH ad [E] 0] (.bool (!T)):=
 RA.pr rfl (TT rfl h)
theorem TV{d:aJ->Bool}(b:Im E)(h:E.bU=ad)(a:List aJ)(g:Sm a)(e:∀c∈a,fI C E (.agg (cT c)) (.bool (d c))):PR C 310 [eS T cT a,I f,E] (.bool (eQ f d a)):=
 S2.pr (by simp[b.pl]) (yb (by simp) rfl (Qk T a) b h (KM (ya b.still) a g (λc i=>xZ (agX c b (e c i)) b.still (by simp[Im.still]))))
theorem ag5{d:Lit->Bool}(b:Im E)(h:E.bU=ad)(a:List Lit)(g:Sm a)(e:∀c∈a,fI C E (.agg (bg F c)) (.bool (d c))):PR C 312 [eS T (bg F) a,I f,E] (.bool (eQ f d a)):=
 S3.pr (by simp[b.pl]) (yb (by simp) rfl (Ql T F a) b h (agR (ya b.still) a g (λc i=>xZ (agY c b (e c i)) b.still (by simp[Im.still]))))
theorem ag6{d:bP->Bool}(b:Im E)(h:E.bU=ad)(a:List bP)(g:Sm a)(e:∀c∈a,fI C E (.agg (bo F c)) (.bool (d c))):PR C 257 [eS T (bo F) a,I f,E] (.bool (eQ f d a)):=
 Tp.pr (by simp[b.pl]) (yb (by simp) rfl (Qm T F a) b h (agL (ya b.still) a g (λc i=>xZ (agZ c b (e c i)) b.still (by simp[Im.still]))))
theorem ag7{d:Fn->Bool}(b:Im E)(h:E.bU=ad)(a:List Fn)(g:Sm a)(e:∀c∈a,fI C E (.agg (cg F c)) (.bool (d c))):PR C 258 [eS T (cg F) a,I f,E] (.bool (eQ f d a)):=
 Rw.pr (by simp[b.pl]) (yb (by simp) rfl (Qn T F a) b h (agM (ya b.still) a g (λc i=>xZ (ag0 c b (e c i)) b.still (by simp[Im.still]))))
theorem ag8{d:cO->Bool}(b:Im E)(h:E.bU=ad)(a:List cO)(g:Sm a)(e:∀c∈a,fI C E (.agg (bO F c)) (.bool (d c))):PR C 260 [eS T (bO F) a,I f,E] (.bool (eQ f d a)):=
 Rx.pr (by simp[b.pl]) (yb (by simp) rfl (Qo T F a) b h (agN (ya b.still) a g (λc i=>xZ (ag1 c b (e c i)) b.still (by simp[Im.still]))))
theorem ag9{d:aD->Bool}(b:Im E)(h:E.bU=ad)(a:List aD)(g:Sm a)(e:∀c∈a,fI C E (.agg (aS F c)) (.bool (d c))):PR C 262 [eS T (aS F) a,I f,E] (.bool (eQ f d a)):=
 Sv.pr (by simp[b.pl]) (yb (by simp) rfl (Qp T F a) b h (agO (ya b.still) a g (λc i=>xZ (ag2 c b (e c i)) b.still (by simp[Im.still]))))
theorem TW{e:d->Bool}(b:Im E)(i:E.bU=ad)(a:List d)(h:Sm a)(g:∀c∈a,fI C E (.str c) (.bool (e c))):PR C 301 [eS T cS a,I f,E] (.bool (eQ f e a)):=
 ae4.pr (by simp[b.pl]) (yb (by simp) rfl (FV T a) b i (agP (ya b.still) a h (λc j=>xZ (ag3 c b (g c j)) b.still (by simp[Im.still]))))
theorem aha{d:Int->Bool}(b:Im E)(h:E.bU=ad)(a:List Int)(g:Sm a)(e:∀c∈a,fI C E (I c) (.bool (d c))):PR C 305 [eS T cI a,I f,E] (.bool (eQ f d a)):=
 Sd.pr (by simp[b.pl]) (yb (by simp) rfl (J7 T a) b h (agQ (ya b.still) a g (λc i=>xZ (ag4 c b (e c i)) b.still (by simp[Im.still]))))
theorem ahb(a:Int):PR C 304 [I a] (.bool (mQ a)):=by
 apply SD.pr;simp only[bw,di,O,jC,G,qG,qK,mQ];grind
theorem GA(b:d)(a c:Bool)(h:PR C U [.str b] (.bool c)):PR C 308 [.str b,.bool a,.fn U [] []] (.bool (if a=ad then c else b==[])):=by
 apply SE.pr;simp only[bK,O,c3,gT,zl];rcases a with _|_;simp;simp only[sN,eZ,if_false,if_true];exact(u4 h (by simp)).cp (by simp)
theorem e8.ahc(g:e8 C)(e:d):PR C 167 [.str e] (.bool (bY e)):=by
 apply R8.pr rfl;simp only[cK,hZ];rcases e with _|⟨a,b⟩;simp[bw,bY,n0];have h:((a::b)==([]:List UInt8))=false:=rfl;have o:∀f,fy (.arr 10) (gv G0 0) ae ae f=aa (eS ab cS gJ):=λ_=>rfl;simp only[bw,zn,O,gT,A,eX,jC,Bm,h,if_true,G,c3,o];by_cases i:(16:Int)<Z (a::b);have:bY (a::b)=false:=by simp only[bY,mP];rw[decide_eq_false (by omega)];simp
 simp_all;have j:Z (a::b)<=16:=by omega
 simp only[i,decide_false,if_true];by_cases l:(a.toNat:Int)<97;simp_all[bY,mP,decide_eq_false];simp only[l,decide_false,if_true];by_cases n:(122:Int)<a.toNat;simp_all[bY,mP,decide_eq_false];simp only[n,decide_false,if_true];apply c (xX gJ (a::b) (by simp[Sm,gJ]));have r:bY (a::b)=((a::b).all e7&& !mO (a::b)):=by
  simp only[bY,mP,oz,Dv (a:=a) (by omega) (by omega)];rw[decide_eq_true j,decide_eq_true (show(97:Int)<=a.toNat by omega),decide_eq_true (show(a.toNat:Int)<=122 by omega)];simp
 have p:gJ.contains (a::b)=mO (a::b):=rfl;rw[p];have s:Sm (a::b):=by unfold Sm;omega
 generalize a::b=e at*;rcases q:mO e with _|_;simp only[c3,eZ,if_false];have m:PR C 277 [.str e,.fn 222 [] []] (I (b1 (λa=> !e7 a) e)):=by
  apply Sz.pr;exact c (g.agV e s) (by simp)
 have k:PR C 223 [.str e,.fn 222 [] []] (.bool (e.any λa=> !e7 a)):=
  To.pr rfl (s6 m (h6.two (Qe e).still (show Im (.fn 222 [] [])by simp).still))
 apply c k;simp[r,q,arB];simp_all
theorem e8.TX(d:e8 C)(a:aG):PR C 101 [.agg (cV a)] (.bool (nE a)):=by
 apply Rj.pr;simp only[bw,Bb,O,bj,aK,Dd,F1,F2,di,h0,la,gT,jC,c3,beq_iff_eq,G,e,nE];split;simp_all;by_cases b:a.ty=2;by_cases f:a.n=0;simp only[b,f,if_true,beq_self_eq_true];exact c (d.ahc _) (by simp);simp_all;simp[b]
variable{ix:Prop}
theorem aW(a:T=ad->fo)(b:T=ab->ix):gd (.bool T) ad fo ix:=by
 cases T<;>simp_all[jC]
theorem ei(a:T=ab->fo)(b:T=ad->ix):gd (.bool T) ab fo ix:=by
 cases T<;>simp_all[jC]
def lO(a:bP):Prop:=Sm a.az/\Sm a.eH
def zy(a:Fn):Prop:=Sm a.src/\Sm a.dst/\Sm a.gQ
def Dx(a:cO):Prop:=Sm a.aZ
def u5(a:Lit):Prop:=Sm a.af
def pT(r:aD):Prop:=Sm r.af/\Sm r.ah/\∀a∈r.ah,u5 a
structure eI(p:D):Prop where
 aw:Sm p.aw
 aN:∀l∈p.aw,lO l
 aO:Sm p.aO
 fn:∀l∈p.aO,zy l
 Q:Sm p.Q
 s7:∀l∈p.Q,Dx l
 ak:Sm p.ak
 iS:∀l∈p.ak,pT l
theorem ahd(a:bP):PR C 256 [.agg (bo T a)] (.bool (zx a)):=by
 apply aeu.pr;simp[zx]
theorem e8.TY(b:e8 C)(a:aJ):PR C 311 [.agg (cT a)] (.bool (iJ a)):=by
 apply Sf.pr;have d:ma [I 0,I 0,.str []] []=aa (cV ⟨0,0,[]⟩):=rfl;simp only[bw,zp,O,bj,aK,rO,gT,c3,beq_iff_eq,e,J8,d,iJ,G];split;exact c (b.TX _) (by simp);exact c (KN _) (aW (λh=>by simp[h]) (λh=>by simp[h]))
theorem ahe(b:Fn)(k:zy b):PR C 259 [.agg (cg T b)] (.bool (tY b)):=by
 apply ae2.pr;simp only[bw,FX,O,bj,aK,Qu,Qv,Df,Dg,Qy,a1,h0,di,e,G];have j:∀a:d,fI C (.fn 300 [] []) (.str a) (.bool (bY a)):=by simp[u4,xY]
 unfold tY;refine aW (λf=>?_) (λf=>by simp only[f,vQ,qG,qK]);refine c (xY _) (aW (λg=>?_) (λg=>by simp only[g,vQ,Cv,qG,qK]));refine c (xY _) (aW (λh=>?_) (λh=>by simp only[h,vQ,Cv,qG,qK]));refine aW (λm=>?_) (by simp_all);refine c (TW (e:=bY) (by simp) rfl _ k.1 (λa _=>j a)) (aW (λi=>?_) (λi=>by simp only[i,vQ,Cv,qG,qK]));apply c (TW (e:=bY) (by simp) rfl _ k.2.1 (λa _=>j a));simp_all
theorem ahf(a:cO)(n:Dx a):PR C 261 [.agg (bO T a)] (.bool (tZ a)):=by
 apply SY.pr;simp only[bw,FY,O,bj,aK,Qz,wi,QA,F4,QB,QC,a1,A,h0,la,di,gT,jD,e,G];have l:PR C 305 [eS T cI a.aZ,I 4,.fn 304 [] []] (.bool (eQ 4 mQ a.aZ)):=aha (d:=mQ) (by simp) rfl _ n (by simp[u4,ahb]);have m:y (0<=a.ba)= !y (a.ba<0):=by rw[<-decide_not];congr 1;simp
 unfold tZ;rw[m];have j:y (a.ba<0)=ab->bY a.au=ad->(a.aN==[]||bY a.aN)=ad->
  cp C 305 [eS T cI a.aZ,I 4,.fn 304 [] []] [] λo=>bd (np .not o) λp=>(ez (p) (aM [] .res (AV.pl ff) (.bool (!y (a.ba<0)&&bY a.au&&(a.aN==[]||bY a.aN)&&eQ 4 mQ a.aZ&&y (0<=a.fx)&&y (a.fx<=(Z a.aZ:Int))&&(a.fx==(Z a.aZ:Int)||a.eo&&a.aN==[])))) (gd (.bool (y (0<=a.fx))) ad (gd (.bool (y (a.fx<=(Z a.aZ:Int)))) ad (gd (.bool (a.fx==(Z a.aZ:Int))) ab (gd (.bool a.eo) ad (aM [] .res (AV.pl (.bool (a.aN==[]))) (.bool (!y (a.ba<0)&&bY a.au&&(a.aN==[]||bY a.aN)&&eQ 4 mQ a.aZ&&y (0<=a.fx)&&y (a.fx<=(Z a.aZ:Int))&&(a.fx==(Z a.aZ:Int)||a.eo&&a.aN==[])))) (aM [] .res (AV.pl ff) (.bool (!y (a.ba<0)&&bY a.au&&(a.aN==[]||bY a.aN)&&eQ 4 mQ a.aZ&&y (0<=a.fx)&&y (a.fx<=(Z a.aZ:Int))&&(a.fx==(Z a.aZ:Int)||a.eo&&a.aN==[]))))) (aM [] .res (AV.pl tt) (.bool (!y (a.ba<0)&&bY a.au&&(a.aN==[]||bY a.aN)&&eQ 4 mQ a.aZ&&y (0<=a.fx)&&y (a.fx<=(Z a.aZ:Int))&&(a.fx==(Z a.aZ:Int)||a.eo&&a.aN==[]))))) (aM [] .res (AV.pl ff) (.bool (!y (a.ba<0)&&bY a.au&&(a.aN==[]||bY a.aN)&&eQ 4 mQ a.aZ&&y (0<=a.fx)&&y (a.fx<=(Z a.aZ:Int))&&(a.fx==(Z a.aZ:Int)||a.eo&&a.aN==[]))))) (aM [] .res (AV.pl ff) (.bool (!y (a.ba<0)&&bY a.au&&(a.aN==[]||bY a.aN)&&eQ 4 mQ a.aZ&&y (0<=a.fx)&&y (a.fx<=(Z a.aZ:Int))&&(a.fx==(Z a.aZ:Int)||a.eo&&a.aN==[])))))):=by
  intro d g f;apply c l;simp only[d,g,f,q6,cZ,bK,O];rcases q:eQ 4 mQ a.aZ with _|_;simp;simp only[c3,sN,eZ,if_false,cZ];refine aW (λb=>?_) (λb=>by simp only[b,vQ,qG,qK]);refine aW (λh=>?_) (λh=>by simp only[h,vQ,Cv,qG,qK]);simp only[b,h,cZ];refine ei (λk=>?_) (by simp_all);simp only[k,l3];exact aW (by simp_all) (by simp_all)
 refine ei (λd=>?_) (λd=>by simp only[d,sN,vQ,c3,if_true,qG,qK]);apply c (xY _);refine ei (λg=>?_) (by simp_all);have i:bY a.au=true:=by simpa using g
 refine aW (λf=>?_) (λf=>?_);refine c (xY _) ?_;refine ei (λb=>?_) (λb=>by simp only[gZ]at f b;simp only[f,b,arz,Cv,vQ,c3,if_true,qG,qK]);exact j d i (by grind);exact j d i (by grind)
open Go.Proofs.YtegalmbcaggfiaaGreatDoor Go.Deep
def E0(w:World):ar:=⟨w,λ_ a=>a<w.heap.size,λ_=>ae,λ_=>ae,[]⟩
theorem ahg(w:World):Good (E0 w)where
 iF:=λ_ _ h=>h
 iG:=λ_ h=>h
 dC:=λid b z e=>by cases e
 jY:=λi j b z a e=>by cases e
 blt:=λk b e=>by cases e
 mK:=λi j b e=>by cases e
 gI:=by grind[id,E0]
variable{hK:List Value}
theorem TZ{w:World}{base:Nat}{a:Addr}(h:w.cells? base a U=aa hK)(m:0<U):a.spot=ae/\∃b j f,w.heap[a.block]?=aa (.cells b j f)/\((bI b).drop a.off).take U=hK/\a.off+U<=b.size:=by
 let⟨_,o,l⟩:=World.cells?_some h;have d:=l 0 m;have e0:a.add 0=a:=by simp[Addr.add]
 rw[e0,bu (by omega)]at d;unfold World.cell? at d;split at d
 case h_2=>cases d
 case h_1 b j f g=>
 split at d;cases d
 rename_i e;have e:a.spot=none:=by simpa using e
 have i:∀c,c<U->b[a.off+c]?=hK[c]?:=by
  intro c i;have:=l c i;by_cases k:c=0;subst k;rw[e0]at this;rw[<-this];simp[World.cell?,g,e];rw[<-this];simp[World.cell?,Addr.add,k,g]
 have n:a.off+U<=b.size:=by
  have:=i (U -1) (by omega);rw[bu (by omega)]at this;have:=(kY.1 this).1;omega
 refine⟨e,b,j,f,g,yR λc=>?_,n⟩;grind
section
variable{H:Type}{enc:TypeId×Value->H}{P:Program}{w:World}{sp:Nat->Bool}
def Rd(H:Type)(enc:TypeId×Value->H)(P:Program)(w:World)(sp:Nat->Bool)(h f:Nat)(b:K->List AV)(Q:K->Prop):Prop:=
 (∀a,Z (b a)=f/\∀i∈b a,i.bU=ad)/\∀(e:Nat)(c:List Value)(d:DataW H)(g:List MemPlace),DataW.trod enc P w 0 sp ad e h c=aa (d,g)->Rows.uptoBulk d<=1048576->∃a,RL (E0 w) (b a) c/\Q a
theorem ahh{b:DataW H}{a:List (DataW H)}(h:b∈a):Rows.uptoBulk b<=Rows.uptoBulkAll a:=by
 induction a with
 |nil=>cases h
 |cons d r c=>
  grind[Rows.uptoBulkAll]
theorem ahi(a:DataW H):1<=Rows.uptoBulk a:=by
 cases a with
 |lit b=>cases b<;>simp[Rows.uptoBulk]
 |_=>simp[Rows.uptoBulk]
theorem T0:∀a:List (DataW H),Z a<=Rows.uptoBulkAll a
 |[]=>c5 _
 |d::a=>by
  have:=T0 a;grind[ahi,Rows.uptoBulkAll,List.length_cons]
theorem T1(e:P.underlying U=aa (.int .i64)):Rd H enc P w sp U 1 (λa:Int=>[I a]) (λ_=>True):=by
 refine⟨(by simp),λb f g j h _=>?_⟩;rcases b with _|b;simp[DataW.trod]at h;unfold DataW.trod at h;simp only[e]at h;split at h<;>rename_i c<;>first|(cases h;done)|(cases c;done)|skip
 cases c
 rename_i i a;split at h;rename_i d;obtain⟨rfl,-⟩:=d;exact⟨a,.cons _ _ _ _ (.int _ _) .nil,trivial⟩;cases h
theorem ahj(f:P.underlying U=aa .string):Rd H enc P w sp U 1 (λa:d=>[.str a]) (λa=>Sm a):=by
 refine⟨(by simp),λb i j k h e=>?_⟩;rcases b with _|b;simp[DataW.trod]at h;unfold DataW.trod at h;simp only[f]at h;split at h<;>rename_i c<;>first|(cases h;done)|(cases c;done)|skip
 cases c
 rename_i g;split at h;simp only[e1,eE]at h;let⟨h,_⟩:=h;subst h;simp only[Rows.uptoBulk]at e;exact⟨bI g.data,.cons _ _ _ _ (.str _) .nil,by grind[Sm]⟩;cases h
theorem ahk(d:P.underlying U=aa .bool):Rd H enc P w sp U 1 (λa:Bool=>[.bool a]) (λ_=>True):=by
 refine⟨(by simp),λb e f i h g=>?_⟩;rcases b with _|b;simp[DataW.trod]at h;unfold DataW.trod at h;simp only[d]at h;split at h<;>rename_i c<;>first|(cases h;done)|(cases c;done)|skip
 cases c
 rename_i a;exact⟨a,.cons _ _ _ _ (.bool _) .nil,trivial⟩
theorem ua{Q:K->Prop}(q:P.underlying U=aa (.slice N))(ac:P.cellsOf N=z)(af:0<z)(am:∀J,sp J=ad)(u:Rd H enc P w sp N z a7 Q)(y:Bool):
 Rd H enc P w sp U 1 (λc:List K=>[eS y a7 c]) (λc=>Z c<=1048576/\∀e∈c,Q e):=by
 refine⟨λe=>⟨rfl,λo f=>by simp at f;subst f;rfl⟩,λa4 a3 B ba h V=>?_⟩;rcases open_slice q h with⟨rfl,C⟩|⟨a,len,cap,aE,aR,g,a2,rfl,-,ah,-,ak,aA,F⟩;exact⟨[],.cons _ _ _ _ (.jN _ _ _) .nil,by simp,by simp⟩;rw[ac]at F;rw[if_pos (am _)]at ak;have W:B=.slice ((ay len).map g) ((ay (aE -len)).map λb=>g (len+b)):=congrArg Prod.fst aA;subst W;simp only[Rows.uptoBulk]at V;have ai:=T0 ((ay len).map g)
 simp only[kc,List.length_range]at ai;have O:∀k,k<len->Rows.uptoBulk (g k)<=1048576:=λk Y=>by
  have:=ahh (a:=(ay len).map g) (b:=g k) (cy.2 ⟨k,by simpa using Y,rfl⟩);omega
 have key:∀b,b<=len->∃c:List K,Z c=b/\(∀e∈c,Q e)/\(0<b->a.spot=ae/\∃d l j,w.heap[a.block]?=aa (.cells d l j)/\a.off+b*z<=d.size/\RL (E0 w) (c.map a7).flatten (((bI d).drop a.off).take (b*z))):=by
  intro b;induction b with
  |zero=>simp
  |succ b I=>
   intro a9;let⟨c,i,D,r⟩:=I (by omega);let⟨A,t,ax⟩:=F b (by omega);let⟨e,s,a5⟩:=u.2 aR A _ _ ax (O b (by omega));let⟨G,d,l,j,p,E,v⟩:=TZ t af;have S:(a.add (b*z)).block=a.block:=by unfold Addr.add;split<;>rfl
   have T:(a.add (b*z)).off=a.off+b*z:=by
    unfold Addr.add;split;rename_i C;rw[C]<;>rfl
    rfl
   rw[S]at p;rw[T]at E v;have au:a.spot=none:=by
    by_cases e0:b=0;subst e0;simpa[Addr.add]using G;exact(r (by omega)).1
   refine⟨c++[e],by simp[i],λaZ x=>?_,λ_=>⟨au,d,l,j,p,?_,?_⟩⟩;grind;grind;have q:((bI d).drop a.off).take ((b+1)*z)=((bI d).drop a.off).take (b*z)++A:=by
    rw[q4,List.take_add,vM,E]
   rw[q,hE,xp];refine RL.append ?_ (by grind);by_cases e0:b=0;subst e0;have:c=[]:=tH i;subst this;simpa using RL.nil;grind
 let⟨c,i,D,r⟩:=key len (c5 _);refine⟨c,.cons _ _ _ _ ?_ .nil,by omega,D⟩;by_cases e0:len=0;subst e0;have:c=[]:=tH i;subst this;exact .jN _ _ _;let⟨G,d,l,j,p,v,s⟩:=r (by omega);have L:a=⟨a.block,a.off,ae⟩:=by cases a;simp_all
 rw[L,<-i];have aj:Z (c.map a7)=Z c:=by simp
 have M:∀m∈((bI d).drop a.off).take (len*z),m.oneCell'=true:=by
  have:∀{vs:List AV}{n:List Value},RL (E0 w) vs n->(∀o∈vs,o.bU=ad)->∀m∈n,m.oneCell'=true:=by
   intro vs n h;induction vs generalizing n with
   |nil=>intro _ m az;cases h;simp at az
   |cons o vs I=>
    cases h with
    |cons _ m _ n f q=>
     intro t aZ x;rcases b5.1 x with rfl|x;exact f.CG (t _ (by simp));grind
  refine this s λo f=>?_;simp only[uJ,cy]at f;obtain⟨_,⟨e,-,rfl⟩,f⟩:=f;exact(u.1 e).2 o f
 rw[<-i]at s M v ah;have:=R.sl (E:=E0 w) y (c.map a7) a.block a.off z cap d l j (by show a.block<w.heap.size;grind) p (λN X=>by
  obtain⟨e,-,rfl⟩:=cy.1 X;exact(u.1 e).1) (by omega) (by grind) (by grind) (by grind)
 rw[aj]at this;exact this
variable{ri:List Field}{dh:Nat}{oH:bZ -> List AV}
def T2(a:K->List AV)(c:Nat):Prop:=∀b,Z (a b)=c/\∀d∈a b,d.bU=ad
def dd(H:Type)(enc:TypeId×Value->H)(P:Program)(w:World)(sp:Nat->Bool)(e:List Field)(h g:Nat)(d:K->List AV)(Q:K->Prop):Prop:=
 T2 d g/\∀(j:Nat)(b:List Value)(c:List (DataW H×List MemPlace)),Z b=h+g->Z c=Z e->
  (∀(f:Nat)(a:Field),e[f]?=aa a->DataW.trod enc P w 0 sp ad j a.type ((b.drop a.offset).take (P.cellsOf a.type))=c[f]?)->Rows.uptoBulkAll (c.map (·.1))<=1048576->∃i,RL (E0 w) (d i) (b.drop h)/\Q i
theorem dd.nil:dd H enc P w sp [] U 0 (λ_:Unit=>[]) (λ_=>True):=
 ⟨λ_=>by grind,λc a d b _ _ _=>⟨(),by rw[uI (by omega)];exact .nil,trivial⟩⟩
theorem dd.cons{c:Field}{g:bZ->List AV}{Q:K->Prop}{d:bZ->Prop}(u:c.type=U)(q:c.offset=N)(p:P.cellsOf U=z)(h:Rd H enc P w sp U z a7 Q)(r:dd H enc P w sp ri (N+z) dh g d):
 dd H enc P w sp (c::ri) N (z+dh) (λa:K×bZ=>a7 a.1++g a.2) (λa=>Q a.1/\d a.2):=by
 refine⟨λa=>⟨by rw[gy,(h.1 a.1).1,(r.1 a.2).1],λj b=>?_⟩,λi n y E v f o=>?_⟩;rcases dm.1 b with b|b;exact(h.1 a.1).2 j b;exact(r.1 a.2).2 j b;cases y with
 |nil=>simp at v
 |cons k A=>
  have e:=f 0 c rfl;rw[u,q,p]at e;simp only[eg,Rows.uptoBulkAll]at o;let⟨l,B,s⟩:=h.2 i _ k.1 k.2 e (by omega);let⟨m,C,t⟩:=r.2 i n A (by omega) (by grind) (λx a7 D=>by simpa using f (x+1) a7 (by grind)) (by omega);refine⟨(l,m),?_,s,t⟩;grind[List.drop_drop,List.take_append_drop,RL.append]
theorem u6{a:Array Field}{Q:K->Prop}(j:P.underlying U=aa (.struct a))(n:P.cellsOf U=N)(h:dd H enc P w sp (bI a) 0 N a7 Q):Rd H enc P w sp U N a7 Q:=by
 refine⟨h.1,λl d e r g f=>?_⟩;obtain⟨c,k,rfl,b,o,q,m⟩:=DataW.trod_struct j g;have i:e=.agg (c.map (·.1)):=congrArg Prod.fst b;subst i;simp only[Rows.uptoBulk]at f;let⟨s,b,p⟩:=h.2 k d c (by omega) (by omega) (by grind) (by omega);grind
theorem Rd.conv{Q:K->Prop}{b:bZ->Prop}(c:K->bZ)(i:T2 oH N)(m:∀a,a7 a=oH (c a))(l:∀a,Q a->b (c a))(h:Rd H enc P w sp U N a7 Q):Rd H enc P w sp U N oH b:=
 ⟨i,λf d e k j g=>by
  let⟨a,o,n⟩:=h.2 f d e k j g;grind⟩
theorem ahl(x:P.underlying U=aa (.array 2 N))(v:P.cellsOf U=2)(t:P.cellsOf N=1)(u:P.underlying N=aa (.int .i64)):Rd H enc P w sp U 2 b2 (λ_=>True):=by
 refine⟨λF=>⟨rfl,λE h=>by simp[b2]at h;rcases h with rfl|rfl<;>rfl⟩,λC o p D q d=>?_⟩;obtain⟨j,i,rfl,y,g,z,f⟩:=DataW.trod_array x q;have s:p=.agg (j.map (·.1)):=congrArg Prod.fst y;subst s;simp only[Rows.uptoBulk]at d;rcases j with _|⟨k,_|⟨l,_|⟨_,_⟩⟩⟩<;>simp at z
 simp only[eg,nj,Rows.uptoBulkAll]at d;have r:=T1 (H:=H) (enc:=enc) (w:=w) (sp:=sp) u;have a:=f 0 (by omega);have b:=f 1 (by omega);rw[t]at a b;let⟨m,c,_⟩:=r.2 i _ k.1 k.2 a (by omega);let⟨n,e,_⟩:=r.2 i _ l.1 l.2 b (by omega);rw[v]at g;rcases o with _|⟨A,_|⟨B,_|⟨_,_⟩⟩⟩<;>simp at g
 refine⟨(m,n),?_,trivial⟩;simp at c e;exact RL.append c e
end
variable{ri:List Field}{dh:Nat}{oH:bZ -> List AV}
theorem Sm.of(h:Z x<=1048576):Sm x:=by grind[Sm]
variable{rE:Program}
section
variable{H:Type}{enc:TypeId×Value->H}{w:World}{sp:Nat->Bool}
abbrev kJ(H:Type)(enc:TypeId×Value->H)(w:World)(sp:Nat->Bool)(c b:Nat)(a:K->List AV)(Q:K->Prop):Prop:=Rd H enc aU w sp c b a Q
theorem mh:kJ H enc w sp 3 1 cI (λ_=>True):=T1 (by kernel_rfl)
theorem qO:kJ H enc w sp 9 1 cS (λa=>Sm a):=ahj (by kernel_rfl)
theorem ahm:kJ H enc w sp 4 1 cB (λ_=>True):=ahk (by kernel_rfl)
def yc(b:List Field):List (Nat×Nat):=b.map λa=>(a.type,a.offset)
theorem ahn{r:List (Nat×Nat)}(h:yc ri=(U,N)::r):∃a b,ri=a::b/\a.type=U/\a.offset=N/\yc b=r:=by
 rcases ri with _|⟨a,b⟩;cases h
 simp only[yc,eg,Cs,eE]at h;exact⟨a,b,rfl,h.1.1,h.1.2,h.2⟩
theorem u7{r:List (Nat×Nat)}(h:(match rE.underlying U with|aa (.struct a)=>aa (yc (bI a))|_=>ae)=aa r):∃a:Array Field,rE.underlying U=aa (.struct a)/\yc (bI a)=r:=by
 grind
theorem dd.e5{r:List (Nat×Nat)}{g:bZ->List AV}{Q:K->Prop}{c:bZ->Prop}(d:yc ri=(U,N)::r)(k:rE.cellsOf U=z)(h:Rd H enc rE w sp U z a7 Q)(l:∀b,yc b=r->dd H enc rE w sp b (N+z) dh g c):
 dd H enc rE w sp ri N (z+dh) (λa:K×bZ=>a7 a.1++g a.2) (λa=>Q a.1/\c a.2):=by
 obtain⟨e,b,rfl,f,i,j⟩:=ahn d;grind[dd.cons]
theorem dd.u9(a:yc ri=[]):dd H enc rE w sp ri U 0 (λ_:Unit=>[]) (λ_=>True):=by
 rcases ri with _|⟨b,c⟩;exact dd.nil;cases a
theorem mR:aU.cellsOf 3=1:=by kernel_rfl
theorem pU:aU.cellsOf 9=1:=by kernel_rfl
theorem aho:aU.cellsOf 4=1:=by kernel_rfl
theorem T5:kJ H enc w sp 93 3 cV (λf=>Sm f.s):=by
 let⟨i,e,a⟩:=u7 (rE:=aU) (U:=93) (r:=[(3,0),(3,1),(9,2)]) (by kernel_rfl);refine Rd.conv (λb:Int×Int×d×Unit=>(⟨b.1,b.2.1,b.2.2.1⟩:aG)) (λb=>⟨rfl,by simp[cV,AV.bU]⟩) (λb=>rfl) (λb h=>h.2.2.1)
  (u6 e (by kernel_rfl) (dd.e5 a mR mh λc a=>dd.e5 a mR mh λc a=>dd.e5 a pU qO λc a=>dd.u9 a))
theorem ahp(c:∀a,sp a=ad)(a:Bool):kJ H enc w sp 36 1 (λb:List aG=>[eS a cV b]) (λb=>Z b<=1048576/\∀d∈b,Sm d.s):=ua (by kernel_rfl) (by kernel_rfl) (by decide) c T5 a
theorem KO(c:∀a,sp a=ad)(a:Bool):kJ H enc w sp 122 1 (λb:List d=>[eS a cS b]) (λb=>Z b<=1048576/\∀e∈b,Sm e):=ua (by kernel_rfl) (by kernel_rfl) (by decide) c qO a
theorem T6(c:∀a,sp a=ad)(a:Bool):kJ H enc w sp 31 1 (λb:List Int=>[eS a cI b]) (λb=>Z b<=1048576/\∀d∈b,True):=ua (by kernel_rfl) (by kernel_rfl) (by decide) c mh a
theorem ahq(c:∀a,sp a=ad)(a:Bool):kJ H enc w sp 128 1 (λb:List (Int×Int)=>[eS a b2 b]) (λb=>Z b<=1048576/\∀f∈b,True):=ua (by kernel_rfl) (by kernel_rfl) (by decide) c (ahl (U:=131) (N:=3) (by kernel_rfl) (by kernel_rfl) (by kernel_rfl) (by kernel_rfl)) a
theorem ahr:kJ H enc w sp 168 4 cT (λ_=>True):=by
 let⟨g,c,a⟩:=u7 (rE:=aU) (U:=168) (r:=[(9,0),(93,1)]) (by kernel_rfl);refine Rd.conv (λb:d×aG×Unit=>(⟨b.1,b.2.1⟩:aJ)) (λb=>⟨rfl,by simp[cT,AV.bU]⟩) (λb=>rfl) (λb h=>trivial)
  (u6 c (by kernel_rfl) (dd.e5 a pU qO λe a=>dd.e5 a (z:=3) (by kernel_rfl) T5 λe a=>dd.u9 a))
theorem ahs:kJ H enc w sp 84 4 nX (λ_=>True):=by
 let⟨g,e,a⟩:=u7 (rE:=aU) (U:=84) (r:=[(3,0),(9,1),(9,2),(3,3)]) (by kernel_rfl);refine Rd.conv (λb:Int×d×d×Int×Unit=>(⟨b.1,b.2.1,b.2.2.1,b.2.2.2.1⟩:pP)) (λb=>⟨rfl,by simp[nX,AV.bU]⟩) (λb=>rfl) (λb h=>trivial)
  (u6 e (by kernel_rfl) (dd.e5 a mR mh λc a=>dd.e5 a pU qO λc a=>dd.e5 a pU qO λc a=>dd.e5 a mR mh λc a=>dd.u9 a))
theorem T7(c:∀a,sp a=ad)(a:Bool):kJ H enc w sp 85 1 (λb:List aJ=>[eS a cT b]) (λb=>Z b<=1048576/\∀d∈b,True):=ua (by kernel_rfl) (by kernel_rfl) (by decide) c ahr a
theorem T8:aU.cellsOf 85=1:=by kernel_rfl
theorem KP:aU.cellsOf 122=1:=by kernel_rfl
theorem T9:aU.cellsOf 31=1:=by kernel_rfl
theorem aht(f:∀e,sp e=ad)(e:Bool):kJ H enc w sp 87 9 (bg e) u5:=by
 let⟨j,g,a⟩:=u7 (rE:=aU) (U:=87) (r:=[(3,0),(9,1),(3,2),(85,3),(9,4),(9,5),(3,6),(3,7),(3,8)]) (by kernel_rfl);refine Rd.conv (λb:Int×d×Int×List aJ×d×d×Int×Int×Int×Unit=>(⟨b.1,b.2.1,b.2.2.1,b.2.2.2.1,b.2.2.2.2.1,b.2.2.2.2.2.1,b.2.2.2.2.2.2.1,b.2.2.2.2.2.2.2.1,b.2.2.2.2.2.2.2.2.1⟩:Lit)) (λb=>⟨rfl,by simp[bg,AV.bU,eS]⟩) (λb=>rfl) (λb h=>Sm.of h.2.2.2.1.1)
  (u6 g (by kernel_rfl) (dd.e5 a mR mh λc a=>dd.e5 a pU qO λc a=>dd.e5 a mR mh λc a=>dd.e5 a T8 (T7 f e) λc a=>dd.e5 a pU qO λc a=>dd.e5 a pU qO λc a=>
   dd.e5 a mR mh λc a=>dd.e5 a mR mh λc a=>dd.e5 a mR mh λc a=>dd.u9 a))
theorem ahu(c:∀a,sp a=ad)(a:Bool):kJ H enc w sp 89 1 (λb:List Lit=>[eS a (bg a) b]) (λb=>Z b<=1048576/\∀d∈b,u5 d):=ua (by kernel_rfl) (by kernel_rfl) (by decide) c (aht c a) a
theorem ahv(f:∀c,sp c=ad)(c:Bool):kJ H enc w sp 91 9 (aS c) pT:=by
 let⟨k,g,a⟩:=u7 (rE:=aU) (U:=91) (r:=[(9,0),(3,1),(85,2),(84,3),(89,7),(3,8)]) (by kernel_rfl);refine Rd.conv (λb:d×Int×List aJ×pP×List Lit×Int×Unit=>(⟨b.1,b.2.1,b.2.2.1,b.2.2.2.1,b.2.2.2.2.1,b.2.2.2.2.2.1⟩:aD)) (λb=>⟨rfl,by simp[aS,AV.bU,eS]⟩) (λb=>rfl) (λb h=>⟨Sm.of h.2.2.1.1,Sm.of h.2.2.2.2.1.1,h.2.2.2.2.1.2⟩)
  (u6 g (by kernel_rfl) (dd.e5 a pU qO λe a=>dd.e5 a mR mh λe a=>dd.e5 a T8 (T7 f c) λe a=>dd.e5 a (z:=4) (by kernel_rfl) ahs λe a=>dd.e5 a (z:=1) (by kernel_rfl) (ahu f c) λe a=>dd.e5 a mR mh λe a=>dd.u9 a))
theorem ahw(d:∀a,sp a=ad)(a c:Bool):kJ H enc w sp 25 1 (λb:List aD=>[eS c (aS a) b]) (λb=>Z b<=1048576/\∀e∈b,pT e):=ua (by kernel_rfl) (by kernel_rfl) (by decide) d (ahv d a) c
theorem ahx(f:∀c,sp c=ad)(c:Bool):kJ H enc w sp 151 4 (bo c) lO:=by
 let⟨j,g,a⟩:=u7 (rE:=aU) (U:=151) (r:=[(9,0),(122,1),(128,2),(3,3)]) (by kernel_rfl);refine Rd.conv (λb:d×List d×List (Int×Int)×Int×Unit=>(⟨b.1,b.2.1,b.2.2.1,b.2.2.2.1⟩:bP)) (λb=>⟨rfl,by simp[bo,AV.bU,eS]⟩) (λb=>rfl) (λb h=>⟨Sm.of h.2.1.1,Sm.of h.2.2.1.1⟩)
  (u6 g (by kernel_rfl) (dd.e5 a pU qO λe a=>dd.e5 a KP (KO f c) λe a=>dd.e5 a (z:=1) (by kernel_rfl) (ahq f c) λe a=>dd.e5 a mR mh λe a=>dd.u9 a))
theorem ahy(f:∀c,sp c=ad)(c:Bool):kJ H enc w sp 212 7 (cg c) zy:=by
 let⟨j,g,a⟩:=u7 (rE:=aU) (U:=212) (r:=[(9,0),(9,1),(3,2),(122,3),(122,4),(31,5),(3,6)]) (by kernel_rfl);refine Rd.conv (λb:d×d×Int×List d×List d×List Int×Int×Unit=>(⟨b.1,b.2.1,b.2.2.1,b.2.2.2.1,b.2.2.2.2.1,b.2.2.2.2.2.1,b.2.2.2.2.2.2.1⟩:Fn)) (λb=>⟨rfl,by simp[cg,AV.bU,eS]⟩) (λb=>rfl) (λb h=>⟨Sm.of h.2.2.2.1.1,Sm.of h.2.2.2.2.1.1,Sm.of h.2.2.2.2.2.1.1⟩)
  (u6 g (by kernel_rfl) (dd.e5 a pU qO λe a=>dd.e5 a pU qO λe a=>dd.e5 a mR mh λe a=>dd.e5 a KP (KO f c) λe a=>dd.e5 a KP (KO f c) λe a=>dd.e5 a T9 (T6 f c) λe a=>dd.e5 a mR mh λe a=>dd.u9 a))
theorem ahz(f:∀e,sp e=ad)(e:Bool):kJ H enc w sp 48 7 (bO e) Dx:=by
 let⟨j,g,a⟩:=u7 (rE:=aU) (U:=48) (r:=[(9,0),(31,1),(9,2),(3,3),(4,4),(3,5),(3,6)]) (by kernel_rfl);refine Rd.conv (λb:d×List Int×d×Int×Bool×Int×Int×Unit=>(⟨b.1,b.2.1,b.2.2.1,b.2.2.2.1,b.2.2.2.2.1,b.2.2.2.2.2.1,b.2.2.2.2.2.2.1⟩:cO)) (λb=>⟨rfl,by simp[bO,AV.bU,eS]⟩) (λb=>rfl) (λb h=>Sm.of h.2.1.1)
  (u6 g (by kernel_rfl) (dd.e5 a pU qO λc a=>dd.e5 a T9 (T6 f e) λc a=>dd.e5 a pU qO λc a=>dd.e5 a mR mh λc a=>dd.e5 a aho ahm λc a=>dd.e5 a mR mh λc a=>dd.e5 a mR mh λc a=>dd.u9 a))
theorem ahA(c:∀a,sp a=ad)(a:Bool):kJ H enc w sp 22 1 (λb:List bP=>[eS a (bo a) b]) (λb=>Z b<=1048576/\∀d∈b,lO d):=ua (by kernel_rfl) (by kernel_rfl) (by decide) c (ahx c a) a
theorem ahB(c:∀a,sp a=ad)(a:Bool):kJ H enc w sp 23 1 (λb:List Fn=>[eS a (cg a) b]) (λb=>Z b<=1048576/\∀d∈b,zy d):=ua (by kernel_rfl) (by kernel_rfl) (by decide) c (ahy c a) a
theorem ahC(c:∀a,sp a=ad)(a:Bool):kJ H enc w sp 24 1 (λb:List cO=>[eS a (bO a) b]) (λb=>Z b<=1048576/\∀d∈b,Dx d):=ua (by kernel_rfl) (by kernel_rfl) (by decide) c (ahz c a) a
theorem ahD(d:∀b,sp b=ad)(b g:Bool):kJ H enc w sp 27 4 (cP b g) eI:=by
 let⟨k,i,a⟩:=u7 (rE:=aU) (U:=27) (r:=[(22,0),(23,1),(24,2),(25,3)]) (by kernel_rfl);refine Rd.conv (λc:List bP×List Fn×List cO×List aD×Unit=>(⟨c.1,c.2.1,c.2.2.1,c.2.2.2.1⟩:D)) (λc=>⟨rfl,by simp[cP,AV.bU,eS]⟩) (λc=>rfl) (λc h=>⟨Sm.of h.1.1,h.1.2,Sm.of h.2.1.1,h.2.1.2,Sm.of h.2.2.1.1,h.2.2.1.2,Sm.of h.2.2.2.1.1,h.2.2.2.1.2⟩)
  (u6 i (by kernel_rfl) (dd.e5 a (z:=1) (by kernel_rfl) (ahA d b) λf a=>dd.e5 a (z:=1) (by kernel_rfl) (ahB d b) λf a=>dd.e5 a (z:=1) (by kernel_rfl) (ahC d b) λf a=>dd.e5 a (z:=1) (by kernel_rfl) (ahw d b g) λf a=>dd.u9 a))
theorem ahE(f:∀c,sp c=ad)(c:Bool):kJ H enc w sp 38 3 (cF c) (λe=>dX e.af):=by
 let⟨j,g,a⟩:=u7 (rE:=aU) (U:=38) (r:=[(3,0),(36,1),(3,2)]) (by kernel_rfl);refine Rd.conv (λb:Int×List aG×Int×Unit=>(⟨b.1,b.2.1,b.2.2.1⟩:S)) (λb=>⟨rfl,by simp[cF,AV.bU,eS]⟩) (λb=>rfl) (λb h=>⟨Sm.of h.2.1.1,h.2.1.2⟩)
  (u6 g (by kernel_rfl) (dd.e5 a mR mh λd a=>dd.e5 a (z:=1) (by kernel_rfl) (ahp f c) λd a=>dd.e5 a mR mh λd a=>dd.u9 a))
theorem ahF(d:∀a,sp a=ad)(a c:Bool):kJ H enc w sp 28 1 (λb:List S=>[eS c (cF a) b]) (λb=>Z b<=1048576/\∀e∈b,dX e.af):=ua (by kernel_rfl) (by kernel_rfl) (by decide) d (ahE d a) c
end
variable{ct:Nat -> Bool}{bL:d}{oN:List MemPlace}{p:List d}
section
variable{H:Type}{enc:TypeId×Value->H}{P:Program}{w:World}
def ub{H:Type}(a:d):DataW H:=.lit (.string a)
theorem Ua{held:Bool}(b:P.underlying N=aa .string)(h:DataW.trod enc P w 0 ct held U N hK=aa (ub bL,oN)):∃a:ByteArray,hK=[.string a]/\bI a.data=bL:=by
 obtain⟨a,rfl,c,-⟩:=DataW.trod_string b h;refine⟨a,rfl,?_⟩;have:=congrArg Prod.fst c;simp only[ub,DataW.lit.injEq,Lit.string.injEq]at this;exact this.symm
theorem ahG{held:Bool}(s:P.underlying N=aa (.array dh z))(n:P.underlying z=aa .string)(m:P.cellsOf z=1)(v:P.cellsOf N=dh)
 (h:DataW.trod enc P w 0 ct held U N hK=aa (.agg (p.map ub),oN)):Z hK=Z p/\∀(a:Nat)(c:d),p[a]?=aa c->∃b:ByteArray,hK[a]?=aa (Value.string b)/\bI b.data=c:=by
 obtain⟨j,y,rfl,t,x,u,o⟩:=DataW.trod_array s h;have f:=congrArg Prod.fst t;simp only[DataW.agg.injEq]at f;have r:Z p=dh:=by
  have:=congrArg List.length f;simpa[u]using this
 refine⟨by omega,λa c i=>?_⟩;have q:a<dh:=by rw[<-r];exact(fM.1 i).1
 have g:=o a q;rw[m,IT,bu (by omega)]at g;have e:(j.map (·.1))[a]?=aa (ub c):=by rw[<-f];simp[i]
 rw[sK,bu (by omega)]at e;simp only[kd,e1]at e;obtain⟨b,l,k⟩:=Ua n (oN:=(j[a]'(by omega)).2) (by rw[g,<-e]);refine⟨b,?_,k⟩;have:=congrArg (·[0]?) l;grind
theorem KQ{k:ar}:∀{b:List Value}{g:List d},Z b=Z g->(∀(f:Nat)(i:d),g[f]?=aa i->∃a:ByteArray,b[f]?=aa (Value.string a)/\bI a.data=i)->RL k (g.map .str) b
 |[],[],_,_=>.nil
 |c::b,l::g,e,h=>by
  obtain⟨a,j,rfl⟩:=h 0 l rfl;simp only[de,e1]at j;subst j;exact .cons _ _ _ _ (.str a) (KQ (by grind) λf i m=>by simpa using h (f+1) i (by grind))
 |[],_::_,e,_=>by simp at e
 |_::_,[],e,_=>by simp at e
theorem ahH(A:p≠[])(V:P.underlying N=aa (.slice z))(S:P.underlying z=aa .string)(Q:P.cellsOf z=1)
 (h:DataW.trod enc P w 0 ct ab U N hK=aa (.slice (p.map ub) [],oN)):∃t,hK=[t]/\R (E0 w) (.sl ab (p.map λc=>[.str c])) t:=by
 rcases open_slice V h with⟨rfl,g⟩|⟨b,len,cap,Y,ax,F,ac,rfl,-,ai,-,T,E,x⟩;cases g
 have i:=congrArg Prod.fst E;simp only[DataW.slice.injEq]at i;obtain⟨i,-⟩:=i;have l:Z p=len:=by
  have:=congrArg List.length i;simpa using this
 rw[Q]at x;have aj:len<=Y:=by
  rw[T];split<;>omega
 have at_:∀(a:Nat)(c:d),p[a]?=aa c->(a=0->b.spot=ae)/\∃f m j,w.heap[b.block]?=aa (.cells f m j)/\∃e:ByteArray,f[b.off+a]?=aa (Value.string e)/\bI e.data=c:=by
  intro a c r;have q:a<len:=by rw[<-l];exact(fM.1 r).1
  obtain⟨af,O,C⟩:=x a (by omega);have I:F a=ub c:=by
   have:=congrArg (·[a]?) i;simp[r,q]at this;exact this.symm
  rw[I]at C;obtain⟨e,rfl,M⟩:=Ua S C;obtain⟨am,f,m,j,k,v,B⟩:=TZ O (by decide);have K:(b.add (a*1)).block=b.block:=by unfold Addr.add;split<;>rfl
  have L:(b.add (a*1)).off=b.off+a:=by
   unfold Addr.add;split;rename_i g;simp at g;simp[g];simp
  rw[K]at k;rw[L]at v;refine⟨(by grind[Addr.add]),f,m,j,k,e,?_,M⟩;have:=congrArg (·[0]?) v;simpa[List.getElem?_take,arC]using this
 obtain⟨X,y⟩:∃s,p[0]?=aa s:=by
  cases p with
  |nil=>grind
  |cons s _=>simp
 obtain⟨g,f,m,j,k,-⟩:=at_ 0 X y;have H:b=⟨b.block,b.off,ae⟩:=by cases b;simp_all
 have o:∀(a:Nat)(c:d),p[a]?=aa c->∃e:ByteArray,f[b.off+a]?=aa (Value.string e)/\bI e.data=c:=by grind
 have B:b.off+len<=f.size:=by
  have ak:0<len:=by
   cases p with
   |nil=>exact absurd rfl A
   |cons _ _=>simp at l;omega
  obtain⟨e,n,-⟩:=o (len -1) (p[len -1]'(by omega)) (bu _);have:=(kY.1 n).1;omega
 have u:Z (((bI f).drop b.off).take len)=Z p:=by simp;omega
 have J:=KQ (k:=E0 w) u (λa c r=>by
  grind)
 refine⟨_,rfl,?_⟩;rw[H,<-l];have ah:(p.map λc=>[AV.str c]).flatten=p.map .str:=by
  clear J u B o k g y at_ i E l A h;induction p with
  |nil=>rfl
  |cons s au W=>simp[W]
 have:=R.sl (E:=E0 w) ab (p.map λc=>[AV.str c]) b.block b.off 1 cap f m j (by show b.block<w.heap.size;grind) k (by grind) (by simp;omega) (by simp;omega) (by grind) (λt D=>by
  simp only[kc,IT,l]at D;obtain⟨a,q,rfl⟩:=kf.1 D;let⟨e,n,_⟩:=o a (p[a]'(by omega)) (bu _);have:(((bI f).drop b.off).take len)[a]?=aa (Value.string e):=by rw[List.getElem?_take_of_lt (by omega),arC];simpa using n
  rw[bu q]at this;simp only[e1]at this;rw[this]<;>rfl)
 grind
end
def cL:Code->Code|.seq a _=>a|c=>c
def cR:Code->Code|.seq _ a=>a|c=>c
def nq(a:WS->Prop):fg->WS->Prop:=λc b=>match c with|.norm=>a b|_=>False
def wy:bR:=⟨[0,1,2,3,4,5,6,7,8,9,10,11,12,13,14,28,29,30,36],[30,36],[],[],[],[(3,[0,2,4,1,3,5,6,7,8,9,10,11])]⟩
theorem ahI{C:fq}:Gv C E M ju=jd aU G0 C wy (pM [39]) (cL (Tryz.f72.body.getD .skip)) {env:=oZ 0 [E],bx:=[],hp:=M} (nq λa=>jd aU G0 C wy (pM [39]) (cL (cR (Tryz.f72.body.getD .skip))) a (nq λa=>jd aU G0 C wy (pM [39]) (cL (cR (cR (Tryz.f72.body.getD .skip)))) a (nq ju))):=by kernel_rfl
variable{oF oM oI:AV}
theorem Ub{C:fq}{a b c:AV}{Q:AV->List Obj->Prop}:KB C E dQ oF oM oI a b c M Q=jd aU G0 C wy (pM [39]) (cR (cR (cR (cR (Tryz.f72.body.getD .skip))))) {env:=oZ 1 [E,dQ,oF,oM,oI,a,b,c],bx:=[],hp:=M} (λe d=>match e with|.exit _=>False|_=>Db aU (bI Tryz.f72.results) d Q):=by kernel_rfl
section
def va:Code->Array Oper|.region _ a _=>a|_=>#[]
def Bp(a:Oper):Op×Option Tmp×Option (Nat×Bool)×List Nat:=(a.op,a.dst,a.guard,bI ((a.after.filter (Region.binds .any)).map (·.on)))
def T3:List (Op×Option Tmp×Option (Nat×Bool)×List Nat):=
 [(.move (.tmp 5),aa 19,ae,[]),(.makeSlice 31 (.tmp 19) (.tmp 19),aa 20,ae,[0,0]),(.move (.tmp 5),aa 21,ae,[]),(.makeSlice 31 (.tmp 21) (.tmp 21),aa 22,ae,[2,2]),
  (.move (.tmp 5),aa 23,ae,[]),(.makeSlice 31 (.tmp 23) (.tmp 23),aa 24,ae,[4,4]),(.alloc 31,aa 6,ae,[]),(.alloc 31,aa 7,ae,[]),(.alloc 31,aa 8,ae,[]),
  (.store 31 (.tmp 6) (.tmp 20),ae,ae,[6,1,0,1,6,7,8]),(.store 31 (.tmp 7) (.tmp 22),ae,ae,[7,3,9,0,1,2,3,6,7,8,9]),(.store 31 (.tmp 8) (.tmp 24),ae,ae,[8,5,10,0,1,2,3,4,5,6,7,8,9,10])]
theorem ahJ:(bI (va (cL (cR (cR (cR (Tryz.f72.body.getD .skip))))))).map Bp=T3:=by kernel_rfl
theorem ahK:qE aU 31=aa (1,[I 0],8):=by kernel_rfl
theorem ahL:qp aU 31=aa [.aq]:=by kernel_rfl
theorem Uc:bh aU 31=1:=by kernel_rfl
theorem ahM:(aU.info? 31).isSome=true:=by kernel_rfl
def pV(done:List Nat)(a:Nat):Prop:=(a<3/\2*a+1∈done)\/(3<=a/\3+a∈done)
structure J(s3:AS)(n:Nat)(done:List Nat)(id:Nat->Nat)(s:AS):Prop where
 env:∀k,k<19->k≠6->k≠7->k≠8->look k s.env=look k s3.env
 bx:s.bx=s3.bx
 mv:∀j,j<3->2*j∈done->look (19+2*j) s.env=aa (I n)
 ms:∀j,j<3->2*j+1∈done->look (20+2*j) s.env=aa (.q (id j) 0 0 n)/\s.hp[id j]?=aa (.arr 0 1 (db n [I 0]))
 al:∀j,j<3->6+j∈done->look (6+j) s.env=aa (.ptr (id (3+j)) 0 0 0)/\s.hp[id (3+j)]?=aa (.arr 0 1 [[if 9+j∈done then .q (id j) 0 0 n else .aq]])
 dep:∀j,j<3->9+j∈done->2*j+1∈done/\6+j∈done
 ge:∀j,j<6->pV done j->Z s3.hp<=id j/\id j<Z s.hp
 inj:∀i j,i<6->j<6->pV done i->pV done j->id i=id j->i=j
 Dy:∀k,k<Z s3.hp->s.hp[k]?=s3.hp[k]?
 len:Z s3.hp<=Z s.hp
theorem J.start(a:AS)(b:Nat)(id:Nat->Nat):J a b [] id a:=
 ⟨λ_ _ _ _ _=>rfl,rfl,by grind,by grind,by grind,by grind,by grind[pV],by grind[pV],λ_ _=>rfl,c5 _⟩
variable{s3:AS}{n:Nat}{done:List Nat}{id:Nat->Nat}{s:AS}
theorem J.move(h:J s3 n done id s)(r:U<3):J s3 n (2*U::done) id {s with env:=put (19+2*U) (I n) s.env}:=by
 have i:∀a,pV (2*U::done) a->a<6->pV done a:=by
  rintro a (⟨d,f⟩|⟨d,f⟩) b;rcases b5.1 f with e|e;omega;exact .inl ⟨d,e⟩;rcases b5.1 f with e|e;omega;exact .inr ⟨d,e⟩
 have l:∀a,a<3->(9+a∈2*U::done<->9+a∈done):=by grind
 refine⟨λq d f m o=>?_,h.bx,λa b c=>?_,λa b c=>?_,λa b c=>?_,λa b c=>?_,λa b g=>h.ge a b (i a g b),λa k b j g p=>h.inj a k b j (i a g b) (i k p j),h.Dy,h.len⟩;rw[fO,if_neg (by omega)];exact h.env q d f m o;rw[fO];split;rfl;rename_i t;rcases b5.1 c with e|e;omega;exact h.mv a b e;rcases b5.1 c with e|e;omega;rw[fO,if_neg (by omega)];exact h.ms a b e;rcases b5.1 c with e|e;omega
 rw[fO,if_neg (by omega)];simp only[l a b];exact h.al a b e;have:=h.dep a b ((l a b).1 c);grind
theorem J.make(h:J s3 n done id s)(B:U<3)(A:2*U+1∉done):
 J s3 n ((2*U+1)::done) (λf=>if f=U then Z s.hp else id f) {s with env:=put (20+2*U) (.q (Z s.hp) 0 0 n) s.env,hp:=s.hp++[.arr 0 1 (db n [I 0])]}:=by
 have o:∀a,pV ((2*U+1)::done) a->a<6->a=U\/(a≠U/\pV done a):=by
  rintro a (⟨g,i⟩|⟨g,i⟩) b;rcases b5.1 i with e|e
  left;omega
  by_cases m:a=U;omega;exact .inr ⟨m,.inl ⟨g,e⟩⟩;rcases b5.1 i with e|e;omega;exact .inr ⟨by omega,.inr ⟨g,e⟩⟩
 have v:∀a,a<3->(9+a∈(2*U+1)::done<->9+a∈done):=by grind
 have lt:∀a,a<Z s.hp->(s.hp++[Obj.arr 0 1 (db n [I 0])])[a]?=s.hp[a]?:=λa b=>oA b;refine⟨λf g i w x=>?_,h.bx,λa b d=>?_,λa b d=>?_,λa b d=>?_,λa b d=>?_,λa b c=>?_,λa r b p c k l=>?_,λf z=>?_,?_⟩;rw[fO,if_neg (by omega)];exact h.env f g i w x;rcases b5.1 d with e|e;omega;rw[fO,if_neg (by omega)];exact h.mv a b e;by_cases m:a=U;subst m;rw[fO,if_pos rfl,if_pos rfl];exact⟨rfl,by simp⟩
 have e:=(b5.1 d).resolve_left (by omega);let⟨t,u⟩:=h.ms a b e;grind[fO];have e:=(b5.1 d).resolve_left (by omega);let⟨t,u⟩:=h.al a b e;have:=(h.ge (3+a) (by omega) (.inr ⟨by omega,by rw[show 3+(3+a)=6+a by omega];exact e⟩)).2;rw[fO,if_neg (by omega),if_neg (by omega)];refine⟨t,(lt _ this).trans ?_⟩;rw[u];simp only[v a b];by_cases y:9+a∈done;have m:a≠U:=λe=>A (by subst e;exact(h.dep a b y).1)
 grind;grind;have:=h.dep a b ((v a b).1 d);grind;rcases o a c b with e|⟨e,c⟩;rw[if_pos e];simp;exact h.len;have:=h.ge a b c;grind;rcases o a c b with e|⟨e,c⟩<;>rcases o r k p with j|⟨j,k⟩
 omega;rw[if_pos e,if_neg j]at l;have:=(h.ge r p k).2;omega;rw[if_neg e,if_pos j]at l;have:=(h.ge a b c).2;omega;rw[if_neg e,if_neg j]at l;exact h.inj a r b p c k l;have:=h.len;exact(lt f (by omega)).trans (h.Dy f z);have:=h.len;simp;omega
theorem J.alloc(h:J s3 n done id s)(A:U<3)(z:6+U∉done):
 J s3 n ((6+U)::done) (λf=>if f=3+U then Z s.hp else id f) {s with env:=put (6+U) (.ptr (Z s.hp) 0 0 0) s.env,hp:=s.hp++[.arr 0 1 [[.aq]]]}:=by
 have m:∀a,pV ((6+U)::done) a->a<6->a=3+U\/(a≠3+U/\pV done a):=by
  rintro a (⟨g,i⟩|⟨g,i⟩) b;rcases b5.1 i with e|e;omega;exact .inr ⟨by omega,.inl ⟨g,e⟩⟩;rcases b5.1 i with e|e
  left;omega
  by_cases p:a=3+U;omega;exact .inr ⟨p,.inr ⟨g,e⟩⟩
 have r:∀a,a<3->(9+a∈(6+U)::done<->9+a∈done):=by grind
 have lt:∀a,a<Z s.hp->(s.hp++[Obj.arr 0 1 [[AV.aq]]])[a]?=s.hp[a]?:=λa b=>oA b;refine⟨λf g i v w=>?_,h.bx,λa b d=>?_,λa b d=>?_,λa b d=>?_,λa b d=>?_,λa b c=>?_,λa q b o c k l=>?_,λf y=>?_,?_⟩;rw[fO,if_neg (by omega)];exact h.env f g i v w;rcases b5.1 d with e|e;omega;rw[fO,if_neg (by omega)];exact h.mv a b e;have e:=(b5.1 d).resolve_left (by omega);let⟨t,u⟩:=h.ms a b e;grind[fO];by_cases p:a=U
 subst p;have x:9+a∉done:=λe=>z (h.dep a b e).2;rw[fO,if_pos rfl,if_pos rfl];simp[r a b,x];have e:=(b5.1 d).resolve_left (by omega);let⟨t,u⟩:=h.al a b e;grind[fO];have:=h.dep a b ((r a b).1 d);grind;rcases m a c b with e|⟨e,c⟩;rw[if_pos e];simp;exact h.len;have:=h.ge a b c;grind;rcases m a c b with e|⟨e,c⟩<;>rcases m q k o with j|⟨j,k⟩
 omega;rw[if_pos e,if_neg j]at l;have:=(h.ge q o k).2;omega;rw[if_neg e,if_pos j]at l;have:=(h.ge a b c).2;omega;rw[if_neg e,if_neg j]at l;exact h.inj a q b o c k l;have:=h.len;exact(lt f (by omega)).trans (h.Dy f y);have:=h.len;simp;omega
theorem J.store(h:J s3 n done id s)(A:U<3)(B:9+U∉done)(x:6+U∈done)(c:2*U+1∈done):
 J s3 n ((9+U)::done) id {s with hp:=s.hp.set (id (3+U)) (.arr 0 1 [[.q (id U) 0 0 n]])}:=by
 have l:∀a,pV ((9+U)::done) a->a<6->pV done a:=by
  rintro a (⟨c,f⟩|⟨c,f⟩) b;rcases b5.1 f with e|e;omega;exact .inl ⟨c,e⟩;rcases b5.1 f with e|e;omega;exact .inr ⟨c,e⟩
 have k:pV done (3+U):=.inr (by grind);have y:=h.ge (3+U) (by omega) k;refine⟨λm c f t u=>h.env m c f t u,h.bx,λa b d=>?_,λa b d=>?_,λa b d=>?_,λa b d=>?_,λa b j=>?_,λa p b o j v=>h.inj a p b o (l a j b) (l p v o),λm w=>?_,?_⟩;exact h.mv a b (by grind);have e:=(b5.1 d).resolve_left (by omega);let⟨g,r⟩:=h.ms a b e;refine⟨g,?_⟩;have:id (3+U)≠id a:=λi=>by
  have:=h.inj _ _ (by omega) (by omega) k (.inl ⟨b,e⟩) i;omega
 grind;have e:=(b5.1 d).resolve_left (by omega);let⟨g,r⟩:=h.al a b e;refine⟨g,?_⟩;simp only;by_cases z:a=U;grind;have C:id (3+U)≠id (3+a):=λi=>by
  have:=h.inj _ _ (by omega) (by omega) k (.inr (by grind)) i;omega
 grind;rcases b5.1 d with e|e;grind;have:=h.dep a b e;grind;have:=h.ge a b (l a j b);simp;omega;simp only;rw[vR (by omega)];exact h.Dy m w;grind
variable{G:Nat->Option (List AV)}{A:bR}
theorem ahN{s:AS}(c:n<=1000000)(a:look U s.env=aa (I n)):
 aV aU G A s fX (.makeSlice 31 (.tmp U) (.tmp U))=aa (.q (Z s.hp) 0 0 n,{s with hp:=s.hp++[.arr 0 1 (db n [I 0])]}):=by
 have b:uW 1 [I 0] 8 (I n) (I n) s.hp=aa (.q (Z s.hp) 0 0 n,s.hp++[.arr 0 1 (db n [I 0])]):=by
  unfold uW;simp only;rw[if_pos (by simp;omega),eN]
 have:=(QS ahK b).1;simp only[aV,l,a,nR];exact this
theorem ahO{s:AS}(a:U∉A.lb):aV aU G A s (aa U) (.alloc 31)=aa (.ptr (Z s.hp) 0 0 0,{s with hp:=s.hp++[.arr 0 1 [[.aq]]]}):=by
 simp_all[aV,ahL,Uc]
theorem ahP{s:AS}{id:Nat}{a:AV}(b:look U s.env=aa (.ptr id 0 0 0))(c:look N s.env=aa (.q z 0 0 n))(d:s.hp[id]?=aa (.arr 0 1 [[a]])):
 aV aU G A s fX (.store 31 (.tmp U) (.tmp N))=aa (.undef,{s with hp:=s.hp.set id (.arr 0 1 [[.q z 0 0 n]])}):=by
 simp_all[aV,l,nR,vS,AV.pl,AV.cells,Uc,oz,AA,AV.bU,ahM,and_self,eV]
theorem ahQ{s3:AS}(V:look 5 s3.env=aa (I n))(ai:n<=1000000)(ah:A.lb=[]):∀(q done:List Nat)(id:Nat->Nat)(s:AS),pF (va (cL (cR (cR (cR (Tryz.f72.body.getD .skip)))))) done q->J s3 n done id s->
 ∃j k i,J s3 n i k j/\(∀a,a<12->a∈i)/\l8 aU G (va (cL (cR (cR (cR (Tryz.f72.body.getD .skip)))))) (gG (va (cL (cR (cR (cR (Tryz.f72.body.getD .skip)))))) q) s j:=by
 have F:=ahJ;generalize va (cL (cR (cR (cR (Tryz.f72.body.getD .skip)))))=o at F⊢;have am:o.size=12:=by
  have:=congrArg List.length F;simpa[T3]using this
 intro q;induction q with
 |nil=>
  intro done id s y h;exact⟨s,id,done,h,λa af=>y a (by omega),JL⟩
 |cons a q ax=>
  intro done id s y h;let⟨C,⟨c,D,Y⟩,y⟩:=y;have af:a<12:=by
   rw[<-am];exact(kY.1 D).1
  have ak:T3[a]?=aa (Bp c):=by
   rw[<-F,sK,Array.getElem?_toList,D]<;>rfl
  have aj:gG o (a::q)=c::gG o q:=by simp[gG,D]
  rw[aj];have ac:c.guard=ae->ga o s c=aa true:=by grind[ga]
  have U:∀z,z∈(Bp c).2.2.2->z∈done:=by
   intro z P;simp only[Bp,EW,Array.mem_map,Array.mem_filter]at P;obtain⟨e,⟨Z,X⟩,rfl⟩:=P;exact Y e Z X
  have key:∀(L:AS)(N:AV)(B:AS)(k:Nat->Nat),c.guard=ae->aV aU G A s c.dst c.op=aa (N,L)->gj c.dst (N,L)=B->J s3 n (a::done) k B->∃j k i,J s3 n i k j/\(∀a,a<12->a∈i)/\l8 aU G o (c::gG o q) s j:=by
   intro L N B k u t v W;let⟨j,au,i,Q,S,R⟩:=ax (a::done) k B y W;exact⟨j,au,i,Q,S,JM (ac u) t (by rw[v];exact R)⟩
  have K:∀b,b<3->a=2*b->c.op=.move (.tmp 5)->c.dst=aa (19+2*b)->c.guard=ae->∃j k i,J s3 n i k j/\(∀a,a<12->a∈i)/\l8 aU G o (c::gG o q) s j:=by
   intro b r e u t v;subst e;refine key s (I n) _ id v (by rw[u];simp only[aV,l,h.env 5 (by omega) (by omega) (by omega) (by omega),V,nR,AV.pl]) ?_ (h.move r);rw[t]<;>rfl
  have H:∀b,b<3->a=2*b+1->c.op=.makeSlice 31 (.tmp (19+2*b)) (.tmp (19+2*b))->c.dst=aa (20+2*b)->c.guard=ae->2*b∈done->∃j k i,J s3 n i k j/\(∀a,a<12->a∈i)/\l8 aU G o (c::gG o q) s j:=by
   intro b r e u t v x;subst e;refine key _ _ _ _ v (by rw[u];exact ahN ai (h.mv b r x)) ?_ (h.make r C);rw[t]<;>rfl
  have az:∀b,b<3->a=6+b->c.op=.alloc 31->c.dst=aa (6+b)->c.guard=ae->∃j k i,J s3 n i k j/\(∀a,a<12->a∈i)/\l8 aU G o (c::gG o q) s j:=by
   intro b r e u t v;subst e;refine key _ _ _ _ v (by rw[u,t];exact ahO (by rw[ah];simp)) ?_ (h.alloc r C);rw[t]<;>rfl
  have M:∀b,b<3->a=9+b->c.op=.store 31 (.tmp (6+b)) (.tmp (20+2*b))->c.dst=ae->c.guard=ae->6+b∈done->2*b+1∈done->∃j k i,J s3 n i k j/\(∀a,a<12->a∈i)/\l8 aU G o (c::gG o q) s j:=by
   intro b r e u t v x O;subst e;refine key _ _ _ _ v (by rw[u];exact ahP (h.al b r x).1 (h.ms b r O).1 (h.al b r x).2) ?_ (h.store r C x O);rw[t]<;>rfl
  have T:a=0\/a=1\/a=2\/a=3\/a=4\/a=5\/a=6\/a=7\/a=8\/a=9\/a=10\/a=11:=by omega
  have p:∀{w:Op×Option Tmp×Option (Nat×Bool)×List Nat},T3[a]?=aa w->c.op=w.1/\c.dst=w.2.1/\c.guard=w.2.2.1/\∀z∈w.2.2.2,z∈done:=by
   intro w E;rw[ak]at E;simp only[e1]at E;subst E;exact⟨rfl,rfl,rfl,U⟩
  rcases T with e|e|e|e|e|e|e|e|e|e|e|e<;>rw[e]at p
  let⟨d,f,g,_⟩:=p rfl;exact K 0 (by omega) e d f g;let⟨d,f,g,m⟩:=p rfl;exact H 0 (by omega) e d f g (m 0 (by simp));let⟨d,f,g,_⟩:=p rfl;exact K 1 (by omega) e d f g;let⟨d,f,g,m⟩:=p rfl;exact H 1 (by omega) e d f g (m 2 (by simp));let⟨d,f,g,_⟩:=p rfl;exact K 2 (by omega) e d f g;let⟨d,f,g,m⟩:=p rfl;exact H 2 (by omega) e d f g (m 4 (by simp));let⟨d,f,g,_⟩:=p rfl;grind;let⟨d,f,g,_⟩:=p rfl;grind
  let⟨d,f,g,_⟩:=p rfl;grind;let⟨d,f,g,m⟩:=p rfl;exact M 0 (by omega) e d f g (m 6 (by simp)) (m 1 (by simp));let⟨d,f,g,m⟩:=p rfl;exact M 1 (by omega) e d f g (m 7 (by simp)) (m 3 (by simp));let⟨d,f,g,m⟩:=p rfl;exact M 2 (by omega) e d f g (m 8 (by simp)) (m 5 (by simp))
end
theorem bJ(h:T=ab):aM M .res (AV.pl ff) (.bool T):=by simp[h]
theorem jj(h:T=ad):aM M .res (AV.pl tt) (.bool T):=by simp[h]
theorem iT(h:F=T):aM M .res (AV.pl (.bool T)) (.bool F):=by simp[h]
theorem bz(a:ix)(h:T=false:=by exact rfl):ez (.bool T) fo ix:=by subst h;simpa using a
theorem a8(a:fo)(h:T=true:=by exact rfl):ez (.bool T) fo ix:=by subst h;simpa using a
theorem b(a:T=ad->fo)(c:T=ab->ix):ez (.bool T) fo ix:=by cases T<;>simp_all
theorem KR(h:y (f<b9)=ab):y (b9<=f)=true:=by grind
theorem KS(h:y (f<b9)=ad):y (b9<=f)=false:=by grind
theorem e8.ahR(t:e8 C)(a:Lit)(K:u5 a):PR C 313 [.agg (bg T a)] (.bool (n4 a)):=by
 apply Tu.pr;have g:n4 a=(y (0<=a.ba)&&y (1<=a.ax)&&y (a.ax<=5)&&eQ 4 iJ a.af&&
  (if(a.ax==5)=ad then a.au==[]else bY a.au)&&(if(a.ax==3||a.ax==4)=ad then bY a.aj else a.aj==[])&&(a.bind==[]||a.ax==1&&isVar a.bind)&&
  (if(a.ax==5)=ad then((Z a.af:Int)==2)&&y (1<=a.op)&&y (a.op<=4)else a.op==0)):=rfl
 generalize n4 a=f at*;simp only[bw,rN,O,bj,aK,tW,J9,s4,F5,Ka,Di,F6,a1,A,eX,h0,la,di,jD,e,G,bK];have F:PR C 310 [eS T cT a.af,I 4,.fn 311 [] []] (.bool (eQ 4 iJ a.af)):=TV (d:=iJ) (by simp) rfl _ K (λL _=>u4 (t.TY L) (by simp));have q:∀(i:d)(k:Bool),PR C 308 [.str i,.bool k,.fn 300 [] []] (.bool (if k=ad then bY i else i==[])):=by grind[GA,xY]
 have H:∀(i:d)(k:Bool),PR C 308 [.str i,.bool k,.fn 309 [] []] (.bool (if k=ad then isVar i else i==[])):=by grind[GA,KN]
 refine ei (λn=>?_) (λn=>a8 (bJ (by rw[g,KS n]<;>rfl)));refine ei (λo=>?_) (λo=>a8 (bJ (by rw[g,KS o];simp)));refine ei (λp=>?_) (λp=>a8 (bJ (by rw[g,KS p];simp)));apply c F;simp only[bK,O];refine b (by simp_all) (λx=>?_);have z:eQ 4 iJ a.af=true:=by simpa using x
 rw[KR n,KR o,KR p,z]at g;simp only[cZ]at g;apply c (q a.au (!(a.ax==5)));have v:(if(!(a.ax==5))=ad then bY a.au else a.au==[])=(if(a.ax==5)=ad then a.au==[]else bY a.au):=by cases(a.ax==5)<;>rfl
 rw[v];simp only[bK,O];generalize(if(a.ax==5)=ad then a.au==[]else bY a.au)=u at*;refine ei (λm=>?_) (λm=>a8 (bJ (by simp only[gZ]at m;rw[g,m];simp)));have B:u=true:=by simpa using m
 subst B;simp only[cZ]at g;have r:∀l:Bool,l=(if(a.ax==3||a.ax==4)=ad then bY a.aj else a.aj==[])->bd (np .not (.bool l)) λM=>
  gd M ab (gd (.bool (!(a.bind==[]))) ad (cp C 308 [.str a.bind,.bool (a.ax==1),.fn 309 [] []] [] λN=>bd (np .not N) λP=>ez P (aM [] .res (AV.pl ff) (.bool f)) (ez (.bool (a.ax==5)) (gd (.bool ((Z a.af:Int)==2)) ad (gd (.bool (y (1<=a.op))) ad (aM [] .res (AV.pl (.bool (y (a.op<=4)))) (.bool f)) (aM [] .res (AV.pl ff) (.bool f))) (aM [] .res (AV.pl ff) (.bool f))) (aM [] .res (AV.pl (.bool (a.op==0))) (.bool f))))
   (ez ff (aM [] .res (AV.pl ff) (.bool f)) (ez (.bool (a.ax==5)) (gd (.bool ((Z a.af:Int)==2)) ad (gd (.bool (y (1<=a.op))) ad (aM [] .res (AV.pl (.bool (y (a.op<=4)))) (.bool f)) (aM [] .res (AV.pl ff) (.bool f))) (aM [] .res (AV.pl ff) (.bool f))) (aM [] .res (AV.pl (.bool (a.op==0))) (.bool f)))))
  (ez tt (aM [] .res (AV.pl ff) (.bool f)) (ez (.bool (a.ax==5)) (gd (.bool ((Z a.af:Int)==2)) ad (gd (.bool (y (1<=a.op))) ad (aM [] .res (AV.pl (.bool (y (a.op<=4)))) (.bool f)) (aM [] .res (AV.pl ff) (.bool f))) (aM [] .res (AV.pl ff) (.bool f))) (aM [] .res (AV.pl (.bool (a.op==0))) (.bool f)))):=by
  intro l J;rw[<-J]at g;simp only[bK,O];refine ei (λh=>?_) (λh=>a8 (bJ (by simp only[gZ]at h;rw[g,h];simp)));have D:l=true:=by simpa using h
  rw[D]at g;simp only[cZ]at g;have last:(a.bind==[]||a.ax==1&&isVar a.bind)=ad->(ez (.bool (a.ax==5)) (gd (.bool ((Z a.af:Int)==2)) ad (gd (.bool (y (1<=a.op))) ad (aM [] .res (AV.pl (.bool (y (a.op<=4)))) (.bool f)) (aM [] .res (AV.pl ff) (.bool f))) (aM [] .res (AV.pl ff) (.bool f))) (aM [] .res (AV.pl (.bool (a.op==0))) (.bool f))):=by
   intro j;rw[j]at g;simp only[cZ]at g;refine b (λs=>?_) (λs=>?_);rw[s]at g;simp only[if_true]at g;refine aW (λE=>?_) (by simp_all);rw[E]at g;refine aW (λQ=>?_) (by grind[bJ]);simp_all;simp_all
  refine aW (λj=>?_) (λj=>bz (last (by simp at j;simp[j])));apply c (H _ _);simp only[bK,O];have w:(a.bind==[]||a.ax==1&&isVar a.bind)=(if(a.ax==1)=ad then isVar a.bind else a.bind==[]):=by
   have:(a.bind==[])=false:=by simpa using j
   rw[this];cases(a.ax==1)<;>rfl
  rw[w]at g last;refine(by grind[b,bJ,Bool.not_eq_true'])
 refine ei (λh=>?_) (λh=>?_);refine c (q a.aj (a.ax==4)) ?_;exact r _ (by grind);refine c (q a.aj ad) ?_;exact r _ (by rw[h]<;>rfl)
end AM
end Go
