/- SnapshotMatchesReference, 8 of 11 -/
import Derived.Test.YtmkbfepnleajhaaGreatDoorXg
import Derived.Shelf.SlSortCmp.WholeK
set_option maxRecDepth 100000
open List renaming length->Z
open Option renaming some->T,none->D
open Bool renaming true->ab,false->aa
open Decidable renaming decide->S
open Array renaming toList->bU
open Go.Proofs.Tryz renaming prog->a1
open List.Pairwise renaming imp_of_mem->anz
open Nat renaming min_eq_left->To
open Ne renaming symm->Kb
namespace Go
namespace AM
variable{aul:bM}{atK:Int}
theorem apX(h:eu aul=0)(g:eF aul atK=ab)(b:dK aul atK.toNat (fy aul []).toNat=ab):atK=fy aul []:=by
 obtain⟨i,d,e,f⟩:=aed h;obtain⟨c,rfl,a⟩:=qo g;rw[d]at b⊢;have:=Pj h a e b (f c a);rw[this]
open Go.Law
open Go.Proofs
variable{apE apQ atJ aue:AV}
theorem r3N:aF 3 [apE,apQ,atJ,aue] 0x543220e066030e70042082013e811e00d74504901013ec004b01013ec0040ee01013e017e01216e6a15e18e919e18e10e082be17e810e017e01215e6410e18e314e18eb402912e80fea0007a45040fe01013ec00411e01013e0116e488810e0116e2868b111ce001ce023e1314e61fe915e1fe415e111ce001ce01ee1313e61ae915e1ae415e0007a4504701013ec004c01013e017e02210e61fe20e0312e61ce415e1de1ee0311e61ae415e10e0254e1ae020fe617e415e18e020ee615e415eb0013e7450410e0fe0ee0502c00713e12e11e0502017e017e13d6bb8f530fe0eed42fe10e0129ea513e8b030e2080e926e07028ed915e25e6080e926e36e30211012210129924e2ae0520e6915e633243ce0c64914e0414e [] [apE,apQ,atJ,aue]:=
 ru Tryz.func3 (an 0x4000000110000004000040000ff9f 0x40000001100000040000400000000 [10] [] [18] [(3,[0,1,2,4,5,3,6,7,8])]) []
theorem r18:aF 18 [apE,apQ,atJ] 0x7540335e61415e00072ae4100102c000102017e7021ae63415e10e017e0119e60415eb0414e [] [apE,apQ,atJ]:=
 ru Tryz.func18 (am 32847 32768) []
theorem r20:aF 20 [apE,apQ,atJ] 0x123303221be0060220b0220511005733218e11ec0122e2312ee10e0122e1412ee0001026834e10122e7812ee0718e3534e10122e4712ee0618e0234e154100102a0001021be029e12e021ce60618e0234e150ee16e029eb0fe012e18e126e602121124e00fe18e126e902101124e2aec80001202a11e088126e002114e1124e0318e0123fe6517e18e0fe13e2421e0ee12e3421e402913e80fe11ee000120210e11e00ee20e326e0021815e15e3324e21032fe1327e111ce001ce0323ee611030dd042de20e412e18e9d41fe40290fe80fe31ee4039680fe0511ee11ee0c133de68915e8415e111ce001ce011be63915e000121be11ee11ee4100102c000102017e0123ce66915e6415e10e017e6020fe63415eb11ee11ee3914e0414e [] [apE,apQ,atJ]:=
 ru Tryz.func20 (an 0x1000000000010000020800401dffef 0x100000000001000002080040000000 [16] [(6,1),(7,1),(11,1),(12,1),(14,3),(18,1)] [] []) []
theorem r25:aF 25 [apE] 0x7100102a000102a00010240d080147e67415e0ee01d05080146e62415e0ee0130e60415eb0414e [] [apE]:=
 ru Tryz.func25 (am 7 0) []
theorem r60:aF 60 [apE,apQ] 0x7503cba0502a0050eedc050270d081146e60ee0130e6098742feb030e30211012210129924e2ae0520e0915e5914e0427e [] [apE,apQ]:=
 ru Tryz.func60 (an 31 0 [2] [] [] []) []
open Go Go.Sort
variable{atE auH:l}{auU:Obj}
theorem qS.rm(f:Rm atE auH){id:Nat}(e:auH.h id=atE.h id)(j:∀a p,atE.h id=T (a,p)->auH.w.heap[a]?=atE.w.heap[a]?)(h:qS atE id auU):qS auH id auU:=by
 cases auU with
 |arr r u k=>
  refine⟨h.1,?_⟩;rcases h.2 with⟨b,c⟩|⟨a,m,n,b,c,d,g,i⟩
  ·exact .inl ⟨b,e.trans c⟩
  ·exact .inr ⟨a,m,n,e.trans b,(j a _ b).trans c,d,RL.iB f g,i⟩
 |mp q s vs=>
  obtain⟨a,k,clock,b,c,d,g,i⟩:=h;exact⟨a,k,clock,e.trans b,(j a _ b).trans c,RL.iB f d,RL.iB f g,i⟩
 |hM t pos=>
  obtain⟨a,o,b,c,d⟩:=h;exact⟨a,o,e.trans b,(j a _ b).trans c,d⟩
variable{auC:World}
theorem asu{W:World}(c:auC.os=W.os)(d:auC.output=W.output)(e:auC.tape=W.tape)(j:W.drawn<=auC.drawn)(k:W.heap.size<=auC.heap.size)(f:∀a,a<W.heap.size->auC.heap[a]?=W.heap[a]?):∃m l,auC=grow (W.drewN m) l:=by
 refine⟨auC.drawn -W.drawn,auC.heap.extract W.heap.size auC.heap.size,?_⟩;obtain⟨g,n,o,p,q⟩:=W;obtain⟨i,r,s,t,u⟩:=auC;simp only at c d e j k f;subst c;subst d;subst e;simp only[grow,World.drewN]
 congr 1
 ·apply Array.ext_getElem?
  intro b;by_cases h:b<g.size
  ·rw[f b h,Array.getElem?_append_left h]
  ·rw[Array.getElem?_append_right (by omega)]
   simp only[Array.getElem?_extract];by_cases v:b<i.size
   ·rw[if_pos (by omega)];congr 1;omega
   ·rw[if_neg (by omega),Array.getElem?_eq_none (by omega)]
 ·omega
variable{auy:Array Value}{atF:TypeId}{avc:Nat × Nat}{aoO:Nat}
section
variable{enc:Nat->List Value}{k b m:Nat}{dkN:Array Nat}{os:Array Go.Obj}{w:World}
theorem asm(h:w.heap[b]?=T (.cells auy atF avc)):(sortWorldK enc k w b 0 m dkN os).heap[b]?=T (.cells (putCells id 0 (flatK enc k dkN) auy) atF avc):=by
 have a:b<w.heap.size:=(oI.1 h).1;simp only[sortWorldK,grow,putRowK,putRow,mapBlock];rw[Array.getElem?_append_left (by simpa[Go.Sort.ahead]using a),Array.getElem?_modify,if_pos rfl,show(Go.Sort.ahead w m).heap=w.heap from rfl,h];rfl
theorem aqr(c:aoO≠b)(a:aoO<w.heap.size):(sortWorldK enc k w b 0 m dkN os).heap[aoO]?=w.heap[aoO]?:=by
 simp only[sortWorldK,grow,putRowK,putRow,mapBlock];rw[Array.getElem?_append_left (by simpa[Go.Sort.ahead]using a),Array.getElem?_modify,if_neg (Kb c)];rfl
theorem ao2:w.heap.size<=(sortWorldK enc k w b 0 m dkN os).heap.size:=by
 simp[sortWorldK,grow,putRowK,putRow,mapBlock,Go.Sort.ahead]
theorem aqq:c7 w (sortWorldK enc k w b 0 m dkN os) (λa=>a=b):=⟨rfl,rfl,⟨rfl,by show w.drawn<=w.drawn+m;omega⟩,ao2,λa c d=>aqr d c⟩
end
def anl(key:Nat->List aO)(a b c:Nat):Int:=jj (key (b%a)) (key (c%a))
def alk(key:Nat->List aO)(a:Nat):Array Nat:=pdq (ltOf (anl key a)) (Array.range a) 0 a (Lib.bitLen a) ab ab
theorem ao3(key:Nat->List aO)(a:Nat):SWO (ltOf (anl key a)):=
 ⟨λb=>by
  have:=(TO.aE.eq (key (b%a)) _).2 rfl;simp[ltOf,anl,this],λb e f c d=>decide_eq_true (TO.aE.trans _ _ _ (of_decide_eq_true c) (of_decide_eq_true d)),
  λb e f c d=>decide_eq_false (ajg ⟨key (f%a),[]⟩ ⟨key (e%a),[]⟩ ⟨key (b%a),[]⟩ (of_decide_eq_false d) (of_decide_eq_false c))⟩
theorem aoY(key:Nat->List aO)(a:Nat):(alk key a).size=a/\(bU (alk key a)).Perm (List.range a):=by
 have h:=(pdq_sorts (ltOf (anl key a)) (ao3 key a) (Array.range a) 0 a (Lib.bitLen a) ab ab (Nat.zero_le _) (by simp) (Or.inl rfl)).1;obtain⟨c,-,b⟩:=h;rw[Array.size_range]at c;refine⟨c,?_⟩;have d:(alk key a).extract 0 a=alk key a:=Array.extract_eq_self_of_le (Nat.le_of_eq c);have e:(Array.range a).extract 0 a=Array.range a:=by simp
 rw[e]at b;have b:(bU ((alk key a).extract 0 a)).Perm (bU (Array.range a)):=b;rw[d,Array.toList_range]at b;exact b
variable{asc atP:Nat}
theorem asd(key:Nat->List aO)(a:asc<atP)(b:atP<aoO):¬jj (key ((alk key aoO)[atP]!%aoO)) (key ((alk key aoO)[asc]!%aoO))<0:=by
 have h:=(pdq_sorts (ltOf (anl key aoO)) (ao3 key aoO) (Array.range aoO) 0 aoO (Lib.bitLen aoO) ab ab (Nat.zero_le _) (by simp) (Or.inl rfl)).2 asc atP (Nat.zero_le _) a b;have h:ltOf (anl key aoO) (alk key aoO)[atP]! (alk key aoO)[asc]! =false:=h;exact of_decide_eq_false h
section
variable{P:Program}{G:Nat->Option (List AV)}{fs fcN:Nat}{E:l}{id gg n b:Nat}{row:Nat->List AV}{cs:Array Value}{ety:TypeId}
def amu(cs:Array Value)(n a:Nat):List Value:=((bU cs).drop (a%n*2)).take 2
theorem arJ(b:0<n)(a:Nat):(ct n row)[a%n]?=T (row (a%n)):=zA _ (Nat.mod_lt _ b)
theorem aoh(b:0<n)(a:Nat):a%n*2+2<=n*2:=by
 have:=Nat.mod_lt a b;omega
theorem aon(b:0<n)(c:n*2<=cs.size)(a:Nat):Z (amu cs n a)=2:=by
 have:=aoh b a;simp only[amu,gb,py,yh];omega
theorem aqd(b:0<n)(a:Nat):amu cs n a=(((bU cs).take (n*2)).drop (a%n*2)).take 2:=by
 rw[amu,j0 _ _ _ _ (aoh b a)]
theorem aoV(c:0<n)(h:∀e∈(bU cs).take (n*2),e.oneCell'=ab)(d:Nat):∀a∈amu cs n d,a.oneCell'=true:=λa b=>by
 rw[aqd c]at b;exact h a (List.mem_of_mem_drop (qL b))
theorem aqc(c:0<n)(e:∀d∈ct n row,Z d=2)(h:RL E (ct n row).flatten ((bU cs).take (n*2)))(a:Nat):RL E (row (a%n)) (amu cs n a):=by
 have b:=RL.take 2 (RL.drop (a%n*2) h);rw[Ae e (arJ c a),<-aqd c]at b;exact b
theorem apy(b:0<n)(d:n*2<=cs.size){a:Array Nat}(c:aoO<a.size*2):(flatK (amu cs n) 2 a)[aoO]! =cs[a[aoO/2]!%n*2+aoO%2]!:=by
 rw[get_flatK _ _ _ _ c];have e:=aoh b a[aoO/2]!;have f:=Nat.mod_lt aoO (show 0<2 by omega);have g:=aon b d a[aoO/2]!;rw[getElem!_pos (amu cs n a[aoO/2]!) _ (by omega),getElem!_pos cs _ (by omega)];simp[amu]
end
section
variable{P:Program}{G:Nat->Option (List AV)}{fs fcN:Nat}{E:l}{id gg n b:Nat}{row:Nat->List AV}{cs:Array Value}{ety:TypeId}{key:Nat->List aO}{a:Nat->AV}
theorem aqM(gd:Good E)(a0:dC G E)(U:E.H[id]?=T (.arr gg 2 (ct n row)))(p:0<n)(Y:E.h id=T (b,cs.size))(cg:E.w.heap[b]?=T (.cells cs ety (0,0)))
 (k4:RL E (ct n row).flatten ((bU cs).take (n*2)))(bH:∀bS∈(bU cs).take (n*2),bS.oneCell'=ab)
 (bp:∀d,d<n->∀M:List Obj,(∀i,i≠id->M[i]?=E.H[i]?)->aI M .cm (.agg (row d)) (a d))(bf:∀d t,d<n->t<n->∃L,jz P G fcN [a d,a t] [] (I (jj (key d) (key t))) L):
 CmpLays P fcN #[] (amu cs n) 2 (anl key n) b 0 n E.w:=λC F y _ v x=>by
 have bu:=(gd.iw id _ U).1;obtain⟨-,be,-⟩:=gd.dX id b _ Y;obtain⟨A,j⟩:=l.vw gd (e:=E.w) (k:=.arr (gg+1) 2 []) (f:=D) (c7.refl _ _) U (by simp[iK]) (by simp) (λ_=>⟨by simp,.inl ⟨rfl,by simp[l.b6]⟩⟩);have O:=a0.mono A gd;generalize r:E.b6 E.w id (.arr (gg+1) 2 []) D=f at A j O;have m:f.w=E.w:=by rw[<-r]<;>rfl
 have aq:∀d c g,f.h d=T (c,g)->c≠b/\E.h d=T (c,g):=λd c g e=>by
  rw[<-r]at e;simp only[l.b6]at e;split at e
  ·cases e
  ·rename_i bi
   exact⟨λz=>bi (gd.kL d id c g _ e (z▸Y)),e⟩
 have ak:f.S=E.S:=by rw[<-r]<;>rfl
 have ah:f.H=E.H.set id (.arr (gg+1) 2 []):=by rw[<-r]<;>rfl
 have a9:∀k c,f.S k c->c≠b:=λk c h z=>be (z▸gd.jL k c (ak▸h));let W:=sortWorldK (amu cs n) 2 E.w b 0 C y F;have s:=aqq (enc:=amu cs n) (k:=2) (b:=b) (m:=C) (dkN:=y) (os:=F) (w:=E.w);have K:Rm f {f with w:=W,bx:=λ_=>D}:=⟨λ_ _ h=>h,λk c h=>by
  show W.heap[c]?=f.w.heap[c]?;rw[m];exact s.block c (by have:=j.jy c (j.jL k c h);rwa[m]at this) (a9 k c h),di _,λid u _ h=>⟨u,h,iK.refl _ _⟩⟩
 have br:∀d c g,f.h d=T (c,g)->W.heap[c]?=f.w.heap[c]?:=λd c g e=>by
  rw[m];exact s.block c (by have:=(j.dX d c g e).1;rwa[m]at this) (aq d c g e).1
 have B:Good {f with w:=W,bx:=λ_=>D}:={
  jL:=j.jL
  jy:=λc h=>jQ (by have:=j.jy c h;rwa[m]at this) s.size
  dX:=λd c g e=>by
   obtain⟨au,ax,aB⟩:=j.dX d c g e;exact⟨jQ (by rwa[m]at au) s.size,ax,aB⟩
  kL:=j.kL
  blt:=λi c e=>by cases e
  nf:=λd t c e=>by cases e
  iw:=λd bL h=>qS.rm K rfl (λc g e=>br d c g e) (j.iw d bL h)}
 have a2:dC G {f with w:=W,bx:=λ_=>D}:=λi af e=>by
  have aU:=O i af e;refine R.iB ?_ aU;exact⟨λ_ _ h=>h,λk c h=>K.heap aa c h,di _,λid u _ h=>⟨u,h,iK.refl _ _⟩⟩
 have Q:∀d,R {f with w:=W,bx:=λ_=>D} (.agg (row (d%n))) (.agg (amu cs n d).toArray):=λd=>.agg _ _ (RL.iB K (RL.mono A gd (aqc p bu k4 d))) (aoV p bH d);have X:∀d,aI f.H .cm (.agg (row (d%n))) (a (d%n)):=λd=>bp _ (Nat.mod_lt _ p) _ λi bm=>by rw[ah,nV (Kb bm)]
 have ar:=UJ B .cm;have a3:dC G (({f with w:=W,bx:=λ_=>D}:l).ep .cm):=a2.KF (UK .cm);have bw:=aI.fJ B (X v) (by decide) (Q v);have bz:=aI.fJ B (X x) (by decide) (Q x);obtain⟨L,bg⟩:=bf (v%n) (x%n) (Nat.mod_lt _ p) (Nat.mod_lt _ p);have q:(({f with w:=W,bx:=λ_=>D}:l).ep .cm).w=W:=rfl;have N:∀i,(({f with w:=W,bx:=λ_=>D}:l).ep .cm).bx i=none:=λ_=>rfl
 have aQ:∀i,(({f with w:=W,bx:=λ_=>D}:l).ep .cm).h i=none:=λ_=>rfl;have aL:(({f with w:=W,bx:=λ_=>D}:l).ep .cm).H=[]:=rfl;generalize({f with w:=W,bx:=λ_=>D}:l).ep .cm=ae at*;have V:=bg.2 ae [.agg (amu cs n v).toArray,.agg (amu cs n x).toArray] ar N aL (.cons _ _ _ _ bw (.cons _ _ _ _ bz .nil)) a3;rw[q]at V;refine V.mono λe b3 h=>?_;cases e with
 |returned b2=>
  obtain⟨b4,bv,o,-,-,a4⟩:=h;subst bv;refine⟨by cases a4;rfl,?_⟩;have Z:=o.os;have ac:=o.output;have J:=o.tape;have ad:=o.size;rw[q]at Z ac J ad;refine asu Z ac J.1 J.2 ad λc bb=>?_;have:=o.heap c (by rw[q];exact bb) (λid g e=>by rw[aQ]at e;cases e) (λi e=>by rw[N]at e;cases e);rwa[q]at this
 |panicked b2=>exact h.elim
 |_=>exact h.elim
end
open Go.Shelf
theorem brs{a:FuncId}{b:Func}(h:(((a1.funcs[a]?.map (·.name)).getD "")== "runtime.NumGoroutine")=aa)(c:a1.funcs[a]?=T {b with name:=(a1.funcs[a]?.map (·.name)).getD ""}):Bears a1 a b:=⟨_,h,c⟩
def asf:Ren:=⟨λ|6=>57|15=>120|14=>119|28=>188|29=>189|20=>180|21=>181|22=>182|23=>183|24=>184|25=>185|26=>186|27=>187|46=>245|47=>246|48=>247|49=>248|50=>249|57=>300|n=>n,λ|22=>95|24=>102|25=>105|39=>168|53=>226|55=>228|46=>220|45=>219|50=>184|66=>276|70=>280|76=>322|77=>323|n=>n,λ|n=>n⟩
theorem ase:SlLaysF0.n6 a1 asf:=by
 constructor<;>first|kernel_rfl|exactλ_=>by kernel_rfl|exact brs (by kernel_rfl) (by kernel_rfl)
variable{asE:Type}
theorem fl2:∀(n:Nat)(a:List asE)(b:Nat->List asE),Z a=n*2->(∀c,c<n->(a.drop (c*2)).take 2=b c)->a=((List.range n).map b).flatten
 |0,a,b,h,_=>by
  have:a=[]:=Kz.1 (by omega);simp[this]
 |n+1,a,b,h,d=>by
  rw[wJ,ht,zQ,<-fl2 n (a.take (n*2)) b (by rw[gb];omega) (λc e=>by rw[<-d c (by omega),Tv,Tu];congr 1;omega)];simp only[eJ,oL,wE,List.flatten_nil,rP];rw[<-d n (by omega),fW (l:=a.drop (n*2)) (by rw[py];omega),vg]
theorem RL.apx{a:Nat->List AV}{g:Nat->List Value}(h:∀b,RL atE (a b) (g b)):∀n,RL atE ((List.range n).map a).flatten ((List.range n).map g).flatten
 |0=>.nil
 |n+1=>by
  rw[wJ];simp only[ht,zQ,eJ,oL,wE,List.flatten_nil,rP];exact RL.append (RL.apx h n) (h n)
theorem arG{b:Array Nat}(c:0<aoO)(f:aoO*2<=auy.size)(l:b.size=aoO):(bU (putCells (λg=>g) 0 (flatK (amu auy aoO) 2 b) auy)).take (aoO*2)=((List.range aoO).map λa=>amu auy aoO b[a]!).flatten:=by
 have h:(putCells (λg=>g) 0 (flatK (amu auy aoO) 2 b) auy).size=auy.size:=by simp[putCells]
 refine fl2 aoO _ _ (by rw[gb,yh,h];omega) λa m=>?_;rw[Tv,Tu,To (by omega)];have k:=aoh c b[a]!;refine sH ?_ λd n i=>?_
 ·rw[aon c f]
  rw[gb,py,yh,h];omega
 ·rw[aon c f]at i
  have j:a*2+d<b.size*2:=by omega
  have e:=apy (cs:=auy) c f j;rw[show(a*2+d)/2=a by omega,show(a*2+d)%2=d by omega]at e;rw[getElem!_pos auy _ (by omega)]at e;simp only[Cu,Kv,Array.getElem_toList,putCells,Array.getElem_mapIdx,size_flatK,amu];rw[if_pos (by omega),Nat.sub_zero,e]
theorem aqL:CP a1 57:=⟨Tryz.f57,Tryz.f57.body.getD .skip,Tryz.func57,by kernel_rfl,by kernel_rfl⟩
theorem aqV:∀args w,(callFunc 58 args).run a1 w=.ok (.enter 58 args) w:=enters_of Tryz.func58 (by kernel_rfl) rfl
variable{apF:List Obj}
theorem arw{id:Nat}{row:Nat->List AV}{key:Nat->List aO}{s:Nat->AV}(n:apF[id]?=T (.arr aoO 2 (ct asc row)))(e:0<asc)(a4:asc<=1000000)
 (ah:∀a,a<asc->∀y:List Obj,(∀u,u≠id->y[u]?=apF[u]?)->aI y .cm (.agg (row a)) (s a))(ac:∀a t,a<asc->t<asc->∃P,jz a1 G0 58 [s a,s t] [] (I (jj (key a) (key t))) P):
 jz a1 G0 57 [.q id aoO 0 asc,.fn 58 [] []] apF (.aE []) (apF.set id (.arr aoO 2 (ct asc λa=>row ((alk key asc)[a]!%asc)))):=by
 refine⟨aqL,λk p gd a9 W X V=>?_⟩;subst W;obtain⟨o,rfl,Y⟩:∃o,p=[o,.func (.func 58) #[] #[]]/\R k (.q id aoO 0 asc) o:=by
  cases X with
  |cons _ r _ _ A c=>cases c with
   |cons _ bi _ _ U c=>cases c with
    |nil=>cases U with
     |fn _ _ _ p vs h S=>
      cases p with
      |mk p=>cases vs with
       |mk vs=>cases h;cases S;exact⟨_,rfl,A⟩
 have F:=(gd.iw id _ n).2;have M:=(gd.iw id _ n).1;rw[RC]at F;rcases F with⟨h,-⟩|⟨d,b,z,j,v,k3,k4,x⟩
 ·have:=congrArg List.length h
  rw[RC]at this;exact absurd this (by simp;omega)
 have ae:∃cap,o=.slice (T ⟨d,0,D⟩) asc cap:=by
  cases Y with
  |q _ _ _ _ _ _ A bb h=>grind
 obtain⟨cap,rfl⟩:=ae;obtain⟨B,-,-⟩:=gd.dX id d _ j;have f:(Array.range asc).size=asc:=Array.size_range;have ad:=aqM (P:=a1) (G:=G0) (fcN:=58) gd V n e j v k4 x ah ac;have J:=AnyQ.slices_SortFunc_eq ase 2 Tryz.isAgg102 Tryz.sizeOf102 (amu b asc) (aon e k3) (aoV e x) (anl key asc) (ao3 key asc) 58 #[] d 0 cap (Array.range asc) k.w aqV (by rw[f];exact ad)
  (λc K=>by
   rw[size_flatK,f]at K;rw[aJ];have E:=apy (a:=Array.range asc) (cs:=b) e k3 (aoO:=c) (by rw[f];exact K);rw[getElem!_pos (Array.range asc) (c/2) (by rw[f];omega),Array.getElem_range,Nat.mod_eq_of_lt (show c/2<asc by omega),show c/2*2+c%2=c by omega,getElem!_pos b c (by omega)]at E;rw[E];simp only[World.cell?,World.frozen?,v];exact⟨by simp,by simp⟩)
  B (by rw[f];omega)
 rw[f]at J;refine J.mono ?_;rintro i aB ⟨rfl,N,O,rfl⟩;obtain⟨au,-⟩:=aoY key asc;have G:=arG (b:=alk key asc) e k3 au;have H:(putCells (λr=>r) 0 (flatK (amu b asc) 2 (alk key asc)) b).size=b.size:=by simp[putCells]
 have af:(sortWorldK (amu b asc) 2 k.w d 0 N (alk key asc) O).heap[d]?=T (.cells (putCells (λr=>r) 0 (flatK (amu b asc) 2 (alk key asc)) b) z (0,0)):=asm v;obtain⟨m,g⟩:=l.vw gd (e:=sortWorldK (amu b asc) 2 k.w d 0 N (alk key asc) O) (k:=.arr aoO 2 (ct asc λa=>row ((alk key asc)[a]!%asc))) (f:=T (d,b.size))
  ⟨rfl,rfl,aqq.tape,ao2,λQ Z ar=>aqr (λi=>ar ⟨_,i▸j⟩) Z⟩ n (by simp[iK,j,RC]) (λQ bm i=>by cases i;exact⟨jQ B ao2,.inl ⟨_,j⟩⟩)
  (λm=>⟨λi C=>by
   simp only[ct,du,la]at C;obtain⟨a,be,rfl⟩:=C;exact M _ (by simp only[ct,du,la];exact⟨_,Nat.mod_lt _ e,rfl⟩),
   .inr ⟨d,_,z,by simp[l.b6,H],af,by rw[RC,H];exact k3,by
    rw[RC,G];exact RL.apx (a:=λa=>row ((alk key asc)[a]!%asc)) (λa=>RL.mono m gd (aqc e M k4 _)) asc,λax L=>by
    rw[RC,G]at L;obtain⟨bf,ak,aq⟩:=zR.1 L;obtain⟨a,-,rfl⟩:=du.1 ak;exact aoV e x _ ax aq⟩⟩)
 exact⟨_,rfl,m,g,rfl,.aE _ _ .nil⟩
structure an3(C:eD):Prop where
 x57:∀{id g n:Nat}{f:Nat->SR}{L:List SR}{F:aN}{H:List Obj},0<n->n<=1000000->(∀x∈L,x.ok/\eO x.s.1)->(iz f n).Perm L->w H ((id,.arr g 2 (ct n λi=>gy (f i)))::((L.map (·.P)).flatten++F))->
  HR C 57 [.q id g 0 n,.fn 58 [] []] H (λr H'=>r=.aE []/\∃f',(iz f' n).Perm L/\(∀a b,a<b->b<n->kH (f' a).s (f' b).s)/\w H' ((id,.arr g 2 (ct n λi=>gy (f' i)))::((L.map (·.P)).flatten++F)))
theorem apI(b:apE=.ai\/∃id g,apE=.q id g 0 0):HR C 57 [apE,.fn 58 [] []] apF (λr a=>r=.aE []/\a=apF):=by
 have j:HR C 180 [apE,I 0,I 0,.fn 58 [] []] apF (λr a=>r=.aE []/\a=apF):=by
  refine Y1.hq ?_ (by rcases b with rfl|⟨id,g,rfl⟩<;>rfl);refine aD (dD:=I 1) rfl ?_;refine bB (z:=Unit) (λ_=>[I 1]) (λ_=>apF) (λ_=>0) (λ_=>True) () trivial ?_;intro _ _ d _;simp only[G,A,Q];exact bq (by simp) (by simp)
 obtain⟨c,k⟩:=RR (U:=0) (by omega);have h:HR C 119 [apE,I 0,I 0,I c,.fn 58 [] []] apF (λr a=>r=.aE []/\a=apF):=by
  refine YP.hq ?_ (by rcases b with rfl|⟨id,g,rfl⟩<;>rfl);refine bB (z:=Unit) (λ_=>[I 0,I 0,I c,tt,tt]) (λ_=>apF) (λ_=>0) (λ_=>True) () trivial ?_;intro _ _ d _;simp only[G,i];refine aD (dD:=I 0) rfl ?_;rw[jN,Q];refine a7 ?_ (by simp);refine cY j (by rcases b with rfl|⟨id,g,rfl⟩<;>rfl) ?_;rintro r a ⟨rfl,rfl⟩;exact⟨trivial,rfl⟩
 refine YB.hq ?_ (by rcases b with rfl|⟨id,g,rfl⟩<;>rfl);have l:fX .sl apE apF=T (I 0):=by rcases b with rfl|⟨id,g,rfl⟩<;>rfl
 simp only[l,Q,AW,show IntKind.u64.wrap 0=((0:Nat):Int)from rfl];refine f k ?_;refine cY h (by rcases b with rfl|⟨id,g,rfl⟩<;>rfl) ?_;rintro r a ⟨rfl,rfl⟩;exact⟨trivial,rfl⟩
variable{apN atB atT:Bool}{apO:aj}{atH:List aO}
theorem arh(bp:eP C)(c2:an3 C){r:aG}(n:List aw)(fp:dW apO)(fq:dW (ik apO r))(ey:∀J∈n,eO J.ad)(fL:(iH apO&&jk apO n)=ab)(fM:iH (ik apO r)=ab)(fI:nA (ik apO r)=[])
 (eT:mK (ik apO r) atH)(ex:dq (ik apO r) atH n)(gD:Z n<=2000)(bH:j6 r)(hh:∀d∈fK r,d≠[])(hg:Z (fK r)<1000000)(gM:Z (ie r)<1000000)
 (he:Z (fA (ik apO r) n r)<=3000)
 (el:∀t∈fA (ik apO r) n r,Z t.bl=Z t.ax/\(∀d∈ie r,d∈t.m)/\eO ((fK r).map (rL t))):
 ∃B:List lT,B.Perm ((fA (ik apO r) n r).map (nS (fK r) (ie r)))/\B.Pairwise kH/\
  PR C 19 [.agg (cP aa apN apO),eS atB (cF atT) n,.agg (aP aa r)] (.aE [eS aa J3 B,eS aa J4 B]):=by
 suffices h:HR C 19 [.agg (cP aa apN apO),eS atB (cF atT) n,.agg (aP aa r)] [] (λar O=>∃B:List lT,B.Perm ((fA (ik apO r) n r).map (nS (fK r) (ie r)))/\B.Pairwise kH/\aI O .res ar (.aE [eS aa J3 B,eS aa J4 B]))by
  obtain⟨ar,O,K,B,X,a2,d3⟩:=h;exact⟨B,X,a2,ar,O,K,d3⟩
 refine XR.hq ?_;have aq:∀(br:List AV),[br][0]?=T br:=λ_=>rfl;have bf:∀y,aR 9 ab (.aK aa (aP aa r) 0) y=T (.agg (aP aa r)):=λ_=>rfl;refine aD (dD:=cP aa apN apO) rfl (aD (dD:=.aK aa (aP aa r) 0) rfl ?_);simp only[eA,dZ,c3,de,Kk];have gc:(AV.agg [g (cP aa apN apO) 0,g (cP aa apN apO) 1,g (cP aa apN apO) 2,g (cP aa apN apO) 3])=.agg (cP aa apN apO):=rfl;rw[gc]
 refine f (bp.B0 apO n fp (by grind[Sm]) ey) ?_;rw[fL,bD,Q];refine bq ?_;rw[bf,Q];refine aD rfl (aD (dD:=eS aa (aP aa) [r]) rfl ?_);have d1:(AV.agg [g (cP aa apN apO) 0,g (cP aa apN apO) 1,g (cP aa apN apO) 2,eS aa (aP aa) [r]])=.agg (cP aa aa (ik apO r)):=rfl
 refine pg (N:=[Obj.arr 0 1 [],Obj.arr 0 1 []]) aa [g (cP aa apN apO) 0,g (cP aa apN apO) 1,g (cP aa apN apO) 2,eS aa (aP aa) [r]] (λE gC=>?_) ?_
 ·rw[d1]
  refine f (bp.Rn (ik apO r) fq) ?_;rw[fM,bD,Q];refine dx (λ_=>?_) (λh=>by cases h);refine f (HE (ik apO r) (by simp[ik]) (by grind[ik])) ?_;simp only[fI,a8,de,Q,er];grind
 simp only[G,i];refine bq ?_;generalize bv:[Obj.arr 0 1 [],Obj.arr 0 1 []]=aB;have bv:w aB []:=⟨vi,λd F=>by cases F⟩;refine bj rfl ?_;have d8:=bv.alloc (.arr 0 1 [[.ai]]);generalize aB++[Obj.arr 0 1 [[.ai]]]=aL at*;generalize Z aB=jr at*;rw[bf,Q];refine f (OD r bH) ?_;simp only[ef,cv,dk,Q];refine bj rfl (bj rfl ?_);have a9:=(d8.alloc (.arr 0 1 [[.ai]])).alloc (.arr 0 1 [[.ai]])
 simp only[fb,gz]at a9⊢;generalize(aL++[Obj.arr 0 1 [[.ai]]])++[Obj.arr 0 1 [[.ai]]]=cs at*;generalize Z aL+1=k29 at*;generalize Z aL=kq at*;have dG:=a9.get (U:=kq) (iX:=.arr 0 1 [[.ai]]) (by simp);refine aD (k1 dG rfl (by decide) rfl rfl) ?_;have bw:=w.qF (p:=[(k29,.arr 0 1 [[.ai]])]) a9 (.arr 0 1 [[AV.ai].set 0 (eS aa cS (fK r))])
 generalize cs.set kq (.arr 0 1 [[AV.ai].set 0 (eS aa cS (fK r))])=cA at*;have dH:=bw.get (U:=k29) (iX:=.arr 0 1 [[.ai]]) (by simp);refine aD (k1 dH rfl (by decide) rfl rfl) ?_;have d9:w _ [(k29,.arr 0 1 [[eS aa cS (ie r)]]),(kq,.arr 0 1 [[eS aa cS (fK r)]]),(jr,.arr 0 1 [[.ai]])]:=w.qF (p:=[]) bw (.arr 0 1 [[AV.ai].set 0 (eS aa cS (ie r))])
 generalize cA.set k29 (.arr 0 1 [[AV.ai].set 0 (eS aa cS (ie r))])=bi at*;refine aD (dD:=cW aa aa atB atT (ik apO r) n) rfl (bj (yc rfl (by simp[cW])) ?_);have ed:=d9.alloc (.arr 0 5 [cW aa aa atB atT (ik apO r) n]);generalize bi++[Obj.arr 0 5 [cW aa aa atB atT (ik apO r) n]]=cJ at*;generalize Z bi=xL at*;rw[bf,Q];have em:=eT.SH (r:=r) ex (by omega) (by simp[ik])
 have eq:px (.ptr xL 0 0 0) [(xL,.arr 0 5 [cW aa aa atB atT (ik apO r) n])] (cW aa aa atB atT (ik apO r) n):=.inr ⟨xL,rfl,rfl⟩;have d7:S6 jr ([]:List lT) [(jr,.arr 0 1 [[.ai]])]:=⟨[],.ai,[],rfl,bA.nil _ _,by grind,rfl⟩;have d4:=SF (ed:=false) (E:=.fn 56 [] [.ptr kq 0 0 0,.ptr k29 0 0 0,.ptr jr 0 0 0])
  (bm:=[(kq,.arr 0 1 [[eS aa cS (fK r)]]),(k29,.arr 0 1 [[eS aa cS (ie r)]])]) (s:=λci cg=>[.agg (cM ci cg),.ptr kq 0 0 0,.ptr k29 0 0 0,.ptr jr 0 0 0]) em bH eq rfl rfl (λ_ _=>rfl) (λ_ _=>rfl)
  (λj t=>j++[nS (fK r) (ie r) t]) [] ?_ (gA:=[(jr,.arr 0 1 [[.ai]])]) (ir:=[]) (N:=cJ) d7 ?_
 rotate_left
 ·intro ci cg pre d ho F
  have hj:d∈fA (ik apO r) n r:=by rw[F];simp
  have R:pre.foldl (λj t=>j++[nS (fK r) (ie r) t]) []=pre.map (nS (fK r) (ie r)):=by
   have:∀(u:List aX)(j:List lT),u.foldl (λj t=>j++[nS (fK r) (ie r) t]) j=j++u.map (nS (fK r) (ie r)):=by
    intro u;induction u with
    |nil=>grind
    |cons f5 u ak=>grind
   simpa using this pre []
  grind[fA,ik,ajf,List.length_map]
 ·refine ed.perm ?_
  classical
  grind
 refine cY d4 rfl ?_;rintro hn aQ ⟨f8,ae,U⟩;have R:(fA (ik apO r) n r).foldl (λj t=>j++[nS (fK r) (ie r) t]) []=(fA (ik apO r) n r).map (nS (fK r) (ie r)):=by
  have:∀(u:List aX)(j:List lT),u.foldl (λj t=>j++[nS (fK r) (ie r) t]) j=j++u.map (nS (fK r) (ie r)):=by
   intro u;induction u with
   |nil=>grind
   |cons f5 u ak=>grind
  simpa using this _ []
 rw[R]at ae;obtain⟨l,hu,f9,bb,ez,ah,rfl⟩:=ae;have gt:Z l=Z (fA (ik apO r) n r):=by rw[<-kd (f:=SR.s),<-bb,kd]
 rcases ez with⟨e0,rfl,rfl⟩|⟨id,o,rfl,rfl⟩
 ·subst e0
  have M:=U.get (U:=jr) (iX:=.arr 0 1 [[.ai]]) (by simp);rw[cr M (aq _)];refine aD (dD:=.ai) rfl ?_;refine cY (apI (.inl rfl)) rfl ?_;rintro f4 z ⟨rfl,rfl⟩;have M:=(U.alloc (.arr 0 1 [])).alloc (.arr 0 1 [])|>.get (U:=jr) (iX:=.arr 0 1 [[.ai]]) (by simp);rw[cr M (aq _)];refine aD (dD:=.ai) rfl ?_
  refine bB (z:=Unit) (λ_=>[.q (Z z) 0 0 0,.q (Z z+1) 0 0 0,I 0,g (cP aa apN apO) 0,g (cP aa apN apO) 1,g (cP aa apN apO) 2,eS aa (aP aa) [r]]) (λ_=>(z++[Obj.arr 0 1 []])++[Obj.arr 0 1 []]) (λ_=>0) (λ_=>True) () trivial ?_ (by simp) (by simp);intro _ _ c1 _;simp only[G,i,A,Q];refine bq ⟨[],?_,List.Pairwise.nil,?_⟩ (by simp)
  ·rw[bb];exact .nil
  ·have K:((z++[Obj.arr 0 1 []])++[Obj.arr 0 1 []])[Z z]?=T (.arr 0 1 (([]:List lT).map J3)):=by simp
   have X:((z++[Obj.arr 0 1 []])++[Obj.arr 0 1 []])[Z z+1]?=T (.arr 0 1 (([]:List lT).map J4)):=by simp
   exact .aE _ _ _ (.cons _ _ _ _ _ (fx K (by simp)) (.cons _ _ _ _ _ (fx X (by simp)) (.nil _)))
 have e2:∀d∈l,d.ok/\eO d.s.1:=λd F=>by
  refine⟨ah d F,?_⟩;have:d.s∈l.map (·.s):=by grind
  rw[<-bb]at this;obtain⟨t,es,h⟩:=du.1 this;rw[<-h];exact(el t es).2.2
 generalize go:([(xL,Obj.arr 0 5 [cW aa aa atB atT (ik apO r) n])]++([(kq,Obj.arr 0 1 [[eS aa cS (fK r)]]),(k29,Obj.arr 0 1 [[eS aa cS (ie r)]])]++[]):aN)=W at U;have M:=U.get (U:=jr) (iX:=.arr 0 1 [[.q id o 0 (Z l)]]) (by simp);rw[cr M (aq _)];refine aD (dD:=.q id o 0 (Z l)) rfl ?_;have af:=ajn l;generalize(λc:Nat=>(l[c]?).getD default)=J at af;have fd:l.map gy=ct (Z l) λc=>gy (J c):=by
  conv=>lhs;rw[<-af]
  simp[iz,ct]
 have bz:w aQ ((id,.arr o 2 (ct (Z l) λc=>gy (J c)))::((l.map (·.P)).flatten++((jr,.arr 0 1 [[.q id o 0 (Z l)]])::W))):=by
  rw[fd]at U;refine U.perm ?_
  classical
  grind
 have d5:HR C 57 [.q id o 0 (Z l),.fn 58 [] []] aQ (λr O=>r=.aE []/\∃k,(iz k (Z l)).Perm l/\(∀j H,j<H->H<Z l->kH (k j).s (k H).s)/\w O ((id,.arr o 2 (ct (Z l) λc=>gy (k c)))::((l.map (·.P)).flatten++((jr,.arr 0 1 [[.q id o 0 (Z l)]])::W)))):=by
  by_cases d2:Z l=0
  ·obtain⟨ar,O,K,rfl,rfl⟩:=apI (apE:=.q id o 0 (Z l)) (apF:=aQ) (.inr ⟨id,o,by rw[d2]⟩)
   exact⟨_,_,K,rfl,J,by rw[af],λj H _ bL=>by omega,bz⟩
  ·exact c2.x57 (by omega) (by omega) e2 (by rw[af]) bz
 refine cY d5 rfl ?_;rintro f4 z ⟨rfl,k,b3,fr,ee⟩;generalize gN:Z l=x at*;have a4:=(ee.alloc (.arr 0 1 [])).alloc (.arr 0 1 []);simp only[fb,gz]at a4⊢;generalize(z++[Obj.arr 0 1 []])++[Obj.arr 0 1 []]=cq at*;generalize Z z+1=b9 at*;generalize Z z=ce at*;have M:=a4.get (U:=jr) (iX:=.arr 0 1 [[.q id o 0 x]]) (by simp);rw[cr M (aq _)];refine aD (dD:=.q id o 0 x) rfl ?_;rw[nj,Q]
 have be:∀c,c<x->k c∈l:=λc b2=>b3.mem_iff.1 (du.2 (by grind));have bS:∀(E:Nat)(L:SR->List AV),bA (.q E 0 0 0) L 1 ([]:List SR) [(E,.arr 0 1 [])]:=λE L=>bA.of (o:=([]:List SR)) (a2:=L)
 refine bB (z:=Nat×AV×AV×aN×aN×List Obj) (λp=>[p.2.1,p.2.2.1,I (p.1:Int),g (cP aa apN apO) 0,g (cP aa apN apO) 1,g (cP aa apN apO) 2,eS aa (aP aa) [r]]) (λp=>p.2.2.2.2.2) (λp=>x -p.1) (λp=>p.1<=x/\bA p.2.1 (λd:SR=>[d.v]) 1 (iz k p.1) p.2.2.2.1/\bA p.2.2.1 (λd:SR=>[d.e]) 1 (iz k p.1) p.2.2.2.2.1/\w p.2.2.2.2.2 (p.2.2.2.1++(p.2.2.2.2.1++((id,.arr o 2 (ct x λc=>gy (k c)))::((l.map (·.P)).flatten++((jr,.arr 0 1 [[.q id o 0 x]])::W)))))) (0,.q ce 0 0 0,.q b9 0 0 0,[(ce,.arr 0 1 [])],[(b9,.arr 0 1 [])],cq) ⟨by simp,bS _ _,bS _ _,?_⟩ ?_
 ·refine a4.perm ?_
  exact List.Perm.swap _ _ _
 rintro⟨c,gh,c6,Pa,bm,y⟩ ⟨b2,aU,a0,S⟩ c1 ak;simp only at b2 aU a0 S ak⊢;simp only[G,i,A,Q,a];refine b (λN=>?_) (λeR=>?_)
 ·have N:c<x:=by simpa using N
  have gid:=S.get (U:=id) (iX:=.arr o 2 (ct x λc=>gy (k c))) (by simp);obtain⟨ac,f3,f2⟩:=SR.cells (ah _ (be c N));rw[e3 gid N,Q];refine aD (kV gid (zA _ N) rfl) (aD (dD:=gy (k c)) (by simp[dh,AV.pl,AV.cells,ac]<;>rfl) ?_);simp only[gy,G,i];simp only[gy,qJ,zP,ve,bG]at ac;have dl:=Ta f3 (SR.S9 (ah _ (be c N))).1 ac.1;have dm:=Ta f2 (SR.S9 (ah _ (be c N))).2 ac.2;rw[dl,Q,dm,Q]
  have f1:iz k (c+1)=iz k c++[k c]:=by simp[iz,wJ]
  have hm:Z (iz k c)=c:=by simp[iz]
  obtain⟨b4,bu,cK,dD,d6⟩:=bA.app (bytes:=24) aU S (k c) rfl (by omega);refine bj dD ⟨of_eq_true (j3 _),trivial,?_⟩;have ae:w cK (bm++((b4,.arr bu 1 ((iz k c++[k c]).map λd:SR=>[d.v]))::((id,.arr o 2 (ct x λc=>gy (k c)))::((l.map (·.P)).flatten++((jr,.arr 0 1 [[.q id o 0 x]])::W))))):=w.front d6;obtain⟨f0,d0,c0,dF,a3⟩:=bA.app (bytes:=24) a0 ae (k c) rfl (by omega);refine bj dF ?_;rw[ba,Q]
  rw[<-f1]at a3⊢;refine ak (c+1,_,_,[(b4,.arr bu 1 ((iz k (c+1)).map λd:SR=>[d.v]))],[(f0,.arr d0 1 ((iz k (c+1)).map λd:SR=>[d.e]))],c0) ⟨by omega,bA.of,bA.of,?_⟩ (by omega);exact a3.perm (List.Perm.swap _ _ _)
 ·have:c=x:=by simp at eR;omega
  subst this;refine⟨(iz k c).map (·.s),?_,?_,?_⟩
  ·grind
  ·rw[TQ]
   simp only[iz,TQ];refine anz (R:=λj H:Nat=>j<H) (λ{j H} gA bL h=>?_) Km;exact fr j H h (by simpa using bL)
  ·have F:∀d∈iz k c,aI y .res d.v (eS aa cV d.s.1)/\aI y .res d.e (eS aa cI d.s.2):=λd F=>by
    have fN:=b3.mem_iff.1 F;have:w y ((Pa++(bm++[(id,.arr o 2 (ct c λc=>gy (k c)))]))++((l.map (·.P)).flatten++((jr,.arr 0 1 [[.q id o 0 c]])::W))):=by simpa[fH]using S
    obtain⟨f7,a3⟩:=SR.mem fN this;grind[SR.ajl]
   have cn:∀{v:AV}{Y au:aN}{L:SR->List AV}{bg:lT->List AV},bA v L 1 (iz k c) Y->w y (Y++au)->(∀d∈iz k c,bR y .res (L d) (bg d.s))->aI y .res v.pl (eS aa bg ((iz k c).map (·.s))):=by
    intro v Y au L bg K X a2;rw[K.pl];rcases K with⟨R,ds,-⟩|⟨hl,gj,R,rfl⟩
    ·rw[R,ds];exact .ai _ _
    ·rw[R]
     exact ajm (a2:=L) (U:=1) (X.get (by simp)) a2
   refine .aE _ _ _ (.cons _ _ _ _ _ (cn aU S λd h=>.cons _ _ _ _ _ (F d h).1 (.nil _)) (.cons _ _ _ _ _ (cn a0 S.swap λd h=>.cons _ _ _ _ _ (F d h).2 (.nil _)) (.nil _)))
theorem asg(c:Nat->asE)(key:Nat->List aO)(a:Nat):(iz (λb=>c ((alk key a)[b]!%a)) a).Perm (iz c a):=by
 obtain⟨h,e⟩:=aoY key a;have g:bU (alk key a)=(List.range a).map λb=>(alk key a)[b]!:=by
  refine sH (by simp[h]) λb d _=>?_;have:b<(alk key a).size:=by simpa using d
  simp[getElem!_pos,this]
 rw[g]at e;have f:=e.map λb=>c (b%a);rw[wG]at f;refine f.trans (List.Perm.of_eq (rO λb d=>?_));rw[Nat.mod_eq_of_lt (la.1 d)]
theorem aqy:an3 C:=⟨λ{id g d b m l H} B A n o e=>by
 have E:=e.get (U:=id) (iX:=.arr g 2 (ct d λa=>gy (b a))) (by simp);have i:∀a,a<d->b a∈m:=λa c=>o.mem_iff.1 (du.2 ⟨a,la.2 c,rfl⟩);have z:=arw (row:=λa=>gy (b a)) (key:=λa=>(b a).s.1) (s:=λa=>.agg [eS ab cV (b a).s.1,eS ab cI (b a).s.2]) E B A (λa c I v=>by
  refine SR.g3 (p:=[]) (n _ (i a c)).1 ?_;rw[rP];have p:(b a).P.Sublist ((m.map (·.P)).flatten++l):=by
   obtain⟨J,K,f⟩:=Cn (i a c);rw[f];simp only[ht,eJ,zQ,wE,fH];exact(List.sublist_append_left _ _).trans (List.sublist_append_right _ _)
  have j:=e.1;rw[eJ,kf]at j;refine⟨List.Nodup.sublist (p.map _) j.2,λk G=>?_⟩;have q:=p.subset G;rw[v k.1 λf=>j.1 (f▸du.2 ⟨k,q,rfl⟩)];exact e.2 k (List.mem_cons_of_mem _ q)) (λa r c M=>by
  obtain⟨Q,t,h,F⟩:=ajj (b a).s.1 (b r).s.1 (b a).s.2 (b r).s.2 (n _ (i a c)).2;cases F
  exact⟨t,h⟩)
 refine⟨_,_,vv z,rfl,λa=>b ((alk (λa=>(b a).s.1) d)[a]!%d),(asg b _ d).trans o,λu L x y=>?_,w.set e _⟩;exact asd (λa=>(b a).s.1) x y⟩
abbrev ErN:=Option (AV×List Obj)
abbrev KeN:=List AV->List Obj->ErN
def bdE(b:Option asE)(a:asE->ErN):ErN:=match b with|some c=>a c|none=>D
variable{at7:Type}
def amD(c:Option (asE×at7))(b:asE->at7->ErN):ErN:=match c with|some a=>b a.1 a.2|none=>D
def nkE:List KeN->Nat->KeN
 |[],_=>λ_ _=>D
 |v::_,0=>v
 |_::a,b+1=>nkE a b
def lpE(a:List AV->List Obj->KeN->ErN):Nat->KeN
 |0,_,_=>D
 |n+1,b,h=>a b h (lpE a n)
def alj(b:asE->Option at7):List asE->Option (List at7)
 |[]=>T []
 |a::d=>match b a with|some c=>(match alj b d with|some e=>T (c::e)|none=>D)|none=>D
def alm(h:List Obj):Nat->Md->AV->Option AV
 |0,_,_=>D
 |n+1,a,d=>match d with
  |.int _ _=>T d
  |.bool _=>T d
  |.str _=>T d
  |.hL=>T d
  |.gO=>T d
  |.ki=>T d
  |.undef=>T d
  |.ai=>T (.sl aa [])
  |.dI=>T (.sl aa [])
  |.agg c=>(alj (alm h n a) c).map .agg
  |.aE c=>(alj (alm h n a) c).map .aE
  |.sl b e=>match a with
   |.cm=>(alj (alj (alm h n .c4)) e).map (.sl b)<|>(alj (alj (alm h n .cm)) e).map (.sl ab)
   |_=>(alj (alj (alm h n a)) e).map (.sl b)
  |.q id g off len=>match a with
   |.c4=>D
   |_=>match h[id]? with
    |some (.arr j _ e)=>if j=g/\off+len<=Z e then(alj (alj (alm h n a)) ((e.drop off).take len)).map (.sl (match a with|.cm=>ab|_=>aa))else D
    |_=>D
  |.aK b c off=>match a with
   |.cm=>(alj (alm h n .c4) c).map (λf=>.aK b f off)<|>(alj (alm h n .cm) c).map (λf=>.aK ab f off)
   |_=>(alj (alm h n a) c).map λf=>.aK b f off
  |.ptr id g o off=>match a with
   |.c4=>D
   |_=>match h[id]? with
    |some (.arr j _ e)=>if j=g then match e[o]? with|some c=>(alj (alm h n a) c).map λf=>.aK (match a with|.cm=>ab|_=>aa) f off|none=>D else D
    |_=>D
  |.iu k vs=>match a with
   |.res=>D
   |_=>match alj (alm h n a) k,alj (alm h n a) vs with|some i,T b=>T (.iu i b)|_,_=>D
  |.b5 id=>match a with
   |.cm=>match h[id]? with
    |some (.mp _ k vs)=>match alj (alm h n a) k,alj (alm h n a) vs with|some i,T b=>T (.iu i b)|_,_=>D
    |_=>D
   |_=>D
  |.fn m l c=>match alj (alm h n a) l,alj (alm h n a) c with|some i,T b=>T (.fn m i b)|_,_=>D
  |.iface p d=>(alm h n a d).map (.iface p)
  |_=>D
def nbE:Nat->AV->Bool
 |0,_=>aa
 |n+1,e=>match e with
  |.int _ _=>ab
  |.bool _=>ab
  |.str _=>ab
  |.hL=>ab
  |.gO=>ab
  |.ki=>ab
  |.undef=>ab
  |.agg a=>a.all (nbE n)
  |.aE a=>a.all (nbE n)
  |.sl _ []=>ab
  |.sl b d=> !b&&d.all λc=>c.all (nbE n)
  |.aK b a _=> !b&&a.all (nbE n)
  |_=>aa
abbrev CEN:=Nat->List AV->List Obj->ErN
def cpE(call:CEN)(e:Nat)(args:List AV)(h:List Obj)(d:AV->ErN):ErN:=
 match alj (alm h 30 .c4) (args.map AV.pl)with
 |some a=>amD (call e a []) λc b=>bdE (alm b 30 .res c) d
 |none=>bdE (alj (alm h 30 .cm) (args.map AV.pl)) λa=>amD (call e a []) λc b=>bdE (alm b 30 .res c) λr=>if nbE 30 r then d r else D
def chE(call:CEN)(b:Nat)(args:List AV)(h:List Obj)(a:AV->List Obj->ErN):ErN:=amD (call b (args.map AV.pl) h) a
def aoB(c:AV)(a b:ErN):ErN:=match c.pl with|.bool ab=>a|.bool aa=>b|_=>D
def gdE(d:AV)(w:Bool)(a b:ErN):ErN:=match d.pl with|.bool c=>if c=w then a else b|_=>D
def eqL(b:AV->AV->Bool):List AV->List AV->Bool
 |[],[]=>ab
 |a::d,c::e=>b a c&&eqL b d e
 |_,_=>aa
def anO(b:AV->AV->Bool):List (List AV)->List (List AV)->Bool
 |[],[]=>ab
 |a::d,c::e=>eqL b a c&&anO b d e
 |_,_=>aa
def eqA:Nat->AV->AV->Bool
 |0,_,_=>aa
 |n+1,o,w=>match o,w with
  |.int m a,.int c b=>m==c&&a==b
  |.bool a,.bool b=>a==b
  |.str a,.str b=>a==b
  |.agg a,.agg b=>eqL (eqA n) a b
  |.ai,.ai=>ab
  |.dI,.dI=>ab
  |.sl a c,.sl b j=>a==b&&anO (eqA n) c j
  |.q a b d e,.q f i g h=>a==f&&b==i&&d==g&&e==h
  |.b5 a,.b5 b=>a==b
  |.ptr a b d e,.ptr f i g h=>a==f&&b==i&&d==g&&e==h
  |.aK a c k,.aK b j l=>a==b&&eqL (eqA n) c j&&k==l
  |.undef,.undef=>ab
  |.hL,.hL=>ab
  |.oN,.oN=>ab
  |.pQ a,.pQ b=>a==b
  |.aE a,.aE b=>eqL (eqA n) a b
  |.qN a,.qN b=>anO (eqA n) a b
  |_,_=>aa
def ev(call:CEN):Nat->Bool->List In->List AV->List KeN->List Obj->ErN
 |0,_,_,_,_,_=>D
 |_+1,_,[],_,_,_=>D
 |f+1,ae,ar::ah,r,af,h=>
  match ar with
  |.n ac=>bdE (fX .sl (nv r ac) h) λx=>ev call f ae ah (x::r) af h
  |.N aQ ac=>bdE (fX aQ (nv r ac) h) λx=>ev call f ae ah (x::r) af h
  |.L ac=>bdE (aR 1 aa (nv r ac) h) λx=>ev call f ae ah (x::r) af h
  |.S ad ac=>bdE (aR ad ab (nv r ac) h) λx=>ev call f ae ah (x::r) af h
  |.A ad ac=>bdE (dw ad (nv r ac) h) λx=>ev call f ae ah (x::r) af h
  |.a ad ac=>bdE (dw ad (nv r ac) h) λx=>bdE (aR 1 aa x h) λx=>ev call f ae ah (x::r) af h
  |.J ad ac aq=>bdE (bY ad (nv r ac) (nv r aq) h) λx=>ev call f ae ah (x::r) af h
  |.i ac aq=>bdE (bY 1 (nv r ac) (nv r aq) h) λx=>bdE (aR 1 aa x h) λx=>ev call f ae ah (x::r) af h
  |.s ad ac aq=>bdE (bY ad (nv r ac) (nv r aq) h) λx=>bdE (aR ad ab x h) λx=>ev call f ae ah (x::r) af h
  |.b ad w ac aq=>bdE (bY ad (nv r ac) (nv r aq) h) λx=>bdE (dw w x h) λx=>bdE (aR 1 aa x h) λx=>ev call f ae ah (x::r) af h
  |.C ad ac=>bdE (dh ad (nv r ac)) λau=>ev call f ae ah (ap (gs au ad) r) af h
  |.d ad ac aq=>bdE (bY ad (nv r ac) (nv r aq) h) λx=>bdE (aR ad ab x h) λx=>bdE (dh ad x) λau=>ev call f ae ah (ap (gs au ad) r) af h
  |.D ad ac=>bdE (aR ad ab (nv r ac) h) λx=>bdE (dh ad x) λau=>ev call f ae ah (ap (gs au ad) r) af h
  |.B aQ ac aq=>bdE (aS .s aQ (nv r ac) (nv r aq)) λx=>ev call f ae ah (x::r) af h
  |.l ac aq=>bdE (aS .s .lss (nv r ac) (nv r aq)) λx=>ev call f ae ah (x::r) af h
  |.p ac=>bdE (aS .s .add (nv r ac) (I 1)) λx=>ev call f ae ah (x::r) af h
  |.e ac aq=>bdE (aS .s .eql (nv r ac) (nv r aq)) λx=>ev call f ae ah (x::r) af h
  |.m ac aq=>bdE (aS .s .neq (nv r ac) (nv r aq)) λx=>ev call f ae ah (x::r) af h
  |.U bk_1 aQ ac aq=>bdE (aS bk_1 aQ (nv r ac) (nv r aq)) λx=>ev call f ae ah (x::r) af h
  |.u ac=>bdE (ml .not (nv r ac)) λx=>ev call f ae ah (x::r) af h
  |.E ad ac=>bdE (ef ad (nv r ac)) λx=>ev call f ae ah (x::r) af h
  |.I ad ac=>bdE (iD ad (nv r ac)) λx=>ev call f ae ah (x::r) af h
  |.o ac=>bdE (hP (nv r ac) h) λx=>ev call f ae ah (x::r) af h
  |.O ac=>bdE (lX (nv r ac)) λx=>ev call f ae ah (x::r) af h
  |.q ad=>amD (eA ad h) λx h=>ev call f ae ah (x::r) af h
  |.t ad ac aq=>bdE (df ad (nv r ac) (nv r aq) h) λh=>ev call f ae ah r af h
  |.P ad w ac aq=>amD (cx ad w (nv r ac) (nv r aq) h) λx h=>ev call f ae ah (x::r) af h
  |.M ad ac=>amD (mw ad (nv r ac) h) λx h=>ev call f ae ah (x::r) af h
  |.W ad ax=>amD (km ad (vs r ax) h) λx h=>ev call f ae ah (x::r) af h
  |.X ad ax w ac aq=>amD (tZ ad (vs r ax) w (nv r ac) (nv r aq) h) λx h=>ev call f ae ah (x::r) af h
  |.f ad ax w ak=>bdE (fw ad (vs r ax) w (v2 r ak)) λx=>ev call f ae ah (x::r) af h
  |.F ad ax w ak=>amD (Gu ad (vs r ax) w (v2 r ak) h) λx h=>ev call f ae ah (x::r) af h
  |.H ax ak=>bdE (ko (vs r ax) (v3 r ak)) λau=>ev call f ae ah (.agg au::r) af h
  |.j ad w ac aq=>bdE (oV ad w (nv r ac) (nv r aq) h) λx=>ev call f ae ah (x::r) af h
  |.k ad ak=>cpE call ad (vs r ak) h λx=>ev call f ae ah (x::r) af h
  |.K ad ak=>chE call ad (vs r ak) h λx h=>ev call f ae ah (x::r) af h
  |.v ac ak=>amD (lC (nv r ac) (vp r ak)) λad ar=>cpE call ad ar h λx=>ev call f ae ah (x::r) af h
  |.V ac ak=>amD (lC (nv r ac) (vp r ak)) λad ar=>chE call ad ar h λx h=>ev call f ae ah (x::r) af h
  |.iv aU ac ak=>amD (rY aU (nv r ac) (vp r ak) h) λad ar=>cpE call ad ar h λx=>ev call f ae ah (x::r) af h
  |.iV aU ac ak=>amD (rY aU (nv r ac) (vp r ak) h) λad ar=>chE call ad ar h λx h=>ev call f ae ah (x::r) af h
  |.x2 aB=>bdE (aB r h) λx=>ev call f ae ah (x::r) af h
  |.y2 aB=>amD (aB r h) λx h=>ev call f ae ah (x::r) af h
  |.z2 aB=>bdE (aB r h) λh=>ev call f ae ah r af h
  |.z x=>ev call f ae ah (x::r) af h
  |.y ad=>ev call f ae ah (Go.AM.I ad::r) af h
  |.g ak=>ev call f ae ah (.agg (vs r ak)::r) af h
  |.gg a0 ad=>ev call f ae ah (.agg (tk (dr r a0) ad)::r) af h
  |.fn ad ak w=>ev call f ae ah (.fn ad (vp r ak) (vp r w)::r) af h
  |.Y aU ac=>ev call f ae ah (.iface aU (nv r ac).pl::r) af h
  |.c ac ar=>aoB (nv r ac) (ev call f ae ar r af h) (ev call f ae ah r af h)
  |.G ac ar=>gdE (nv r ac) ab (ev call f ae ar r af h) (ev call f ae ah r af h)
  |.Gf ac ar=>gdE (nv r ac) aa (ev call f ae ar r af h) (ev call f ae ah r af h)
  |.r ar ad=>ev call f ae ar r ((λau h=>ev call f ae ah (ap (gs au ad) r) af h)::af) h
  |.w ar ad ak=>lpE (λau h aL=>ev call f ae ar (ap (gs au ad) r) (aL::af) h) 2000 (vs r ak) h
  |.h ar=>match ev call f aa ar r [] h with|some _=>ev call f ae ah r af h|none=>D
  |.ob ac aq=>if !ae&&eqA 40 (nv r ac) (nv r aq)then T (.undef,[])else D
  |.tr=>if ae then D else T (.undef,[])
  |.Q ac=>if ae then T ((nv r ac).pl,h)else D
  |.T ak=>if ae then T (.aE (vp r ak),h)else D
  |.R aL ak=>nkE af aL (vs r ak) h
  |.Z aL ak a0 ad=>nkE af aL (ap (vs r ak) (tk (dr r a0) ad)) h
  |_=>D
variable{auf:Md}
theorem amB{h:List Obj}{d:AV->Option AV}(e:∀g f,d g=T f->aI h auf g f):∀{c r:List AV},alj d c=T r->bR h auf c r
 |[],r,b=>by cases b;exact .nil _
 |a::c,r,b=>by
  simp only[alj]at b;split at b
  ·rename_i k i
   split at b
   ·rename_i l j
    cases b
    exact .cons _ _ _ _ _ (e _ _ i) (amB e j)
   ·cases b
  ·cases b
theorem anC{h:List Obj}{d:AV->Option AV}(e:∀g f,d g=T f->aI h auf g f):∀{c r:List (List AV)},alj (alj d) c=T r->eX h auf c r
 |[],r,b=>by cases b;exact .nil _
 |a::c,r,b=>by
  simp only[alj]at b;split at b
  ·rename_i k i
   split at b
   ·rename_i l j
    cases b
    exact .cons _ _ _ _ _ (amB e i) (anC e j)
   ·cases b
  ·cases b
variable{avG:Option asE}
theorem amL{c:asE->at7}{b:at7}(h:avG.map c=T b):∃a,avG=T a/\b=c a:=by
 cases avG with
 |none=>cases h
 |some a=>cases h;exact⟨a,rfl,rfl⟩
variable{aun:asE}
theorem ap3{a:Option asE}(h:(avG<|>a)=T aun):avG=T aun\/a=T aun:=by
 cases avG with
 |none=>exact .inr h
 |some b=>exact .inl h
theorem anY{h:List Obj}:∀(n:Nat)(d:Md){k l:AV},alm h n d k=T l->aI h d k l
 |0,_,_,_,e=>by cases e
 |n+1,d,k,l,e=>by
  have b:=λd k l=>@anY h n d k l;cases k<;>simp only[alm]at e
  case int=>cases e;exact .int _ _ _
  case bool=>cases e;exact .bool _ _
  case str=>cases e;exact .str _ _
  case hL=>cases e;exact .hL _
  case gO=>cases e;exact .gO _
  case ki=>cases e;exact .ki _
  case undef=>cases e;exact .undef _ _
  case ai=>cases e;exact .ai _ _
  case dI=>cases e;exact .dI _ _
  case agg=>obtain⟨c,a,rfl⟩:=amL e;exact .agg _ _ _ (amB (b d) a)
  case aE=>obtain⟨c,a,rfl⟩:=amL e;exact .aE _ _ _ (amB (b d) a)
  case iface=>obtain⟨c,a,rfl⟩:=amL e;exact .iface _ _ _ _ (b _ _ _ a)
  case fn=>
   split at e
   ·rename_i c m a i;cases e;exact .fn _ _ _ _ _ _ (amB (b d) a) (amB (b d) i)
   ·cases e
  case sl=>
   cases d<;>simp only at e
   case c4=>obtain⟨c,a,rfl⟩:=amL e;exact .yq _ (by decide) _ _ _ (anC (b _) a)
   case res=>obtain⟨c,a,rfl⟩:=amL e;exact .Cw _ _ _ (anC (b _) a)
   case cm=>
    rcases ap3 e with e|e
    ·obtain⟨c,a,rfl⟩:=amL e;exact .yq _ (by decide) _ _ _ (anC (b _) a)
    ·obtain⟨c,a,rfl⟩:=amL e;exact .Aa _ _ _ (anC (b _) a)
  case aK=>
   cases d<;>simp only at e
   case c4=>obtain⟨c,a,rfl⟩:=amL e;exact .tN _ (by decide) _ _ _ _ (amB (b _) a)
   case res=>obtain⟨c,a,rfl⟩:=amL e;exact .Cx _ _ _ _ (amB (b _) a)
   case cm=>
    rcases ap3 e with e|e
    ·obtain⟨c,a,rfl⟩:=amL e;exact .tN _ (by decide) _ _ _ _ (amB (b _) a)
    ·obtain⟨c,a,rfl⟩:=amL e;exact .yr _ _ _ _ (amB (b _) a)
  case q id g off len=>
   cases d<;>simp only at e
   case c4=>cases e
   all_goals
    split at e
    ·rename_i r s p f
     split at e
     ·rename_i j
      obtain⟨c,a,rfl⟩:=amL e;obtain⟨rfl,j⟩:=j
      first|exact .vq _ _ _ _ _ _ _ f j (anC (b _) a)|exact .na _ _ _ _ _ _ _ f j (anC (b _) a)
     ·cases e
    ·cases e
  case ptr id g v off=>
   cases d<;>simp only at e
   case c4=>cases e
   all_goals
    split at e
    ·rename_i r s p f
     split at e
     ·rename_i j
      subst j;split at e
      ·rename_i t o
       obtain⟨c,a,rfl⟩:=amL e
       first|exact .pV _ _ _ _ _ _ _ _ f o (amB (b _) a)|exact .FK _ _ _ _ _ _ _ _ f o (amB (b _) a)
      ·cases e
     ·cases e
    ·cases e
  case iu=>
   cases d<;>simp only at e
   case res=>cases e
   all_goals
    split at e
    ·rename_i c m a i
     cases e
     first|exact .ys _ _ _ _ (amB (b _) a) (amB (b _) i)|exact .wT _ _ _ _ (amB (b _) a) (amB (b _) i)
    ·cases e
  case b5=>
   cases d<;>simp only at e
   case cm=>
    split at e
    ·rename_i u w vs f
     split at e
     ·rename_i c m a i
      cases e
      exact .wU _ _ _ _ _ _ f (amB (b _) a) (amB (b _) i)
     ·cases e
    ·cases e
   all_goals cases e
  all_goals cases e
theorem anV{d:AV->Bool}(e:∀f,d f=ab->NB f):∀{c:List AV},c.all d=ab->rV c
 |[],_=>.nil
 |a::c,b=>by
  simp only[qJ,bG]at b;exact .cons _ _ (e _ b.1) (anV e b.2)
theorem ap0{d:AV->Bool}(e:∀f,d f=ab->NB f):∀{c:List (List AV)},c.all (λb=>b.all d)=ab->vr c
 |[],_=>.nil
 |a::c,b=>by
  simp only[qJ,bG]at b;exact .cons _ _ (anV e b.1) (ap0 e b.2)
theorem apY:∀(n:Nat){b:AV},nbE n b=ab->NB b
 |0,_,a=>by cases a
 |n+1,b,a=>by
  have c:=λb=>@apY n b;unfold nbE at a;split at a
  ·exact .int _ _
  ·exact .bool _
  ·exact .str _
  ·exact .hL
  ·exact .gO
  ·exact .ki
  ·exact .undef
  ·exact .agg _ (anV c a)
  ·exact .aE _ (anV c a)
  ·exact .KC _
  ·simp only[bG,jt]at a
   obtain⟨rfl,a⟩:=a;exact .sl _ (ap0 c a)
  ·simp only[bG,jt]at a
   obtain⟨rfl,a⟩:=a;exact .aK _ _ (anV c a)
  ·cases a
theorem anP{e:AV->AV->Bool}(f:∀g w,e g w=ab->g=w):∀{c d:List AV},eqL e c d=ab->c=d
 |[],[],_=>rfl
 |a::c,h::d,b=>by
  simp only[eqL,bG]at b;rw[f _ _ b.1,anP f b.2]
 |[],_::_,b=>by cases b
 |_::_,[],b=>by cases b
theorem aoF{e:AV->AV->Bool}(f:∀g w,e g w=ab->g=w):∀{c d:List (List AV)},anO e c d=ab->c=d
 |[],[],_=>rfl
 |a::c,h::d,b=>by
  simp only[anO,bG]at b;rw[anP f b.1,aoF f b.2]
 |[],_::_,b=>by cases b
 |_::_,[],b=>by cases b
theorem aoa:∀(n:Nat){b w:AV},eqA n b w=ab->b=w
 |0,_,_,a=>by cases a
 |n+1,b,w,a=>by
  have c:=λb w=>@aoa n b w;unfold eqA at a;split at a
  all_goals first
   |rfl
   |(simp only[bG,beq_iff_eq]at a
     first
      |rw[a.1,a.2]
      |rw[a]
      |(obtain⟨⟨⟨rfl,rfl⟩,rfl⟩,rfl⟩:=a;rfl)
      |rw[a.1,aoF c a.2]
      |rw[a.1.1,anP c a.1.2,a.2])
   |rw[anP c a]
   |rw[aoF c a]
   |cases a
variable{auA auO:Prop}
section
variable{x:AV×List Obj}
theorem anG{b:asE->ErN}{c:asE->Prop}(h:bdE avG b=T x)(d:∀a,b a=T x->c a):bd avG c:=by
 cases avG with
 |none=>cases h
 |some a=>exact d a h
theorem aoz{b:Option (asE×at7)}{c:asE->at7->ErN}{d:asE->at7->Prop}(h:amD b c=T x)(e:∀a w,c a w=T x->d a w):cc b d:=by
 cases b with
 |none=>cases h
 |some a=>exact e a.1 a.2 h
theorem aqN{d:AV}{b c:ErN}(h:aoB d b c=T x)(e:b=T x->auA)(f:c=T x->auO):dY d auA auO:=by
 unfold aoB at h;unfold dY;split at h
 ·rename_i a;rw[a];exact e h
 ·rename_i a;rw[a];exact f h
 ·cases h
theorem aq6{d:AV}{w:Bool}{b c:ErN}(h:gdE d w b c=T x)(f:b=T x->auA)(g:c=T x->auO):gd d w auA auO:=by
 unfold gdE at h;unfold gd;split at h
 ·rename_i e
  rw[e];split at h
  ·rename_i a;simp only[if_pos a];exact f h
  ·rename_i a;simp only[if_neg a];exact g h
 ·cases h
theorem apW{c:List AV->List Obj->KeN->ErN}{d:List AV->List Obj->Kt->Prop}(f:∀a h i e,c a h i=T x->(∀a h,i a h=T x->e a h)->d a h e):∀(n:Nat){a:List AV}{h:List Obj},lpE c n a h=T x->iC d a h
 |0,_,_,b=>by cases b
 |n+1,a,h,b=>λI g=>g _ _ (f _ _ _ _ b λ_ _ j=>apW f n j I g)
end
section
variable{call:CEN}(hCN:∀f a h x,call f a h=T x->C f a h x.1 x.2){x:AV×List Obj}
include hCN
theorem api{f:Nat}{args:List AV}{h:List Obj}{c:AV->List Obj->ErN}{d:AV->List Obj->Prop}(a:chE call f args h c=T x)(e:∀b w,c b w=T x->d b w):ch C f args h d:=by
 unfold chE amD at a;split at a
 ·rename_i b g
  exact⟨_,_,hCN _ _ _ _ g,e _ _ a⟩
 ·cases a
theorem ap6{f:Nat}{args:List AV}{a r:AV}(b:call f args []=T (a,apF))(c:alm apF 30 .res a=T r):PR C f args r:=⟨_,_,hCN _ _ _ _ b,anY _ _ c⟩
theorem apm{f:Nat}{args:List AV}{h:List Obj}{i:AV->ErN}{j:AV->Prop}(a:cpE call f args h i=T x)(k:∀b,i b=T x->j b):cp C f args h j:=by
 unfold cpE amD bdE at a;split at a
 ·rename_i c d
  split at a
  ·rename_i b g
   try dsimp only at a
   split at a
   ·rename_i r e
    exact⟨.c4,c,r,by decide,amB (λ_ _=>anY _ _) d,ap6 hCN g e,(λa=>by cases a),k _ a⟩
   ·cases a
  ·cases a
 ·split at a
  ·rename_i c d
   try dsimp only at a
   split at a
   ·rename_i b g
    try dsimp only at a
    split at a
    ·rename_i r e
     try dsimp only at a
     split at a
     ·rename_i l
      exact⟨.cm,c,r,by decide,amB (λ_ _=>anY _ _) d,ap6 hCN g e,(λ_=>apY _ l),k _ a⟩
     ·cases a
    ·cases a
   ·cases a
  ·cases a
theorem anQ:∀(n:Nat){e:Bool}{k:List In}{r:List AV}{j:List KeN}{m:List Kt}{h:List Obj}{x:AV×List Obj}{Q:AV->List Obj->Prop},ev call n e k r j h=T x->(e=ab->Q x.1 x.2)->(∀d f h,nkE j d f h=T x->nk m d f h)->cz Q n k r m h
 |0,_,_,_,_,_,_,_,_,b,_,_=>by cases b
 |n+1,e,[],_,_,_,_,_,_,b,_,_=>by cases b
 |n+1,e,a::k,r,j,m,h,x,Q,b,l,o=>by
  have c:=λ{k r h}(b:ev call n e k r j h=T x)=>@anQ n e k r j m h x Q b l o;cases a<;>simp only[ev]at b<;>simp only[cz]<;>first
   |exact anG b λ_ b=>c b
   |exact aoz b λ_ _ b=>c b
   |exact c b
   |exact anG b λ_ b=>anG b λ_ b=>c b
   |exact anG b λ_ b=>anG b λ_ b=>anG b λ_ b=>c b
   |exact apm hCN b λ_ b=>c b
   |exact api hCN b λ_ _ b=>c b
   |exact aoz b λ_ _ b=>apm hCN b λ_ b=>c b
   |exact aoz b λ_ _ b=>api hCN b λ_ _ b=>c b
   |exact aqN b (λb=>c b) λb=>c b
   |exact aq6 b (λb=>c b) λb=>c b
   |exact o _ _ _ b
   |exact trivial
   |(cases b;done)
   |skip
  case r g p=>
   exact@anQ n e g r _ _ h x Q b l λd f h b=>by
    cases d with
    |zero=>exact c b
    |succ d=>exact o _ _ _ b
  case w g p A=>
   exact apW (c:=λf h d=>ev call n e g (ap (gs f p) r) (d::j) h) (λf h z y b s=>@anQ n e g _ _ _ h x Q b l λd f h b=>by
    cases d with
    |zero=>exact s _ _ b
    |succ d=>exact o _ _ _ b) 2000 b
  case h g=>
   split at b
   ·rename_i u t
    exact⟨@anQ n aa g r [] m h u Q t (λb=>by cases b) (λ_ _ _ b=>by cases b),c b⟩
   ·cases b
  case Q q=>
   split at b
   ·rename_i i
    cases b;exact l i
   ·cases b
  case T q=>
   split at b
   ·rename_i i
    cases b;exact l i
   ·cases b
  case ob q w=>
   split at b
   ·rename_i i
    simp only[bG]at i;exact aoa _ i.2
   ·cases b
end
structure TeN where
 f:Nat
 k:Nat
 t:List In
 h:∀args:List AV,Z args=k->dQ f args λh Q=>cz Q 999 t args [] h
variable{auF:List In}
def te1(h:∀{a:AV},aF aoO [a] asc auF [a]):TeN:=⟨aoO,1,(dc 999 asc auF).1,λargs b=>match args,b with|[a],_=>h⟩
def te2(h:∀{a b:AV},aF aoO [a,b] asc auF [a,b]):TeN:=⟨aoO,2,(dc 999 asc auF).1,λargs c=>match args,c with|[a,b],_=>h⟩
def te3(h:∀{a b c:AV},aF aoO [a,b,c] asc auF [a,b,c]):TeN:=⟨aoO,3,(dc 999 asc auF).1,λargs d=>match args,d with|[a,b,c],_=>h⟩
def te4(h:∀{a b c d:AV},aF aoO [a,b,c,d] asc auF [a,b,c,d]):TeN:=⟨aoO,4,(dc 999 asc auF).1,λargs e=>match args,e with|[a,b,c,d],_=>h⟩
def te5(h:∀{a b c d e:AV},aF aoO [a,b,c,d,e] asc auF [a,b,c,d,e]):TeN:=⟨aoO,5,(dc 999 asc auF).1,λargs f=>match args,f with|[a,b,c,d,e],_=>h⟩
def te7(h:∀{a b c d e f g:AV},aF aoO [a,b,c,d,e,f,g] asc auF [a,b,c,d,e,f,g]):TeN:=⟨aoO,7,(dc 999 asc auF).1,λargs i=>match args,i with|[a,b,c,d,e,f,g],_=>h⟩
def td1(h:∀{a:AV},dQ aoO [a] (dn auF [a])):TeN:=⟨aoO,1,auF,λargs b=>match args,b with|[a],_=>h⟩
def td2(h:∀{a b:AV},dQ aoO [a,b] (dn auF [a,b])):TeN:=⟨aoO,2,auF,λargs c=>match args,c with|[a,b],_=>h⟩
def td3(h:∀{a b c:AV},dQ aoO [a,b,c] (dn auF [a,b,c])):TeN:=⟨aoO,3,auF,λargs d=>match args,d with|[a,b,c],_=>h⟩
def tbl:List TeN:=[te2 Yy,te3 XQ,te3 XR,te2 Zk,te1 Zm,te2 Zn,te1 W7,te1 YA,te2 Zp,te1 Zq,te3 XX,te4 Z6,te2 YB,te2 W8,te2 Zr,td2 Xa,te2 Wq,te1 Xb,te1 Xc,te2 Xd,te1 YC,te1 YI,te3 X2,te2 X3,te3 Xj,te2 Zv,te2 X4,te2 Xk,te1 X5,td2 MX,te4 YK,te3 Wx,te1 Zw,td2 aab,te4 aac,te3 YL,te2 aad,te2 YM,te7 MY,te4 YN,te2 YO,te5 YP,te1 X7,te3 YQ,te2 YR,td2 X8,te1 Xm,te1 X9,te2 Zx,te1 Xn,te1 YT,te2 YU,te3 Wy,te1 YY,te1 ZB,te2 Yc,te2 Yd,te1 aai,td2 Y0,te1 ZC,td2 Xt,td2 Xv,te1 Xw,te2 Yf,te2 ZD,te2 aam,te2 Xx,te3 aan,te2 aao,te4 WB,te4 aap,te2 WC,te4 Y1,td1 p7,te3 Xy,te2 WE,te2 Y2,te2 aaq,te3 aar,te3 ZG,td3 aat,td3 Yh,td3 Y6,te1 Yi,td3 ZJ,te1 WI,te3 Yj,te4 Y7,te2 aav,te1 ZL,te1 WJ,te2 ZM,te2 ZN,te2 aaw,te1 ZO,td1 WK,td2 ZT,td2 aaz,te1 Za,td2 WO,td2 Yn,te1 aaA,td2 ZW,td2 Zc,te1 WQ,td3 Yo,td2 aaB,td2 WR,te3 aaC,te1 Zd,td3 WT,te1 WU,td3 Ze,te1 Yp,te2 Yq,te2 XG,te2 MZ,te4 aaD,te1 aaE,td2 Zg,td2 aaH,td2 XJ,te3 aaI,td2 Zh,td2 W1,td2 Ys,td2 W2,td2 Yt,td2 Yu,td2 ZZ,te3 aaJ,te2 Z0,td2 Z1,te3 Yx,te1 aaL,te2 XO,te3 Z2]
def nlp:AV->Bool
 |.lp _ _=>aa
 |_=>ab
theorem ap2:∀{b:List AV},b.all nlp=ab->b.map AV.pl=b
 |[],_=>rfl
 |a::b,c=>by
  simp only[qJ,bG]at c;rw[eJ,ap2 c.2];cases a<;>first|rfl|cases c.1
def an7(c:CEN):Nat->CEN
 |0=>λ_ _ _=>D
 |n+1=>λb args h=>match tbl.find? (λa=>a.f==b)with
  |some a=>if Z args=a.k/\args.all nlp=ab then ev (an7 c n) 999 ab a.t args [] h else D
  |none=>c b args h
theorem aph{i:CEN}(g:∀c d h b,i c d h=T b->C c d h b.1 b.2):∀(n c:Nat)(args:List AV)(h:List Obj)(b:AV×List Obj),an7 i n c args h=T b->C c args h b.1 b.2
 |0,_,_,_,_,a=>by cases a
 |n+1,c,args,h,b,a=>by
  simp only[an7]at a;split at a
  ·rename_i j q
   split at a
   ·rename_i e
    have p:j.f=c:=by simpa using TN q
    obtain⟨r,s,l,m,o⟩:=j.h args e.1 (ap2 e.2) h (λd k=>d=b.1/\k=b.2) (anQ (aph g n) 999 a (λ_=>⟨rfl,rfl⟩) λ_ _ _ a=>by cases a);subst m;subst o;rw[<-p];exact l
   ·cases a
  ·exact g _ _ _ _ a
def spE(i:Nat)(args:List AV)(h:List Obj):ErN:=
 match i,args with
 |105,[.agg a]=>if eqL (eqA 40) a (cP aa aa pC)||eqL (eqA 40) a (cP ab aa pC)||eqL (eqA 40) a (cP ab ab pC)||eqL (eqA 40) a (cP aa ab pC)then match h with|[]=>T (.aE [eS aa cN [0,1],eS aa cG [[0],[1]]],[])|_=>D else D
 |134,[.q id g 0 c,.int .i64 (.ofNat f),.q b 0 0 1]=>match h[id]?,h[b]? with
  |some (.arr j 3 e),T (.arr 0 3 [d])=>if j=g/\Z e=c/\id≠b/\f<=c/\(c+1)*40<=140737488355328 then T (.q id (g+1) 0 (c+1),h.set id (.arr (g+1) 3 (e.take f++d::e.drop f)))else D
  |_,_=>D
 |134,[.ai,.int .i64 (.ofNat 0),.q b 0 0 1]=>match h[b]? with
  |some (.arr 0 3 [d])=>T (.q (Z h) 0 0 1,h++[.arr 0 3 [d]])
  |_=>D
 |_,_=>D
theorem aqC:gw pC 0=[]:=by decide+kernel
theorem aqD:gw pC 1=[0,1,0]:=by decide+kernel
theorem asa:dM [0]=[0]:=by decide+kernel
theorem asb:dM [1]=[1]:=by decide+kernel
theorem aqb:((List.range 2).map (kb dM (gw pC) 2 (List.range 2) TS.init).of)=[0,1]/\(kb dM (gw pC) 2 (List.range 2) TS.init).out=[[0],[1]]:=by
 have a:List.range 2=[0,1]:=rfl;rw[a];simp[kb,ih,rF,aqC,aqD,TS.init,TS.enter,TS.pop,Law.b6,asa,asb,List.idxOf,List.findIdx,List.findIdx.go]
theorem ar9(i:Nat)(args:List AV)(h:List Obj)(g:AV×List Obj)(a:spE i args h=T g):C i args h g.1 g.2:=by
 unfold spE at a;split at a
 ·rename_i p
  split at a
  ·rename_i b
   split at a
   ·cases a
    have k:∀c e,C 105 [.agg (cP c e pC)] [] (.aE [eS aa cN [0,1],eS aa cG [[0],[1]]]) []:=λc e=>by
     have:=ais Tf (V:=c) (F:=e) S5 (M:=pC) (by decide);rw[show Z pC.d=2 from rfl,aqb.1,aqb.2]at this;exact this
    simp only[kg]at b;rcases b with((b|b)|b)|b<;>(rw[anP (λ_ _=>aoa _) b];exact k _ _)
   ·cases a
  ·cases a
 ·split at a
  ·rename_i o f
   split at a
   ·rename_i b
    obtain⟨rfl,j,l,m,n⟩:=b;cases a
    exact vv (aiF o j f l m n)
   ·cases a
  ·cases a
 ·split at a
  ·rename_i f
   cases a
   exact vv (aiG f)
  ·cases a
 ·cases a
def prE(b:Nat)(args:List AV):Option AV:=match an7 spE 60 b args []with|some a=>alm a.2 30 .res a.1|none=>D
theorem aol{args:List AV}{r:AV}(h:(match prE aoO args with|some b=>eqA 40 b r|none=>aa)=ab):PR C aoO args r:=by
 unfold prE at h;split at h
 ·rename_i b a
  split at a
  ·rename_i d c
   rw[<-aoa _ h];exact⟨_,_,aph ar9 _ _ _ _ _ c,anY _ _ a⟩
  ·cases a
 ·cases h
end AM
end Go
