/- The law DeriveSequencesUptoCardSaid: part 13 of 14 of the proof. No condition. -/
import Derived.Test.YtegalmbcaggfiaaGreatDoorXl
import Derived.Test.YtegalmbcaggfiaaGreatDoorCards
import Derived.Test.YtegalmbcaggfiaaGreatDoorTie
import Derived.WalkKit
import Derived.Deep.DeepWitnessRowRef
set_option maxRecDepth 100000
open List renaming length->Z
open Option renaming some->aa
open Bool renaming true->ad,false->ab
open Array renaming toList->bI
open Go.Proofs.Tryz renaming prog->aU
open Go.Proofs.YtegalmbcaggfiaaGreatDoor.Rows renaming deriveSequencesUptoRow->iO,deriveSequencesSpec->py
namespace Go
namespace AM
open Go.Law Go.Proofs
theorem aqu:PR C 5 [] (.bool ad):=Ay (.cons aqr (.cons aqs (.cons aqt (.cons q7 .nil)))) (by kernel_rfl)
variable{T F:Bool}
theorem aqv(c:D)(a:List S)(g:eI c)(f:Sm a)(e:∀d∈a,dX d.af):∃b,jy aU G0 4 [.agg (cP ab T c),eS F (cF ab) a] [] (.bool ad) b:=by
 let⟨j,b,h,i⟩:=k4 N3 N5 N4 Ap aqu (T:=T) (F:=F) c a g f e;cases i
 exact⟨b,h⟩
open Go.Proofs.YtegalmbcaggfiaaGreatDoor Go.Deep Go.ChangeShapes Go.WideShapes Go.ChangeAt Go.RowKit
theorem aqw:∃a,aU.underlying 27=aa (.struct a):=by
 simp
theorem aay:aU.underlying 4=aa .bool:=by kernel_rfl
variable{bA:Value}
theorem aqx{W:World}{base:Nat}(h:Value.okWide aU W .any base 27 bA):∃a,bA=.agg a:=by
 grind[aqw,Value.okWide]
theorem aqy{W:World}{base:Nat}(h:Value.okWide aU W .any base 28 bA):bI bA.cells=[bA]:=by
 unfold Value.okWide at h;rw[uD]at h;simp only[Cell.okWide,uD,Cell.ok]at h;cases bA<;>first|rfl|grind
theorem aqz(b:Type)(c:TypeId×Value->b)(W:World)(base:Nat)(args:Array Value)(g gs:List (DataW b))(z:List MemPlace)
 (l:∀(x:Nat) f a,Tryz.f4.params[x]?=aa f->args[x]?=aa a->Value.okWide aU W .any base f a)
 (j:DataW.Whole c aU (bI Tryz.f4.params) py.vars ab W (bI args) g gs z)(N:Rows.uptoSmall b (g++gs)=ad)(F:laidMetH aU iO.laid W):
 Calls aU 4 args W λi p=>∃a,i=.returned a/\py.post c aU Tryz.f4 ab ad ab ab W args a p:=by
 have t:=j;have O:=j.lt;obtain⟨Z,a0,s,I,rfl,az,aA⟩:=j;have r:DataW.TrodAll c aU W 0 (λ_=>ad) ad (bI Tryz.f4.params) (bI args) g Z:=s;rw[Tryz.params4]at r l;obtain⟨v0,v1,A,B,ac,af,rfl,rfl,rfl,D,E⟩:=trodAll_two r;obtain⟨rfl,rfl⟩:=trodVars_none I;have J:Rows.uptoBulkAll [A,B]<=1048576:=by
  have:=of_decide_eq_true N;simpa using this
 simp only[Rows.uptoBulkAll]at J;obtain⟨q,rfl⟩:=aqx (l 0 27 v0 rfl rfl);have K:=aqy (l 1 28 v1 rfl rfl);let⟨X,ah⟩:=D;let⟨Y,ai⟩:=E;let⟨n,w,S⟩:=(ahD (H:=b) (enc:=c) (w:=W) (sp:=λ_=>ad) (λ_=>rfl) ab ab).2 X _ _ _ ah (by omega);let⟨o,d,P,T⟩:=(ahF (H:=b) (enc:=c) (w:=W) (sp:=λ_=>ad) (λ_=>rfl) ab ab).2 Y _ _ _ ai (by omega);rw[K]at d;have H:R (E0 W) (.agg (cP ab ab n)) (.agg q):=by
  have M:∀a∈cP ab ab n,a.bU=true:=by simp[cP,AV.bU,eS]
  refine .agg _ _ w ?_;have one:∀{vs:List AV}{e:List Value},RL (E0 W) vs e->(∀a∈vs,a.bU=ad)->∀m∈e,m.oneCell'=true:=by
   intro vs e h;induction vs generalizing e with
   |nil=>intro _ m U;cases h;simp at U
   |cons a vs aE=>
    cases h with
    |cons _ m _ e V v=>
     intro k o d;rcases b5.1 d with rfl|d;exact V.CG (k _ (by simp));grind
  exact one w M
 have ax:R (E0 W) (eS ab (cF ab) o) v1:=by
  cases d with
  |cons _ _ _ _ h _=>exact h
 let⟨ak,_,L⟩:=aqv (T:=false) (F:=false) n o S (Sm.of P) T;have k:=L (E0 W) [.agg q,v1] (ahg W) (λ_=>rfl) rfl (.cons _ _ _ _ H (by omega)) (ap7 (show laidMetH aU Rows.deriveRoundsUptoRow.laid W from F));refine k.mono λi p u=>?_;cases i with
 |returned a=>
  obtain⟨aj,rfl,C,-,-,G⟩:=u;obtain rfl:a=.bool true:=by cases G;rfl
  simp only[sO]at t O;refine⟨_,rfl,apP (h:=ac++af) (i:=[]) t (λ_ _ _=>trodAll_cons_mk (shut_bool aay _) trodAll_mk0) (λy Q=>?_) (λ_ _=>rfl) (by simp) (apM C _) (by grind[apO]) (ok_one (by kernel_rfl) rfl (okWide_bool_mk aay _))⟩;exact aae apR apS (λf v=>by rw[Tryz.params4]at v;revert f;decide) s (by grind[apN]) Q
 |_=>exact u.elim
end AM
end Go
