/- SnapshotMatchesReference, 11 of 11 -/
import Derived.Test.YtmkbfepnleajhaaGreatDoorYc
set_option maxRecDepth 100000
open Option renaming some->T,none->D
open Bool renaming true->ab,false->aa
open Decidable renaming decide->S
open Array renaming toList->bU
open Go.Proofs.Tryz renaming prog->a1
open Option.some renaming inj->wM
namespace Go
namespace AM
open Go.Proofs Go.Proofs.YtmkbfepnleajhaaGreatDoor
theorem ajZ:((Rows.snapshotMatchesReferenceUptoRow).wf (OpenSpec.ofChange (Rows.OpenSpec.upto Rows.snapshotMatchesReferenceSpec).bare))=true:=by kernel_rfl
theorem aj0:(laidOutB a1)=true:=by kernel_rfl
theorem aj1:(mapsRowed a1)=true:=by kernel_rfl
theorem aj2:(Tryz.f3.params.all (a1.readableRec ·))=true:=by kernel_rfl
theorem aj3:(namedTie a1 Rows.snapshotMatchesReferenceUptoRow.named (Rows.OpenSpec.upto Rows.snapshotMatchesReferenceSpec).bare.vars)=true:=by kernel_rfl
theorem aj4:((Rows.snapshotMatchesReferenceUptoRow.stops==[]))=true:=by kernel_rfl
theorem aj5:((a1.stops==[]))=true:=by kernel_rfl
theorem aj6:((Rows.snapshotMatchesReferenceUptoRow.knobs==[]))=true:=by kernel_rfl
theorem aj7:((a1.stopKnobs==[]))=true:=by kernel_rfl
theorem aj8:((Rows.snapshotMatchesReferenceUptoRow.inPlace==a1.inPlace 3))=true:=by kernel_rfl
theorem aj9:((Rows.snapshotMatchesReferenceUptoRow.unfollowed==a1.unfollowed 3))=true:=by kernel_rfl
theorem aka:((Rows.snapshotMatchesReferenceUptoRow.recurses==a1.recurses 3))=true:=by kernel_rfl
theorem akb:((Rows.snapshotMatchesReferenceUptoRow.named==a1.varsNamed 3))=true:=by kernel_rfl
theorem akc:((Rows.snapshotMatchesReferenceUptoRow.maps==(bU Tryz.f3.params++(Rows.OpenSpec.upto Rows.snapshotMatchesReferenceSpec).bare.plain.varTypes a1).any (a1.mapsRec ·)))=true:=by kernel_rfl
theorem akd:((Rows.snapshotMatchesReferenceUptoRow.ifaces==(bU Tryz.f3.params++(Rows.OpenSpec.upto Rows.snapshotMatchesReferenceSpec).bare.plain.varTypes a1).any (a1.ifacesRec ·)))=true:=by kernel_rfl
theorem ake:((Rows.snapshotMatchesReferenceUptoRow.mapsOut==a1.mapsAmong (bU Tryz.f3.resultTypes)))=true:=by kernel_rfl
theorem akf:((Rows.snapshotMatchesReferenceUptoRow.loops==(bU Tryz.f3.params++(Rows.OpenSpec.upto Rows.snapshotMatchesReferenceSpec).bare.plain.varTypes a1).any (a1.loopsFrom ·)))=true:=by kernel_rfl
theorem akg:((Rows.snapshotMatchesReferenceUptoRow.wideKeys==(bU Tryz.f3.params++(Rows.OpenSpec.upto Rows.snapshotMatchesReferenceSpec).bare.plain.varTypes a1++bU Tryz.f3.resultTypes).any (a1.wideKeysFrom ·)))=true:=by kernel_rfl
theorem akh:((Rows.OpenSpec.upto Rows.snapshotMatchesReferenceSpec).bare.vars.all (a1.varReadable ·))=true:=by kernel_rfl
theorem aki:(Tryz.f3.resultTypes.all (λa=>a1.readableRec a&&S (a<a1.types.size)))=true:=by kernel_rfl
theorem akj:((Rows.snapshotMatchesReferenceUptoRow.ifacesOut==(bU Tryz.f3.resultTypes).any (a1.ifacesRec ·)))=true:=by kernel_rfl
theorem akk:((Rows.snapshotMatchesReferenceUptoRow.loopsOut==(bU Tryz.f3.resultTypes).any (a1.loopsFrom ·)))=true:=by kernel_rfl
theorem akl:((Rows.snapshotMatchesReferenceUptoRow.plainKeys==a1.plainKeys))=true:=by kernel_rfl
theorem akm:(Rows.snapshotMatchesReferenceUptoRow.shortTexts.isNone)=true:=by kernel_rfl
theorem akn:(a1.stopsHeard)=true:=by kernel_rfl
theorem ako:(a1.mayEnter)=true:=by kernel_rfl
theorem akp:((Rows.snapshotMatchesReferenceUptoRow.lifted==a1.liftsFinal))=true:=by kernel_rfl
theorem akq:((a1.make==T Rows.snapshotMatchesReferenceUptoRow.make))=true:=by kernel_rfl
theorem akr:((Rows.snapshotMatchesReferenceUptoRow.kinds==(if Rows.snapshotMatchesReferenceUptoRow.domain.isEmpty then[]else(bU Tryz.f3.params).map λb=>match a1.underlying b with|some (.int a)=>T a|_=>D)))=true:=by kernel_rfl
theorem aks:((Rows.snapshotMatchesReferenceUptoRow.pinned==Rows.snapshotMatchesReferenceUptoRow.pinnedBy))=true:=by kernel_rfl
theorem akt:((Rows.snapshotMatchesReferenceUptoRow.veiled==(bU Tryz.f3.params++(Rows.OpenSpec.upto Rows.snapshotMatchesReferenceSpec).bare.plain.varTypes a1++bU Tryz.f3.resultTypes).any (a1.veiledRec ·)))=true:=by kernel_rfl
theorem aku:(Rows.snapshotMatchesReferenceUptoRow.veiledFits a1 (bU Tryz.f3.params) (bU Tryz.f3.params++(Rows.OpenSpec.upto Rows.snapshotMatchesReferenceSpec).bare.plain.varTypes a1++bU Tryz.f3.resultTypes))=true:=by kernel_rfl
theorem akv:joinedFacts a1 3 Tryz.f3 (Rows.OpenSpec.upto Rows.snapshotMatchesReferenceSpec).bare Rows.snapshotMatchesReferenceUptoRow=true:=by
 unfold joinedFacts;simp only[bG];exact⟨⟨⟨⟨⟨⟨⟨⟨⟨⟨⟨⟨⟨⟨⟨⟨⟨⟨⟨⟨⟨⟨⟨⟨⟨⟨⟨⟨⟨⟨⟨ajZ,aj0⟩,aj1⟩,aj2⟩,aj3⟩,aj4⟩,aj5⟩,aj6⟩,aj7⟩,aj8⟩,aj9⟩,aka⟩,akb⟩,akc⟩,akd⟩,ake⟩,akf⟩,akg⟩,akh⟩,aki⟩,akj⟩,akk⟩,akl⟩,akm⟩,akn⟩,ako⟩,akp⟩,akq⟩,akr⟩,aks⟩,akt⟩,aku⟩
theorem akw:aa=Rows.snapshotMatchesReferenceUptoRow.goesBy a1:=by kernel_rfl
theorem looks:ab=a1.looks []:=by kernel_rfl
theorem akx:a1.mainIs=T (ab,"2d2ec39e57c8fb797666fb7a0987c0d2c4fcd952b5bbd849cdc90b0f8fddd653".toList):=by kernel_rfl
theorem aky:Rows.snapshotMatchesReferenceUptoRow.wfByText (Rows.OpenSpec.upto Rows.snapshotMatchesReferenceSpec)=true:=by kernel_rfl
theorem Tl:a1.funcNamed "porism/porismlaw13.SnapshotMatchesReference"=T 3:=by kernel_rfl
open Go.Deep Go.ChangeShapes Go.WideShapes Go.ChangeAt Go.RowKit
theorem own:ownKnob a1.godebug=none:=by kernel_rfl
noncomputable def strs:Array Value:=(fR.map λa=>Value.string ⟨a.toArray⟩).toArray
noncomputable def J7(b:Os):World:=
 let a:=(World.settled a1 b).heap.size
 let w0:=World.holding a1 b ⟨#[Go.Obj.cells strs 9,Go.Obj.cells strs 9],#[],[]⟩
 let set(h:Array Go.Obj) (g:Nat) (c:Array Value):Array Go.Obj:=h.modify g λ
  |Go.Obj.cells _ i frozen=>Go.Obj.cells c i frozen
  |o=>o
 let d:=set w0.heap 0 #[.slice (T ⟨a,0,D⟩) 10 10]
 let e:=set d 1 strs
 let f:=set e 2 #[.slice (T ⟨a+1,0,D⟩) 10 10]
 {w0 with heap:=f}
noncomputable def Fu:Array Value:=#[.agg #[.slice D 0 0,.slice D 0 0,.slice D 0 0,.slice D 0 0],.slice D 0 0,.slice D 0 0,.agg #[.string ⟨#[]⟩,.int .i64 0,.slice D 0 0,.int .i64 0,.string ⟨#[]⟩,.string ⟨#[]⟩,.int .i64 0,.slice D 0 0,.int .i64 0]]
theorem akz(a:Os):laidMet a1 Rows.snapshotMatchesReferenceUptoRow.laid ((J7 a).forCall (λ_ _=>0) ⟨#[],Fu,[]⟩).memory:=
 laidMet_of_run' 8 (by kernel_rfl) (by kernel_rfl)
variable{asE:Type}
theorem akA(b:Os)(a:TypeId×Value->asE):∃c,DataW.whole a a1 ((J7 b).forCall (λ_ _=>0) ⟨#[],Fu,[]⟩).memory (bU Tryz.f3.params) Rows.snapshotMatchesReferenceSpec.vars aa (bU Fu) 8=T ([.agg [.nil,.nil,.nil,.nil],.nil,.nil,.agg [.lit (.string []),.lit (.int .i64 0),.nil,.agg [.lit (.int .i64 0),.lit (.string []),.lit (.string []),.lit (.int .i64 0)],.nil,.lit (.int .i64 0)]],[],c):=
 ⟨[],by kernel_rfl⟩
theorem akB(b:Os)(m:b.Started)(c:Type)(a:TypeId×Value->c)(d:Stop.Interp):
 ReturnsInHanded {} Tryz.checked b 3 .any ((Rows.OpenSpec.upto Rows.snapshotMatchesReferenceSpec).preRow a a1 Tryz.f3 Rows.snapshotMatchesReferenceUptoRow.domain aa Rows.snapshotMatchesReferenceUptoRow.laid) (((Rows.OpenSpec.upto Rows.snapshotMatchesReferenceSpec).at d).post a a1 Tryz.f3 aa ab aa aa):=by
 obtain⟨o,l⟩:=akA b a;refine returnsInHanded_of_row (C:=Tryz.checked) (s:=Rows.OpenSpec.upto Rows.snapshotMatchesReferenceSpec) own m (by kernel_rfl) Tryz.func3
  (witness_row_atRef (enc:=a) (C:=Tryz.checked) aa (J7 b) Fu rfl (by kernel_rfl) (by kernel_rfl) (by kernel_rfl)
   (OpenSpec.preRow_of_cond 8 l (by kernel_rfl) (λn j=>by cases j;kernel_rfl) (by kernel_rfl) (akz b))) ?_
 intro W base args f gs e k h _ i _ g _ _;exact ajY c a W base args f gs e k h (i _ rfl) g
theorem akC:Rows.SnapshotMatchesReferenceUptoSaid:=
 OpenClaim.holds_of_cond 3 Tryz.f3 rfl rfl rfl rfl rfl rfl rfl ⟨rfl,rfl,rfl,rfl,rfl⟩ rfl rfl rfl rfl rfl Tl Tryz.func3 akv
  (of_decide_eq_true (by kernel_rfl)) (by unfold Func.isWrapper;first|(rw[if_pos (by decide+kernel)];kernel_rfl)|(rw[if_neg (by decide+kernel)];exact⟨rfl,rfl⟩))
  (λd e b c _ a=>by rw[OpenClaim.pre_eq_preRow];exact akB d e b c a)
theorem arD(b:FuncId)(fn:Func)(e:Tryz.pinned.checked.prog.funcNamed "porism/porismlaw13.SnapshotMatchesReference"=T b)(f:Tryz.pinned.checked.prog.funcs[b]?=T fn):
 ab=Tryz.pinned.checked.prog.looks []/\∀(d:Nat) a,fn.params[d]?=T a->Tryz.pinned.checked.prog.wantsStandIn a=false:=by
 obtain rfl:b=3:=wM (Tl.symm.trans e)|>.symm;obtain rfl:fn=Tryz.f3:=(wM (Tryz.func3.symm.trans f)).symm;refine⟨looks,λd a c=>?_⟩;rw[Tryz.params3]at c;have:a=27\/a=28\/a=29\/a=35:=by simpa using Array.mem_of_getElem? c
 rcases this with rfl|rfl|rfl|rfl
 ·exact(show a1.wantsStandIn 27=aa by kernel_rfl)
 ·exact(show a1.wantsStandIn 28=aa by kernel_rfl)
 ·exact(show a1.wantsStandIn 29=aa by kernel_rfl)
 ·exact(show a1.wantsStandIn 35=aa by kernel_rfl)
theorem anu:Rows.SnapshotMatchesReferenceUptoCardSaid:=
 Claim7.holds_tied_plain_at .later [] _ _ _ _ akC (λ_ h=>by cases h) aky (λ_ h=>by cases h) snapshotMatchesReferenceUpto_row_tie rfl ⟨rfl,rfl⟩ akx rfl arD akw
end AM
end Go
namespace Go.Proofs.YtmkbfepnleajhaaGreatDoor
theorem proved : Rows.SnapshotMatchesReferenceUptoCardSaid := Go.AM.anu
end Go.Proofs.YtmkbfepnleajhaaGreatDoor
