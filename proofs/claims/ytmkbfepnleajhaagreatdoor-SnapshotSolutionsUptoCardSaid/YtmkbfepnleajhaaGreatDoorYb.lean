/- SnapshotSolutions, 9 of 9 -/
import Derived.Test.YtmkbfepnleajhaaGreatDoorYa
set_option maxRecDepth 100000
open Option renaming some->T,none->D
open Bool renaming true->ab,false->aa
open Decidable renaming decide->S
open Array renaming toList->bU
open Go.Proofs.Tryz renaming prog->a1
open Option.some renaming inj->wM
namespace Go
namespace AM
open Go.Proofs Go.Proofs.YtmkbfepnleajhaaGreatDoor
theorem ajZ:((Rows.snapshotSolutionsUptoRow).wf (OpenSpec.ofChange (Rows.OpenSpec.upto Rows.snapshotSolutionsSpec).bare))=true:=by kernel_rfl
theorem aj0:(laidOutB a1)=true:=by kernel_rfl
theorem aj1:(mapsRowed a1)=true:=by kernel_rfl
theorem aj2:(Tryz.f5.params.all (a1.readableRec ·))=true:=by kernel_rfl
theorem aj3:(namedTie a1 Rows.snapshotSolutionsUptoRow.named (Rows.OpenSpec.upto Rows.snapshotSolutionsSpec).bare.vars)=true:=by kernel_rfl
theorem aj4:((Rows.snapshotSolutionsUptoRow.stops==[]))=true:=by kernel_rfl
theorem aj5:((a1.stops==[]))=true:=by kernel_rfl
theorem aj6:((Rows.snapshotSolutionsUptoRow.knobs==[]))=true:=by kernel_rfl
theorem aj7:((a1.stopKnobs==[]))=true:=by kernel_rfl
theorem aj8:((Rows.snapshotSolutionsUptoRow.inPlace==a1.inPlace 5))=true:=by kernel_rfl
theorem aj9:((Rows.snapshotSolutionsUptoRow.unfollowed==a1.unfollowed 5))=true:=by kernel_rfl
theorem aka:((Rows.snapshotSolutionsUptoRow.recurses==a1.recurses 5))=true:=by kernel_rfl
theorem akb:((Rows.snapshotSolutionsUptoRow.named==a1.varsNamed 5))=true:=by kernel_rfl
theorem akc:((Rows.snapshotSolutionsUptoRow.maps==(bU Tryz.f5.params++(Rows.OpenSpec.upto Rows.snapshotSolutionsSpec).bare.plain.varTypes a1).any (a1.mapsRec ·)))=true:=by kernel_rfl
theorem akd:((Rows.snapshotSolutionsUptoRow.ifaces==(bU Tryz.f5.params++(Rows.OpenSpec.upto Rows.snapshotSolutionsSpec).bare.plain.varTypes a1).any (a1.ifacesRec ·)))=true:=by kernel_rfl
theorem ake:((Rows.snapshotSolutionsUptoRow.mapsOut==a1.mapsAmong (bU Tryz.f5.resultTypes)))=true:=by kernel_rfl
theorem akf:((Rows.snapshotSolutionsUptoRow.loops==(bU Tryz.f5.params++(Rows.OpenSpec.upto Rows.snapshotSolutionsSpec).bare.plain.varTypes a1).any (a1.loopsFrom ·)))=true:=by kernel_rfl
theorem akg:((Rows.snapshotSolutionsUptoRow.wideKeys==(bU Tryz.f5.params++(Rows.OpenSpec.upto Rows.snapshotSolutionsSpec).bare.plain.varTypes a1++bU Tryz.f5.resultTypes).any (a1.wideKeysFrom ·)))=true:=by kernel_rfl
theorem akh:((Rows.OpenSpec.upto Rows.snapshotSolutionsSpec).bare.vars.all (a1.varReadable ·))=true:=by kernel_rfl
theorem aki:(Tryz.f5.resultTypes.all (λa=>a1.readableRec a&&S (a<a1.types.size)))=true:=by kernel_rfl
theorem akj:((Rows.snapshotSolutionsUptoRow.ifacesOut==(bU Tryz.f5.resultTypes).any (a1.ifacesRec ·)))=true:=by kernel_rfl
theorem akk:((Rows.snapshotSolutionsUptoRow.loopsOut==(bU Tryz.f5.resultTypes).any (a1.loopsFrom ·)))=true:=by kernel_rfl
theorem akl:((Rows.snapshotSolutionsUptoRow.plainKeys==a1.plainKeys))=true:=by kernel_rfl
theorem akm:(Rows.snapshotSolutionsUptoRow.shortTexts.isNone)=true:=by kernel_rfl
theorem akn:(a1.stopsHeard)=true:=by kernel_rfl
theorem ako:(a1.mayEnter)=true:=by kernel_rfl
theorem akp:((Rows.snapshotSolutionsUptoRow.lifted==a1.liftsFinal))=true:=by kernel_rfl
theorem akq:((a1.make==T Rows.snapshotSolutionsUptoRow.make))=true:=by kernel_rfl
theorem akr:((Rows.snapshotSolutionsUptoRow.kinds==(if Rows.snapshotSolutionsUptoRow.domain.isEmpty then[]else(bU Tryz.f5.params).map λb=>match a1.underlying b with|some (.int a)=>T a|_=>D)))=true:=by kernel_rfl
theorem aks:((Rows.snapshotSolutionsUptoRow.pinned==Rows.snapshotSolutionsUptoRow.pinnedBy))=true:=by kernel_rfl
theorem akt:((Rows.snapshotSolutionsUptoRow.veiled==(bU Tryz.f5.params++(Rows.OpenSpec.upto Rows.snapshotSolutionsSpec).bare.plain.varTypes a1++bU Tryz.f5.resultTypes).any (a1.veiledRec ·)))=true:=by kernel_rfl
theorem aku:(Rows.snapshotSolutionsUptoRow.veiledFits a1 (bU Tryz.f5.params) (bU Tryz.f5.params++(Rows.OpenSpec.upto Rows.snapshotSolutionsSpec).bare.plain.varTypes a1++bU Tryz.f5.resultTypes))=true:=by kernel_rfl
theorem akv:joinedFacts a1 5 Tryz.f5 (Rows.OpenSpec.upto Rows.snapshotSolutionsSpec).bare Rows.snapshotSolutionsUptoRow=true:=by
 unfold joinedFacts;simp only[bG];exact⟨⟨⟨⟨⟨⟨⟨⟨⟨⟨⟨⟨⟨⟨⟨⟨⟨⟨⟨⟨⟨⟨⟨⟨⟨⟨⟨⟨⟨⟨⟨ajZ,aj0⟩,aj1⟩,aj2⟩,aj3⟩,aj4⟩,aj5⟩,aj6⟩,aj7⟩,aj8⟩,aj9⟩,aka⟩,akb⟩,akc⟩,akd⟩,ake⟩,akf⟩,akg⟩,akh⟩,aki⟩,akj⟩,akk⟩,akl⟩,akm⟩,akn⟩,ako⟩,akp⟩,akq⟩,akr⟩,aks⟩,akt⟩,aku⟩
theorem akw:aa=Rows.snapshotSolutionsUptoRow.goesBy a1:=by kernel_rfl
theorem looks:ab=a1.looks []:=by kernel_rfl
theorem akx:a1.mainIs=T (ab,"2d2ec39e57c8fb797666fb7a0987c0d2c4fcd952b5bbd849cdc90b0f8fddd653".toList):=by kernel_rfl
theorem aky:Rows.snapshotSolutionsUptoRow.wfByText (Rows.OpenSpec.upto Rows.snapshotSolutionsSpec)=true:=by kernel_rfl
theorem Tl:a1.funcNamed "porism/porismlaw13.SnapshotSolutions"=T 5:=by kernel_rfl
open Go.Deep Go.ChangeShapes Go.WideShapes Go.ChangeAt Go.RowKit
theorem own:ownKnob a1.godebug=none:=by kernel_rfl
noncomputable def strs:Array Value:=(fR.map λa=>Value.string ⟨a.toArray⟩).toArray
noncomputable def J7(b:Os):World:=
 let a:=(World.settled a1 b).heap.size
 let w0:=World.holding a1 b ⟨#[Go.Obj.cells strs 9,Go.Obj.cells strs 9],#[],[]⟩
 let set(d:Array Go.Obj) (g:Nat) (c:Array Value):Array Go.Obj:=d.modify g λ
  |Go.Obj.cells _ i frozen=>Go.Obj.cells c i frozen
  |o=>o
 let e:=set w0.heap 0 #[.slice (T ⟨a,0,D⟩) 10 10]
 let f:=set e 1 strs
 let h:=set f 2 #[.slice (T ⟨a+1,0,D⟩) 10 10]
 {w0 with heap:=h}
noncomputable def Fu:Array Value:=#[.agg #[.slice D 0 0,.slice D 0 0,.slice D 0 0,.slice D 0 0],.slice D 0 0,.int .u8 0]
theorem akz(a:Os):laidMet a1 Rows.snapshotSolutionsUptoRow.laid ((J7 a).forCall (λ_ _=>0) ⟨#[],Fu,[]⟩).memory:=
 laidMet_of_run' 8 (by kernel_rfl) (by kernel_rfl)
variable{asB:Type}
theorem akA(b:Os)(a:TypeId×Value->asB):∃c,DataW.whole a a1 ((J7 b).forCall (λ_ _=>0) ⟨#[],Fu,[]⟩).memory (bU Tryz.f5.params) Rows.snapshotSolutionsSpec.vars aa (bU Fu) 8=T ([.agg [.nil,.nil,.nil,.nil],.nil,.lit (.int .u8 0)],[],c):=
 ⟨[],by kernel_rfl⟩
theorem akB(b:Os)(m:b.Started)(c:Type)(a:TypeId×Value->c)(d:Stop.Interp):
 ReturnsInHanded {} Tryz.checked b 5 .any ((Rows.OpenSpec.upto Rows.snapshotSolutionsSpec).preRow a a1 Tryz.f5 Rows.snapshotSolutionsUptoRow.domain aa Rows.snapshotSolutionsUptoRow.laid) (((Rows.OpenSpec.upto Rows.snapshotSolutionsSpec).at d).post a a1 Tryz.f5 aa ab aa aa):=by
 obtain⟨o,l⟩:=akA b a;refine returnsInHanded_of_row (C:=Tryz.checked) (s:=Rows.OpenSpec.upto Rows.snapshotSolutionsSpec) own m (by kernel_rfl) Tryz.func5
  (witness_row_atRef (enc:=a) (C:=Tryz.checked) aa (J7 b) Fu rfl (by kernel_rfl) (by kernel_rfl) (by kernel_rfl)
   (OpenSpec.preRow_of_cond 8 l (by kernel_rfl) (λn j=>by cases j;kernel_rfl) (by kernel_rfl) (akz b))) ?_
 intro W base args f gs e k h _ i _ g _ _;exact ajY c a W base args f gs e k h (i _ rfl) g
theorem akC:Rows.SnapshotSolutionsUptoSaid:=
 OpenClaim.holds_of_cond 5 Tryz.f5 rfl rfl rfl rfl rfl rfl rfl ⟨rfl,rfl,rfl,rfl,rfl⟩ rfl rfl rfl rfl rfl Tl Tryz.func5 akv
  (of_decide_eq_true (by kernel_rfl)) (by unfold Func.isWrapper;first|(rw[if_pos (by decide+kernel)];kernel_rfl)|(rw[if_neg (by decide+kernel)];exact⟨rfl,rfl⟩))
  (λd e b c _ a=>by rw[OpenClaim.pre_eq_preRow];exact akB d e b c a)
theorem aqU(b:FuncId)(fn:Func)(e:Tryz.pinned.checked.prog.funcNamed "porism/porismlaw13.SnapshotSolutions"=T b)(f:Tryz.pinned.checked.prog.funcs[b]?=T fn):
 ab=Tryz.pinned.checked.prog.looks []/\∀(d:Nat) a,fn.params[d]?=T a->Tryz.pinned.checked.prog.wantsStandIn a=false:=by
 obtain rfl:b=5:=wM (Tl.symm.trans e)|>.symm;obtain rfl:fn=Tryz.f5:=(wM (Tryz.func5.symm.trans f)).symm;refine⟨looks,λd a c=>?_⟩;rw[Tryz.params5]at c;have:a=27\/a=28\/a=5:=by simpa using Array.mem_of_getElem? c
 rcases this with rfl|rfl|rfl
 ·exact(show a1.wantsStandIn 27=aa by kernel_rfl)
 ·exact(show a1.wantsStandIn 28=aa by kernel_rfl)
 ·exact(show a1.wantsStandIn 5=aa by kernel_rfl)
theorem anu:Rows.SnapshotSolutionsUptoCardSaid:=
 Claim7.holds_tied_plain_at .later [] _ _ _ _ akC (λ_ a=>by cases a) aky (λ_ a=>by cases a) snapshotSolutionsUpto_row_tie rfl ⟨rfl,rfl⟩ akx rfl aqU akw
end AM
end Go
namespace Go.Proofs.YtmkbfepnleajhaaGreatDoor
theorem proved : Rows.SnapshotSolutionsUptoCardSaid := Go.AM.anu
end Go.Proofs.YtmkbfepnleajhaaGreatDoor
