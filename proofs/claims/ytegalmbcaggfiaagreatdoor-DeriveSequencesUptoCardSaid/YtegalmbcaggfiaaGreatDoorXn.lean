/- The law DeriveSequencesUptoCardSaid: part 14 of 14 of the proof. No condition. -/
import Derived.Test.YtegalmbcaggfiaaGreatDoorXm
set_option maxRecDepth 100000
open Option renaming some->aa,none->ae
open Bool renaming true->ad,false->ab
open Decidable renaming decide->y
open Array renaming toList->bI
open Go.Proofs.Tryz renaming prog->aU
open Go.Proofs.YtegalmbcaggfiaaGreatDoor.Rows renaming deriveSequencesUptoRow->iO,deriveSequencesSpec->py
open Option.some renaming inj->yY
namespace Go
namespace AM
open Go.Proofs Go.Proofs.YtegalmbcaggfiaaGreatDoor
theorem aqA:((iO).wf (OpenSpec.ofChange (Rows.OpenSpec.upto py).bare))=true:=by kernel_rfl
theorem aqB:(laidOutB aU)=true:=by kernel_rfl
theorem aqC:(mapsRowed aU)=true:=by kernel_rfl
theorem aqD:(Tryz.f4.params.all (aU.readableRec ·))=true:=by kernel_rfl
theorem aqE:(namedTie aU iO.named (Rows.OpenSpec.upto py).bare.vars)=true:=by kernel_rfl
theorem aqF:((iO.stops==[]))=true:=by kernel_rfl
theorem aqG:((aU.stops==[]))=true:=by kernel_rfl
theorem aqH:((iO.knobs==[]))=true:=by kernel_rfl
theorem aqI:((aU.stopKnobs==[]))=true:=by kernel_rfl
theorem aqJ:((iO.inPlace==aU.inPlace 4))=true:=by kernel_rfl
theorem aqK:((iO.unfollowed==aU.unfollowed 4))=true:=by kernel_rfl
theorem aqL:((iO.recurses==aU.recurses 4))=true:=by kernel_rfl
theorem aqM:((iO.named==aU.varsNamed 4))=true:=by kernel_rfl
theorem aqN:((iO.maps==(bI Tryz.f4.params++(Rows.OpenSpec.upto py).bare.plain.varTypes aU).any (aU.mapsRec ·)))=true:=by kernel_rfl
theorem aqO:((iO.ifaces==(bI Tryz.f4.params++(Rows.OpenSpec.upto py).bare.plain.varTypes aU).any (aU.ifacesRec ·)))=true:=by kernel_rfl
theorem aqP:((iO.mapsOut==aU.mapsAmong (bI Tryz.f4.resultTypes)))=true:=by kernel_rfl
theorem aqQ:((iO.loops==(bI Tryz.f4.params++(Rows.OpenSpec.upto py).bare.plain.varTypes aU).any (aU.loopsFrom ·)))=true:=by kernel_rfl
theorem aqR:((iO.wideKeys==(bI Tryz.f4.params++(Rows.OpenSpec.upto py).bare.plain.varTypes aU++bI Tryz.f4.resultTypes).any (aU.wideKeysFrom ·)))=true:=by kernel_rfl
theorem aqS:((Rows.OpenSpec.upto py).bare.vars.all (aU.varReadable ·))=true:=by kernel_rfl
theorem aqT:(Tryz.f4.resultTypes.all (λa=>aU.readableRec a&&y (a<aU.types.size)))=true:=by kernel_rfl
theorem aqU:((iO.ifacesOut==(bI Tryz.f4.resultTypes).any (aU.ifacesRec ·)))=true:=by kernel_rfl
theorem aqV:((iO.loopsOut==(bI Tryz.f4.resultTypes).any (aU.loopsFrom ·)))=true:=by kernel_rfl
theorem aqW:((iO.plainKeys==aU.plainKeys))=true:=by kernel_rfl
theorem aqX:(iO.shortTexts.isNone)=true:=by kernel_rfl
theorem aqY:(aU.stopsHeard)=true:=by kernel_rfl
theorem aqZ:(aU.mayEnter)=true:=by kernel_rfl
theorem aq0:((iO.lifted==aU.liftsFinal))=true:=by kernel_rfl
theorem aq1:((aU.make==aa iO.make))=true:=by kernel_rfl
theorem aq2:((iO.kinds==(if iO.domain.isEmpty then[]else(bI Tryz.f4.params).map λb=>match aU.underlying b with|aa (.int a)=>aa a|_=>ae)))=true:=by kernel_rfl
theorem aq3:((iO.pinned==iO.pinnedBy))=true:=by kernel_rfl
theorem aq4:((iO.veiled==(bI Tryz.f4.params++(Rows.OpenSpec.upto py).bare.plain.varTypes aU++bI Tryz.f4.resultTypes).any (aU.veiledRec ·)))=true:=by kernel_rfl
theorem aq5:(iO.veiledFits aU (bI Tryz.f4.params) (bI Tryz.f4.params++(Rows.OpenSpec.upto py).bare.plain.varTypes aU++bI Tryz.f4.resultTypes))=true:=by kernel_rfl
theorem aq6:joinedFacts aU 4 Tryz.f4 (Rows.OpenSpec.upto py).bare iO=true:=by
 unfold joinedFacts;simp only[bc];exact⟨⟨⟨⟨⟨⟨⟨⟨⟨⟨⟨⟨⟨⟨⟨⟨⟨⟨⟨⟨⟨⟨⟨⟨⟨⟨⟨⟨⟨⟨⟨aqA,aqB⟩,aqC⟩,aqD⟩,aqE⟩,aqF⟩,aqG⟩,aqH⟩,aqI⟩,aqJ⟩,aqK⟩,aqL⟩,aqM⟩,aqN⟩,aqO⟩,aqP⟩,aqQ⟩,aqR⟩,aqS⟩,aqT⟩,aqU⟩,aqV⟩,aqW⟩,aqX⟩,aqY⟩,aqZ⟩,aq0⟩,aq1⟩,aq2⟩,aq3⟩,aq4⟩,aq5⟩
theorem aq7:ab=iO.goesBy aU:=by kernel_rfl
theorem looks:ad=aU.looks []:=by kernel_rfl
theorem aq8:aU.mainIs=aa (ad,"835030653011d47d82d5f441d4469c870359bfbf743f5972ad791c336f19d122".toList):=by kernel_rfl
theorem aq9:iO.wfByText (Rows.OpenSpec.upto py)=true:=by kernel_rfl
theorem aaz:aU.funcNamed "porism/porismlaw28.DeriveSequences"=aa 4:=by kernel_rfl
open Go.Deep Go.ChangeShapes Go.WideShapes Go.ChangeAt Go.RowKit
theorem own:ownKnob aU.godebug=none:=by kernel_rfl
noncomputable def strs:Array Value:=(gJ.map λa=>Value.string ⟨a.toArray⟩).toArray
noncomputable def Oj(b:Os):World:=
 let a:=(World.settled aU b).heap.size
 let w0:=World.holding aU b ⟨#[Go.Obj.cells strs 9,Go.Obj.cells strs 9],#[],[]⟩
 let set(h:Array Go.Obj) (g:Nat) (c:Array Value):Array Go.Obj:=h.modify g λ
  |Go.Obj.cells _ i frozen=>Go.Obj.cells c i frozen
  |o=>o
 let d:=set w0.heap 1 #[.slice (aa ⟨a,0,ae⟩) 10 10]
 let e:=set d 0 strs
 let f:=set e 2 #[.slice (aa ⟨a+1,0,ae⟩) 10 10]
 {w0 with heap:=f}
noncomputable def IP:Array Value:=#[.agg #[.slice ae 0 0,.slice ae 0 0,.slice ae 0 0,.slice ae 0 0],.slice ae 0 0]
theorem ara(a:Os):laidMet aU iO.laid ((Oj a).forCall (λ_ _=>0) ⟨#[],IP,[]⟩).memory:=
 laidMet_of_run' 8 (by kernel_rfl) (by kernel_rfl)
variable{K:Type}
theorem arb(b:Os)(a:TypeId×Value->K):∃c,DataW.whole a aU ((Oj b).forCall (λ_ _=>0) ⟨#[],IP,[]⟩).memory (bI Tryz.f4.params) py.vars ab (bI IP) 8=aa ([.agg [.nil,.nil,.nil,.nil],.nil],[],c):=
 ⟨[],by kernel_rfl⟩
theorem arc(b:Os)(m:b.Started)(c:Type)(a:TypeId×Value->c)(d:Stop.Interp):
 ReturnsInHanded {} Tryz.checked b 4 .any ((Rows.OpenSpec.upto py).preRow a aU Tryz.f4 iO.domain ab iO.laid) (((Rows.OpenSpec.upto py).at d).post a aU Tryz.f4 ab ad ab ab):=by
 obtain⟨o,l⟩:=arb b a;refine returnsInHanded_of_row (C:=Tryz.checked) (s:=Rows.OpenSpec.upto py) own m (by kernel_rfl) Tryz.func4
  (witness_row_atRef (enc:=a) (C:=Tryz.checked) ab (Oj b) IP rfl (by kernel_rfl) (by kernel_rfl) (by kernel_rfl)
   (OpenSpec.preRow_of_cond 8 l (by kernel_rfl) (λn j=>by cases j;kernel_rfl) (by kernel_rfl) (ara b))) ?_
 intro W base args f gs e k h _ i _ g _ _;exact aqz c a W base args f gs e k h (i _ rfl) g
theorem ard:Rows.DeriveSequencesUptoSaid:=
 OpenClaim.holds_of_cond 4 Tryz.f4 rfl rfl rfl rfl rfl rfl rfl ⟨rfl,rfl,rfl,rfl,rfl⟩ rfl rfl rfl rfl rfl aaz Tryz.func4 aq6
  (of_decide_eq_true (by kernel_rfl)) (by unfold Func.isWrapper;first|(rw[if_pos (by decide+kernel)];kernel_rfl)|(rw[if_neg (by decide+kernel)];exact⟨rfl,rfl⟩))
  (λd e b c _ a=>by rw[OpenClaim.pre_eq_preRow];exact arc d e b c a)
theorem are(b:FuncId)(fn:Func)(e:Tryz.pinned.checked.prog.funcNamed "porism/porismlaw28.DeriveSequences"=aa b)(f:Tryz.pinned.checked.prog.funcs[b]?=aa fn):
 ad=Tryz.pinned.checked.prog.looks []/\∀(d:Nat) a,fn.params[d]?=aa a->Tryz.pinned.checked.prog.wantsStandIn a=false:=by
 obtain rfl:b=4:=yY (aaz.symm.trans e)|>.symm;obtain rfl:fn=Tryz.f4:=(yY (Tryz.func4.symm.trans f)).symm;refine⟨looks,λd a c=>?_⟩;rw[Tryz.params4]at c;have:a=27\/a=28:=by simpa using Array.mem_of_getElem? c
 rcases this with rfl|rfl;exact(show aU.wantsStandIn 27=ab by kernel_rfl);exact(show aU.wantsStandIn 28=ab by kernel_rfl)
theorem avz:Rows.DeriveSequencesUptoCardSaid:=
 Claim7.holds_tied_plain_at .later [] _ _ _ _ ard (λ_ h=>by cases h) aq9 (λ_ h=>by cases h) deriveSequencesUpto_row_tie rfl ⟨rfl,rfl⟩ aq8 rfl are aq7
end AM
end Go
namespace Go.Proofs.YtegalmbcaggfiaaGreatDoor
theorem proved : Rows.DeriveSequencesUptoCardSaid := Go.AM.avz
end Go.Proofs.YtegalmbcaggfiaaGreatDoor
