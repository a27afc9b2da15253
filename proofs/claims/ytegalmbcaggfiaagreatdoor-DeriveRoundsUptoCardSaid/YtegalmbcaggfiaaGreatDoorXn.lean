/- The law DeriveRoundsUptoCardSaid: part 14 of 14 of the proof. No condition. -/
import Derived.Test.YtegalmbcaggfiaaGreatDoorXm
set_option maxRecDepth 100000
open Option renaming some->aa,none->ae
open Bool renaming true->ad,false->ab
open Decidable renaming decide->y
open Array renaming toList->bJ
open Go.Proofs.Tryz renaming prog->aU
open Go.Proofs.YtegalmbcaggfiaaGreatDoor.Rows renaming deriveRoundsUptoRow->hY,deriveRoundsSpec->pH
open Option.some renaming inj->zc
namespace Go
namespace AM
open Go.Proofs Go.Proofs.YtegalmbcaggfiaaGreatDoor
theorem aqO:((hY).wf (OpenSpec.ofChange (Rows.OpenSpec.upto pH).bare))=true:=by kernel_rfl
theorem aqP:(laidOutB aU)=true:=by kernel_rfl
theorem aqQ:(mapsRowed aU)=true:=by kernel_rfl
theorem aqR:(Tryz.f3.params.all (aU.readableRec ·))=true:=by kernel_rfl
theorem aqS:(namedTie aU hY.named (Rows.OpenSpec.upto pH).bare.vars)=true:=by kernel_rfl
theorem aqT:((hY.stops==[]))=true:=by kernel_rfl
theorem aqU:((aU.stops==[]))=true:=by kernel_rfl
theorem aqV:((hY.knobs==[]))=true:=by kernel_rfl
theorem aqW:((aU.stopKnobs==[]))=true:=by kernel_rfl
theorem aqX:((hY.inPlace==aU.inPlace 3))=true:=by kernel_rfl
theorem aqY:((hY.unfollowed==aU.unfollowed 3))=true:=by kernel_rfl
theorem aqZ:((hY.recurses==aU.recurses 3))=true:=by kernel_rfl
theorem aq0:((hY.named==aU.varsNamed 3))=true:=by kernel_rfl
theorem aq1:((hY.maps==(bJ Tryz.f3.params++(Rows.OpenSpec.upto pH).bare.plain.varTypes aU).any (aU.mapsRec ·)))=true:=by kernel_rfl
theorem aq2:((hY.ifaces==(bJ Tryz.f3.params++(Rows.OpenSpec.upto pH).bare.plain.varTypes aU).any (aU.ifacesRec ·)))=true:=by kernel_rfl
theorem aq3:((hY.mapsOut==aU.mapsAmong (bJ Tryz.f3.resultTypes)))=true:=by kernel_rfl
theorem aq4:((hY.loops==(bJ Tryz.f3.params++(Rows.OpenSpec.upto pH).bare.plain.varTypes aU).any (aU.loopsFrom ·)))=true:=by kernel_rfl
theorem aq5:((hY.wideKeys==(bJ Tryz.f3.params++(Rows.OpenSpec.upto pH).bare.plain.varTypes aU++bJ Tryz.f3.resultTypes).any (aU.wideKeysFrom ·)))=true:=by kernel_rfl
theorem aq6:((Rows.OpenSpec.upto pH).bare.vars.all (aU.varReadable ·))=true:=by kernel_rfl
theorem aq7:(Tryz.f3.resultTypes.all (λa=>aU.readableRec a&&y (a<aU.types.size)))=true:=by kernel_rfl
theorem aq8:((hY.ifacesOut==(bJ Tryz.f3.resultTypes).any (aU.ifacesRec ·)))=true:=by kernel_rfl
theorem aq9:((hY.loopsOut==(bJ Tryz.f3.resultTypes).any (aU.loopsFrom ·)))=true:=by kernel_rfl
theorem ara:((hY.plainKeys==aU.plainKeys))=true:=by kernel_rfl
theorem arb:(hY.shortTexts.isNone)=true:=by kernel_rfl
theorem arc:(aU.stopsHeard)=true:=by kernel_rfl
theorem ard:(aU.mayEnter)=true:=by kernel_rfl
theorem are:((hY.lifted==aU.liftsFinal))=true:=by kernel_rfl
theorem arf:((aU.make==aa hY.make))=true:=by kernel_rfl
theorem arh:((hY.kinds==(if hY.domain.isEmpty then[]else(bJ Tryz.f3.params).map λb=>match aU.underlying b with|aa (.int a)=>aa a|_=>ae)))=true:=by kernel_rfl
theorem ari:((hY.pinned==hY.pinnedBy))=true:=by kernel_rfl
theorem arj:((hY.veiled==(bJ Tryz.f3.params++(Rows.OpenSpec.upto pH).bare.plain.varTypes aU++bJ Tryz.f3.resultTypes).any (aU.veiledRec ·)))=true:=by kernel_rfl
theorem ark:(hY.veiledFits aU (bJ Tryz.f3.params) (bJ Tryz.f3.params++(Rows.OpenSpec.upto pH).bare.plain.varTypes aU++bJ Tryz.f3.resultTypes))=true:=by kernel_rfl
theorem arl:joinedFacts aU 3 Tryz.f3 (Rows.OpenSpec.upto pH).bare hY=true:=by
 unfold joinedFacts;simp only[ba];exact⟨⟨⟨⟨⟨⟨⟨⟨⟨⟨⟨⟨⟨⟨⟨⟨⟨⟨⟨⟨⟨⟨⟨⟨⟨⟨⟨⟨⟨⟨⟨aqO,aqP⟩,aqQ⟩,aqR⟩,aqS⟩,aqT⟩,aqU⟩,aqV⟩,aqW⟩,aqX⟩,aqY⟩,aqZ⟩,aq0⟩,aq1⟩,aq2⟩,aq3⟩,aq4⟩,aq5⟩,aq6⟩,aq7⟩,aq8⟩,aq9⟩,ara⟩,arb⟩,arc⟩,ard⟩,are⟩,arf⟩,arh⟩,ari⟩,arj⟩,ark⟩
theorem arn:ab=hY.goesBy aU:=by kernel_rfl
theorem looks:ad=aU.looks []:=by kernel_rfl
theorem aro:aU.mainIs=aa (ad,"835030653011d47d82d5f441d4469c870359bfbf743f5972ad791c336f19d122".toList):=by kernel_rfl
theorem arp:hY.wfByText (Rows.OpenSpec.upto pH)=true:=by kernel_rfl
theorem aaH:aU.funcNamed "porism/porismlaw28.DeriveRounds"=aa 3:=by kernel_rfl
open Go.Deep Go.ChangeShapes Go.WideShapes Go.ChangeAt Go.RowKit
theorem own:ownKnob aU.godebug=none:=by kernel_rfl
noncomputable def strs:Array Value:=(gM.map λa=>Value.string ⟨a.toArray⟩).toArray
noncomputable def OE(b:Os):World:=
 let a:=(World.settled aU b).heap.size
 let w0:=World.holding aU b ⟨#[Go.Obj.cells strs 9,Go.Obj.cells strs 9],#[],[]⟩
 let set(h:Array Go.Obj) (g:Nat) (c:Array Value):Array Go.Obj:=h.modify g λ
  |Go.Obj.cells _ i frozen=>Go.Obj.cells c i frozen
  |o=>o
 let d:=set w0.heap 1 #[.slice (aa ⟨a,0,ae⟩) 10 10]
 let e:=set d 0 strs
 let f:=set e 2 #[.slice (aa ⟨a+1,0,ae⟩) 10 10]
 {w0 with heap:=f}
noncomputable def I1:Array Value:=#[.agg #[.slice ae 0 0,.slice ae 0 0,.slice ae 0 0,.slice ae 0 0],.slice ae 0 0,.int .u8 0]
theorem arq(a:Os):laidMet aU hY.laid ((OE a).forCall (λ_ _=>0) ⟨#[],I1,[]⟩).memory:=
 laidMet_of_run' 8 (by kernel_rfl) (by kernel_rfl)
variable{K:Type}
theorem ars(b:Os)(a:TypeId×Value->K):∃c,DataW.whole a aU ((OE b).forCall (λ_ _=>0) ⟨#[],I1,[]⟩).memory (bJ Tryz.f3.params) pH.vars ab (bJ I1) 8=aa ([.agg [.nil,.nil,.nil,.nil],.nil,.lit (.int .u8 0)],[],c):=
 ⟨[],by kernel_rfl⟩
theorem art(b:Os)(m:b.Started)(c:Type)(a:TypeId×Value->c)(d:Stop.Interp):
 ReturnsInHanded {} Tryz.checked b 3 .any ((Rows.OpenSpec.upto pH).preRow a aU Tryz.f3 hY.domain ab hY.laid) (((Rows.OpenSpec.upto pH).at d).post a aU Tryz.f3 ab ad ab ab):=by
 obtain⟨o,l⟩:=ars b a;refine returnsInHanded_of_row (C:=Tryz.checked) (s:=Rows.OpenSpec.upto pH) own m (by kernel_rfl) Tryz.func3
  (witness_row_atRef (enc:=a) (C:=Tryz.checked) ab (OE b) I1 rfl (by kernel_rfl) (by kernel_rfl) (by kernel_rfl)
   (OpenSpec.preRow_of_cond 8 l (by kernel_rfl) (λn j=>by cases j;kernel_rfl) (by kernel_rfl) (arq b))) ?_
 intro W base args f gs e k h _ i _ g _ _;exact aqN c a W base args f gs e k h (i _ rfl) g
theorem aru:Rows.DeriveRoundsUptoSaid:=
 OpenClaim.holds_of_cond 3 Tryz.f3 rfl rfl rfl rfl rfl rfl rfl ⟨rfl,rfl,rfl,rfl,rfl⟩ rfl rfl rfl rfl rfl aaH Tryz.func3 arl
  (of_decide_eq_true (by kernel_rfl)) (by unfold Func.isWrapper;first|(rw[if_pos (by decide+kernel)];kernel_rfl)|(rw[if_neg (by decide+kernel)];exact⟨rfl,rfl⟩))
  (λd e b c _ a=>by rw[OpenClaim.pre_eq_preRow];exact art d e b c a)
theorem arv(b:FuncId)(fn:Func)(e:Tryz.pinned.checked.prog.funcNamed "porism/porismlaw28.DeriveRounds"=aa b)(f:Tryz.pinned.checked.prog.funcs[b]?=aa fn):
 ad=Tryz.pinned.checked.prog.looks []/\∀(d:Nat) a,fn.params[d]?=aa a->Tryz.pinned.checked.prog.wantsStandIn a=false:=by
 obtain rfl:b=3:=zc (aaH.symm.trans e)|>.symm;obtain rfl:fn=Tryz.f3:=(zc (Tryz.func3.symm.trans f)).symm;refine⟨looks,λd a c=>?_⟩;rw[Tryz.params3]at c;have:a=27\/a=28\/a=5:=by simpa using Array.mem_of_getElem? c
 rcases this with rfl|rfl|rfl;exact(show aU.wantsStandIn 27=ab by kernel_rfl);exact(show aU.wantsStandIn 28=ab by kernel_rfl);exact(show aU.wantsStandIn 5=ab by kernel_rfl)
theorem avJ:Rows.DeriveRoundsUptoCardSaid:=
 Claim7.holds_tied_plain_at .later [] _ _ _ _ aru (λ_ h=>by cases h) arp (λ_ h=>by cases h) deriveRoundsUpto_row_tie rfl ⟨rfl,rfl⟩ aro rfl arv arn
end AM
end Go
namespace Go.Proofs.YtegalmbcaggfiaaGreatDoor
theorem proved : Rows.DeriveRoundsUptoCardSaid := Go.AM.avJ
end Go.Proofs.YtegalmbcaggfiaaGreatDoor
