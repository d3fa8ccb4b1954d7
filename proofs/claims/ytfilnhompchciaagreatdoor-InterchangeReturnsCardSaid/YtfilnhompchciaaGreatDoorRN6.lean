/- InterchangeReturns: what Pack returns is unpacked to the same linkages, and Count says how many they are; for every input the law returns true. The listed library variables are tied to the program text. -/
import Derived.Test.YtfilnhompchciaaGreatDoorRN5
import Derived.Deep.RegionHeld3
import Derived.Deep.DrawnRows
import Derived.Laws.StructEq
import Derived.ProofKit
import Derived.WalkKit
import Derived.OpenShut
import Derived.Deep.DeepHandedRow
import Derived.Lib.LaidTab
import Derived.Shelf.Vars
import Derived.Deep.Slices
import Derived.SizedLaws
import Derived.Lib.TrailingZeros
import Derived.ChangeMaps5
set_option linter.unusedVariables false
set_option maxHeartbeats 8000000
set_option maxRecDepth 100000
namespace Go.Proofs.YtfilnhompchciaaGreatDoor
open Go Go.RowKit Bn Go.ChangeShapes Go.WideShapes Go.ChangeAt
attribute [local go_sem ↓] Go.wp_at_zero Go.wp_at_succ
theorem iK (H:Type) (enc:TypeId × Value→H) (W:World) (base:Nat) (args:Array Value) (ds gs:List (DataW H)) (before:List MemPlace)
 (hval0:∀ (j:Nat) t v,Tryz.f8.params[j]?=some t→args[j]?=some v→Value.okWide Tryz.prog W .any base t v)
 (hW:DataW.Whole enc Tryz.prog Tryz.f8.params.toList Rows.interchangeReturnsSpec.vars false W args.toList ds gs before) (hL:laidMetH Tryz.prog Rows.interchangeReturnsRow.laid W) (hwt:(DataW.weightsEach Tryz.prog (Tryz.f8.params.toList ++ (OpenSpec.ofChange Rows.interchangeReturnsSpec).bare.plain.varTypes Tryz.prog) (ds ++ gs)).all (·≤reachBytes)=true) (hsh:W.ShapedOpen Tryz.prog) :
 Calls Tryz.prog 8 args W fun e W'=>∃ v,e=.returned v∧Rows.interchangeReturnsSpec.post enc Tryz.prog Tryz.f8 false true false false W args v W':=by
 have hval:∀ (j:Nat) t v,Tryz.f8.params[j]?=some t→args[j]?=some v→Value.okWide Tryz.prog W .any base t v:=hval0;have htab:Tab W:=nY hL;have ht6:T64 W:=oc hL;have hmx:Mx W:=mm hsh;have hW':=hW;obtain ⟨p,q,hA0,hV,rfl,hfz,hnd⟩:=hW;have hA:DataW.TrodAll enc Tryz.prog W 0 (fun _=>true) true Tryz.f8.params.toList args.toList ds p:=hA0;rw [Tryz.params8] at hA hval;obtain ⟨v0,d0,rfl,rfl,h0⟩:=trodAll_one hA;obtain ⟨rfl,rfl⟩:=trodVars_none hV;obtain ⟨A,n,c,Ls,rfl,H⟩:=pr (hval 0 _ v0 rfl rfl) h0 (xM hwt (j:=0) rfl rfl);refine (rP W A n c Ls H htab hmx ht6).mono fun e W' ⟨he,hb⟩=>?_
 subst he;exact ⟨_,rfl,ux uA Tryz.underlying4 hW' rfl rfl (by kernel_rfl) rfl rfl rfl hb⟩
theorem ka (os:Os) (started:os.Started) (H:Type) (enc:TypeId × Value→H) (F:Stop.Interp) :
 ReturnsInHanded {} Tryz.checked os 8 .any ((OpenSpec.ofChange Rows.interchangeReturnsSpec).preRow enc Tryz.prog Tryz.f8 Rows.interchangeReturnsRow.domain false Rows.interchangeReturnsRow.laid) (((OpenSpec.ofChange Rows.interchangeReturnsSpec).at F).post enc Tryz.prog Tryz.f8 false true false false):=by
 have hx:DataW.whole enc Tryz.prog ((iJ os).forCall (fun _ _=>0) ⟨#[],#[.slice none 0 0],[]⟩).memory Tryz.f8.params.toList Rows.interchangeReturnsSpec.vars false (#[.slice none 0 0]:Array Value).toList 8=some ([.nil],[],[]):=by kernel_rfl
 have hl:laidMet Tryz.prog Rows.interchangeReturnsRow.laid ((iJ os).forCall (fun _ _=>0) ⟨#[],#[.slice none 0 0],[]⟩).memory:=laidMet_of_run' 8 (by kernel_rfl) (by kernel_rfl)
 refine returnsInHanded_of_row (C:=Tryz.checked) (s:=OpenSpec.ofChange Rows.interchangeReturnsSpec) uz started (by kernel_rfl) Tryz.func8
  (witness_row_at (enc:=enc) (C:=Tryz.checked) false (iJ os) #[.slice none 0 0] rfl (by kernel_rfl) (by kernel_rfl) (by kernel_rfl)
   (OpenSpec.preRow_of_cond 8 hx (by kernel_rfl) (fun k hk=>by cases hk) (by kernel_rfl) hl)) ?_
 intro W base args ds gs before hval hW _ _ hwt hL hsh _;exact iK H enc W base args ds gs before hval hW hL hwt hsh
theorem pt:(Rows.interchangeReturnsRow.inPlace == Tryz.pinned.checked.prog.inPlace 8)=true:=by kernel_rfl
theorem pu:(Rows.interchangeReturnsRow.unfollowed == Tryz.pinned.checked.prog.unfollowed 8)=true:=by kernel_rfl
theorem pw:(Rows.interchangeReturnsRow.recurses == Tryz.pinned.checked.prog.recurses 8)=true:=by kernel_rfl
theorem px:(Rows.interchangeReturnsRow.named == Tryz.pinned.checked.prog.varsNamed 8)=true:=by kernel_rfl
theorem kb:joinedFacts Tryz.pinned.checked.prog 8 Tryz.f8 (OpenSpec.ofChange Rows.interchangeReturnsSpec).bare Rows.interchangeReturnsRow=true:=ml (by kernel_rfl) pt pu pw px (by kernel_rfl)
theorem mn:Tryz.f8.isInstance Tryz.pinned.checked.prog Rows.interchangeReturnsRow.origin Rows.interchangeReturnsRow.targs:=of_decide_eq_true (by kernel_rfl)
theorem mo:Rows.InterchangeReturnsSaid :=
 OpenClaim.holds_of_cond 8 Tryz.f8 rfl rfl rfl rfl rfl rfl rfl ⟨rfl,rfl,rfl,rfl,rfl⟩ rfl rfl rfl rfl rfl (by kernel_rfl) Tryz.func8 kb
  mn (by unfold Func.isWrapper;first | (rw [if_pos (by decide +kernel)];kernel_rfl) | (rw [if_neg (by decide +kernel)];exact ⟨rfl,rfl⟩))
  (fun os started H enc _ F=>by rw [OpenClaim.pre_eq_preRow];exact ka os started H enc F)
theorem ky (f : FuncId) (fn : Func) (hf : Tryz.pinned.checked.prog.funcNamed "linkwork/linkworklaw59.InterchangeReturns" = some f) (hfn : Tryz.pinned.checked.prog.funcs[f]? = some fn) :
 true=Tryz.pinned.checked.prog.looks []∧∀ (j:Nat) t,fn.params[j]?=some t→Tryz.pinned.checked.prog.wantsStandIn t=false:=by
 obtain rfl : f = 8 := Option.some.inj ((show Tryz.prog.funcNamed "linkwork/linkworklaw59.InterchangeReturns" = some 8 by kernel_rfl).symm.trans hf) |>.symm
 obtain rfl:fn=Tryz.f8:=(Option.some.inj (Tryz.func8.symm.trans hfn)).symm;refine ⟨by kernel_rfl,fun j t ht=>?_⟩;rw [Tryz.params8] at ht
 have hm:t∈[22]:=by
  have:=Array.mem_of_getElem? ht;simp at this ⊢
  first
   | exact this
   | exact .inl this
 have hall:([22].all fun u=>!Tryz.prog.wantsStandIn u)=true:=by kernel_rfl
 exact (show Tryz.prog.wantsStandIn t=false by simpa using List.all_eq_true.1 hall t hm)
theorem rX:(Rows.interchangeReturnsRow).wfByText (OpenSpec.ofChange Rows.interchangeReturnsSpec)=true:=by kernel_rfl
theorem rY:Tryz.pinned.checked.prog.mainIs=some (Rows.interchangeReturnsCard.stood.harness.1,Rows.interchangeReturnsCard.stood.harness.2.toList):=by kernel_rfl
theorem rZ:false=(Rows.interchangeReturnsRow).goesBy Tryz.pinned.checked.prog:=by kernel_rfl
theorem returns_holds:Rows.InterchangeReturnsCardSaid :=
 Claim7.holds_tied_plain_at .later [] _ _ _ _ mo (fun _ h=>by cases h) rX (fun _ h=>by cases h) interchangeReturns_row_tie rfl ⟨rfl,rfl⟩ rY rfl ky rZ
end Go.Proofs.YtfilnhompchciaaGreatDoor
