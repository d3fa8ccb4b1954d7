/- InterchangePacks: Pack returns the package of linkages, or the error, as the reference does; for every input the law returns true. The listed library variables are tied to the program text. -/
import Derived.Test.YtfilnhompchciaaGreatDoorPK5
import Derived.ChangeMaps5
set_option linter.unusedVariables false
set_option maxHeartbeats 8000000
set_option maxRecDepth 100000
namespace Go.Proofs.YtfilnhompchciaaGreatDoor
open Go Go.RowKit Bn Go.ChangeShapes Go.WideShapes Go.ChangeAt
attribute [local go_sem ↓] Go.wp_at_zero Go.wp_at_succ
theorem ir (H:Type) (enc:TypeId × Value→H) (W:World) (base:Nat) (args:Array Value) (ds gs:List (DataW H)) (before:List MemPlace)
 (hval0:∀ (j:Nat) t v,Tryz.f3.params[j]?=some t→args[j]?=some v→Value.okWide Tryz.prog W .any base t v)
 (hW:DataW.Whole enc Tryz.prog Tryz.f3.params.toList Rows.interchangePacksSpec.vars false W args.toList ds gs before) (hL:laidMetH Tryz.prog Rows.interchangePacksRow.laid W) (hwt:(DataW.weightsEach Tryz.prog (Tryz.f3.params.toList ++ (OpenSpec.ofChange Rows.interchangePacksSpec).bare.plain.varTypes Tryz.prog) (ds ++ gs)).all (·≤reachBytes)=true) :
 Calls Tryz.prog 3 args W fun e W'=>∃ v,e=.returned v∧Rows.interchangePacksSpec.post enc Tryz.prog Tryz.f3 false true false false W args v W':=by
 have hval:∀ (j:Nat) t v,Tryz.f3.params[j]?=some t→args[j]?=some v→Value.okWide Tryz.prog W .any base t v:=hval0;have htab:Tab W:=kr hL;have ht6:T64 W:=kY hL;have hW':=hW;obtain ⟨p,q,hA0,hV,rfl,hfz,hnd⟩:=hW;have hA:DataW.TrodAll enc Tryz.prog W 0 (fun _=>true) true Tryz.f3.params.toList args.toList ds p:=hA0;rw [Tryz.params3] at hA hval;obtain ⟨v0,d0,rfl,rfl,h0⟩:=trodAll_one hA;obtain ⟨rfl,rfl⟩:=trodVars_none hV;obtain ⟨A,n,c,Ls,rfl,H⟩:=lK (hval 0 _ v0 rfl rfl) h0 (sK hwt (j:=0) rfl rfl);refine (rk W A n c Ls H htab ht6).mono fun e W' ⟨he,hb⟩=>?_
 subst he;exact ⟨_,rfl,oX o0 Tryz.underlying4 hW' rfl rfl (by kernel_rfl) rfl rfl rfl hb⟩
theorem jX (os:Os) (started:os.Started) (H:Type) (enc:TypeId × Value→H) (F:Stop.Interp) :
 ReturnsInHanded {} Tryz.checked os 3 .any ((OpenSpec.ofChange Rows.interchangePacksSpec).preRow enc Tryz.prog Tryz.f3 Rows.interchangePacksRow.domain false Rows.interchangePacksRow.laid) (((OpenSpec.ofChange Rows.interchangePacksSpec).at F).post enc Tryz.prog Tryz.f3 false true false false):=by
 have hx:DataW.whole enc Tryz.prog ((fL os).forCall (fun _ _=>0) ⟨#[],#[.slice none 0 0],[]⟩).memory Tryz.f3.params.toList Rows.interchangePacksSpec.vars false (#[.slice none 0 0]:Array Value).toList 8=some ([.nil],[],[]):=by kernel_rfl
 have hl:laidMet Tryz.prog Rows.interchangePacksRow.laid ((fL os).forCall (fun _ _=>0) ⟨#[],#[.slice none 0 0],[]⟩).memory:=laidMet_of_run' 8 (by kernel_rfl) (by kernel_rfl)
 refine returnsInHanded_of_row (C:=Tryz.checked) (s:=OpenSpec.ofChange Rows.interchangePacksSpec) oZ started (by kernel_rfl) Tryz.func3
  (witness_row_at (enc:=enc) (C:=Tryz.checked) false (fL os) #[.slice none 0 0] rfl (by kernel_rfl) (by kernel_rfl) (by kernel_rfl)
   (OpenSpec.preRow_of_cond 8 hx (by kernel_rfl) (fun k hk=>by cases hk) (by kernel_rfl) hl)) ?_
 intro W base args ds gs before hval hW _ _ hwt hL hsh _;exact ir H enc W base args ds gs before hval hW hL hwt
theorem pV:(Rows.interchangePacksRow.inPlace == Tryz.pinned.checked.prog.inPlace 3)=true:=by kernel_rfl
theorem pW:(Rows.interchangePacksRow.unfollowed == Tryz.pinned.checked.prog.unfollowed 3)=true:=by kernel_rfl
theorem pX:(Rows.interchangePacksRow.recurses == Tryz.pinned.checked.prog.recurses 3)=true:=by kernel_rfl
theorem pY:(Rows.interchangePacksRow.named == Tryz.pinned.checked.prog.varsNamed 3)=true:=by kernel_rfl
theorem jY:joinedFacts Tryz.pinned.checked.prog 3 Tryz.f3 (OpenSpec.ofChange Rows.interchangePacksSpec).bare Rows.interchangePacksRow=true:=jE (by kernel_rfl) pV pW pX pY (by kernel_rfl)
theorem lL:Tryz.f3.isInstance Tryz.pinned.checked.prog Rows.interchangePacksRow.origin Rows.interchangePacksRow.targs:=of_decide_eq_true (by kernel_rfl)
theorem lM:Rows.InterchangePacksSaid :=
 OpenClaim.holds_of_cond 3 Tryz.f3 rfl rfl rfl rfl rfl rfl rfl ⟨rfl,rfl,rfl,rfl,rfl⟩ rfl rfl rfl rfl rfl (by kernel_rfl) Tryz.func3 jY
  lL (by unfold Func.isWrapper;first | (rw [if_pos (by decide +kernel)];kernel_rfl) | (rw [if_neg (by decide +kernel)];exact ⟨rfl,rfl⟩))
  (fun os started H enc _ F=>by rw [OpenClaim.pre_eq_preRow];exact jX os started H enc F)
theorem k7 (f : FuncId) (fn : Func) (hf : Tryz.pinned.checked.prog.funcNamed "linkwork/linkworklaw59.InterchangePacks" = some f) (hfn : Tryz.pinned.checked.prog.funcs[f]? = some fn) :
 true=Tryz.pinned.checked.prog.looks []∧∀ (j:Nat) t,fn.params[j]?=some t→Tryz.pinned.checked.prog.wantsStandIn t=false:=by
 obtain rfl : f = 3 := Option.some.inj ((show Tryz.prog.funcNamed "linkwork/linkworklaw59.InterchangePacks" = some 3 by kernel_rfl).symm.trans hf) |>.symm
 obtain rfl:fn=Tryz.f3:=(Option.some.inj (Tryz.func3.symm.trans hfn)).symm;refine ⟨by kernel_rfl,fun j t ht=>?_⟩;rw [Tryz.params3] at ht
 have hm:t∈[22]:=by
  have:=Array.mem_of_getElem? ht;simp at this ⊢
  first
   | exact this
   | exact .inl this
 have hall:([22].all fun u=>!Tryz.prog.wantsStandIn u)=true:=by kernel_rfl
 exact (show Tryz.prog.wantsStandIn t=false by simpa using List.all_eq_true.1 hall t hm)
theorem rl:(Rows.interchangePacksRow).wfByText (OpenSpec.ofChange Rows.interchangePacksSpec)=true:=by kernel_rfl
theorem rm:Tryz.pinned.checked.prog.mainIs=some (Rows.interchangePacksCard.stood.harness.1,Rows.interchangePacksCard.stood.harness.2.toList):=by kernel_rfl
theorem rn:false=(Rows.interchangePacksRow).goesBy Tryz.pinned.checked.prog:=by kernel_rfl
theorem packs_holds:Rows.InterchangePacksCardSaid :=
 Claim7.holds_tied_plain_at .later [] _ _ _ _ lM (fun _ h=>by cases h) rl (fun _ h=>by cases h) interchangePacks_row_tie rfl ⟨rfl,rfl⟩ rm rfl k7 rn
end Go.Proofs.YtfilnhompchciaaGreatDoor
