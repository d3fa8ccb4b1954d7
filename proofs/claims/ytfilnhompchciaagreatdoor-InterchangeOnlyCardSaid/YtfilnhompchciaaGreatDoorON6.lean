/- InterchangeOnly: every text that Unpack accepts is what Pack returns for the result; for every input the law returns true. The listed library variables are tied to the program text. -/
import Derived.Test.YtfilnhompchciaaGreatDoorON5
import Derived.ProofKit
import Derived.WalkKit
import Derived.OpenShut
import Derived.Deep.DeepHandedRow
import Derived.Lib.LaidTab
import Derived.Shelf.Vars
import Derived.Deep.Slices
import Derived.SizedLaws
import Derived.Lib.TrailingZeros
import Derived.LaidLaws
import Derived.ChangeMaps5
set_option linter.unusedVariables false
set_option maxHeartbeats 8000000
set_option maxRecDepth 100000
namespace Go.Proofs.YtfilnhompchciaaGreatDoor
open Go Go.RowKit Bn Go.ChangeShapes Go.WideShapes Go.ChangeAt
attribute [local go_sem ↓] Go.wp_at_zero Go.wp_at_succ
theorem jn (H:Type) (enc:TypeId × Value→H) (W:World) (base:Nat) (args:Array Value) (ds gs:List (DataW H)) (before:List MemPlace)
 (hval0:∀ (j:Nat) t v,Tryz.f5.params[j]?=some t→args[j]?=some v→Value.okWide Tryz.prog W .any base t v)
 (hW:DataW.Whole enc Tryz.prog Tryz.f5.params.toList Rows.interchangeOnlySpec.vars false W args.toList ds gs before) (hL:laidMetH Tryz.prog Rows.interchangeOnlyRow.laid W) (hsh:W.ShapedOpen Tryz.prog) :
 Calls Tryz.prog 5 args W fun e W'=>∃ v,e=.returned v∧Rows.interchangeOnlySpec.post enc Tryz.prog Tryz.f5 false true false false W args v W':=by
 have hval:∀ (j:Nat) t v,Tryz.f5.params[j]?=some t→args[j]?=some v→Value.okWide Tryz.prog W .any base t v:=hval0;have htab:Tab W:=mf hL;have ht6:T64 W:=mg hL;have hev:Ev W:=nf hL;have hmx:Mx W:=kP hsh;have hW':=hW;obtain ⟨p,q,hA0,hV,rfl,hfz,hnd⟩:=hW;have hA:DataW.TrodAll enc Tryz.prog W 0 (fun _=>true) true Tryz.f5.params.toList args.toList ds p:=hA0;rw [Tryz.params5] at hA hval;obtain ⟨v0,d0,rfl,rfl,h0⟩:=trodAll_one hA;obtain ⟨rfl,rfl⟩:=trodVars_none hV;obtain ⟨s,rfl,rfl,rfl,hs⟩:=Go.ChangeMaps.open_string Tryz.underlying9 (hval 0 _ v0 rfl rfl) h0;obtain ⟨t,rfl⟩:∃ t:List UInt8,s=⟨t.toArray⟩:=⟨s.data.toList,by simp⟩;have ht:t.length < 9223372036854775808:=by unfold maxLen at hs;have h9:t.length≤_:=hs;omega
 refine (uM W t ht htab hmx ht6 hev).mono fun e W' ⟨he,hb⟩=>?_
 subst he;exact ⟨_,rfl,rX sd Tryz.underlying4 hW' rfl rfl (by kernel_rfl) rfl rfl rfl hb⟩
theorem mh (os:Os) (started:os.Started) (H:Type) (enc:TypeId × Value→H) (F:Stop.Interp) :
 ReturnsInHanded {} Tryz.checked os 5 .any ((OpenSpec.ofChange Rows.interchangeOnlySpec).preRow enc Tryz.prog Tryz.f5 Rows.interchangeOnlyRow.domain false Rows.interchangeOnlyRow.laid) (((OpenSpec.ofChange Rows.interchangeOnlySpec).at F).post enc Tryz.prog Tryz.f5 false true false false):=by
 have hx:DataW.whole enc Tryz.prog ((gM os).forCall (fun _ _=>0) ⟨#[],#[.string ⟨#[]⟩],[]⟩).memory Tryz.f5.params.toList Rows.interchangeOnlySpec.vars false (#[.string ⟨#[]⟩]:Array Value).toList 8=some ([.lit (.string [])],[],[]):=by kernel_rfl
 have hl:laidMet Tryz.prog Rows.interchangeOnlyRow.laid ((gM os).forCall (fun _ _=>0) ⟨#[],#[.string ⟨#[]⟩],[]⟩).memory:=laidMet_of_run' 8 (by kernel_rfl) (by kernel_rfl)
 refine returnsInHanded_of_row (C:=Tryz.checked) (s:=OpenSpec.ofChange Rows.interchangeOnlySpec) rZ started (by kernel_rfl) Tryz.func5
  (witness_row_at (enc:=enc) (C:=Tryz.checked) false (gM os) #[.string ⟨#[]⟩] rfl (by kernel_rfl) (by kernel_rfl) (by kernel_rfl)
   (OpenSpec.preRow_of_cond 8 hx (by kernel_rfl) (fun k hk=>by cases hk) (by kernel_rfl) hl)) ?_
 intro W base args ds gs before hval hW _ _ _ hL hsh _;exact jn H enc W base args ds gs before hval hW hL hsh
theorem tx:(Rows.interchangeOnlyRow.inPlace == Tryz.pinned.checked.prog.inPlace 5)=true:=by kernel_rfl
theorem tz:(Rows.interchangeOnlyRow.unfollowed == Tryz.pinned.checked.prog.unfollowed 5)=true:=by kernel_rfl
theorem tA:(Rows.interchangeOnlyRow.recurses == Tryz.pinned.checked.prog.recurses 5)=true:=by kernel_rfl
theorem tB:(Rows.interchangeOnlyRow.named == Tryz.pinned.checked.prog.varsNamed 5)=true:=by kernel_rfl
theorem mi:joinedFacts Tryz.pinned.checked.prog 5 Tryz.f5 (OpenSpec.ofChange Rows.interchangeOnlySpec).bare Rows.interchangeOnlyRow=true:=kO (by kernel_rfl) tx tz tA tB (by kernel_rfl)
theorem px:Tryz.f5.isInstance Tryz.pinned.checked.prog Rows.interchangeOnlyRow.origin Rows.interchangeOnlyRow.targs:=of_decide_eq_true (by kernel_rfl)
theorem py:Rows.InterchangeOnlySaid :=
 OpenClaim.holds_of_cond 5 Tryz.f5 rfl rfl rfl rfl rfl rfl rfl ⟨rfl,rfl,rfl,rfl,rfl⟩ rfl rfl rfl rfl rfl (by kernel_rfl) Tryz.func5 mi
  px (by unfold Func.isWrapper;first | (rw [if_pos (by decide +kernel)];kernel_rfl) | (rw [if_neg (by decide +kernel)];exact ⟨rfl,rfl⟩))
  (fun os started H enc _ F=>by rw [OpenClaim.pre_eq_preRow];exact mh os started H enc F)
theorem ng (f : FuncId) (fn : Func) (hf : Tryz.pinned.checked.prog.funcNamed "linkwork/linkworklaw59.InterchangeOnly" = some f) (hfn : Tryz.pinned.checked.prog.funcs[f]? = some fn) :
 true=Tryz.pinned.checked.prog.looks []∧∀ (j:Nat) t,fn.params[j]?=some t→Tryz.pinned.checked.prog.wantsStandIn t=false:=by
 obtain rfl : f = 5 := Option.some.inj ((show Tryz.prog.funcNamed "linkwork/linkworklaw59.InterchangeOnly" = some 5 by kernel_rfl).symm.trans hf) |>.symm
 obtain rfl:fn=Tryz.f5:=(Option.some.inj (Tryz.func5.symm.trans hfn)).symm;refine ⟨by kernel_rfl,fun j t ht=>?_⟩;rw [Tryz.params5] at ht
 have hm:t∈[9]:=by
  have:=Array.mem_of_getElem? ht;simp at this ⊢
  first
   | exact this
   | exact .inl this
 have hall:([9].all fun u=>!Tryz.prog.wantsStandIn u)=true:=by kernel_rfl
 exact (show Tryz.prog.wantsStandIn t=false by simpa using List.all_eq_true.1 hall t hm)
theorem uP:(Rows.interchangeOnlyRow).wfByText (OpenSpec.ofChange Rows.interchangeOnlySpec)=true:=by kernel_rfl
theorem uQ:Tryz.pinned.checked.prog.mainIs=some (Rows.interchangeOnlyCard.stood.harness.1,Rows.interchangeOnlyCard.stood.harness.2.toList):=by kernel_rfl
theorem uR:false=(Rows.interchangeOnlyRow).goesBy Tryz.pinned.checked.prog:=by kernel_rfl
theorem only_holds:Rows.InterchangeOnlyCardSaid :=
 Claim7.holds_tied_plain_at .later [] _ _ _ _ py (fun _ h=>by cases h) uP (fun _ h=>by cases h) interchangeOnly_row_tie rfl ⟨rfl,rfl⟩ uQ rfl ng uR
end Go.Proofs.YtfilnhompchciaaGreatDoor
