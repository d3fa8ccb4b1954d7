/- ParseLinkages: Linkage returns the linkage of a text, or the first error, as the reference does; for every input the law returns true. The listed library variables are tied to the program text. -/
import Derived.Test.YtfilnhompchciaaGreatDoorLM7
import Derived.ProofKit
import Derived.WalkKit
import Derived.OpenShut
import Derived.Deep.DeepHandedRow
import Derived.Lib.LaidTab
import Derived.Shelf.Vars
import Derived.ChangeMaps5
set_option linter.unusedVariables false
set_option maxHeartbeats 8000000
set_option maxRecDepth 100000
namespace Go.Proofs.YtfilnhompchciaaGreatDoor
open Go Go.RowKit Bn Go.ChangeShapes Go.WideShapes Go.ChangeAt
attribute [local go_sem ↓] Go.wp_at_zero Go.wp_at_succ
theorem jY (H:Type) (enc:TypeId × Value→H) (W:World) (base:Nat) (args:Array Value) (ds gs:List (DataW H)) (before:List MemPlace)
 (hval0:∀ (j:Nat) t v,Tryz.f4.params[j]?=some t→args[j]?=some v→Value.okWide Tryz.prog W .any base t v)
 (hW:DataW.Whole enc Tryz.prog Tryz.f4.params.toList Rows.parseLinkagesSpec.vars false W args.toList ds gs before) (hL:laidMetH Tryz.prog Rows.parseLinkagesRow.laid W) (hsh:W.ShapedOpen Tryz.prog) :
 Calls Tryz.prog 4 args W fun e W'=>∃ v,e=.returned v∧Rows.parseLinkagesSpec.post enc Tryz.prog Tryz.f4 false true false false W args v W':=by
 have hval:∀ (j:Nat) t v,Tryz.f4.params[j]?=some t→args[j]?=some v→Value.okWide Tryz.prog W .any base t v:=hval0;have htab:Tab W:=qm hL;have hmx:Mx W:=oQ hsh;have hW':=hW;obtain ⟨p,q,hA0,hV,rfl,hfz,hnd⟩:=hW;have hA:DataW.TrodAll enc Tryz.prog W 0 (fun _=>true) true Tryz.f4.params.toList args.toList ds p:=hA0;rw [Tryz.params4] at hA hval;obtain ⟨v0,d0,rfl,rfl,h0⟩:=trodAll_one hA;obtain ⟨rfl,rfl⟩:=trodVars_none hV;obtain ⟨s,rfl,rfl,rfl,hs⟩:=Go.ChangeMaps.open_string Tryz.underlying9 (hval 0 _ v0 rfl rfl) h0;obtain ⟨t,rfl⟩:∃ t:List UInt8,s=⟨t.toArray⟩:=⟨s.data.toList,by simp⟩;have ht:t.length < 9223372036854775808:=by unfold maxLen at hs;have h9:t.length≤_:=hs;omega
 refine (kI W t ht htab hmx).mono fun e W' ⟨he,hb⟩=>?_
 subst he;exact ⟨_,rfl,wJ wM Tryz.underlying4 hW' rfl rfl (by kernel_rfl) rfl rfl rfl hb⟩
theorem kJ (os:Os) (started:os.Started) (H:Type) (enc:TypeId × Value→H) (F:Stop.Interp) :
 ReturnsInHanded {} Tryz.checked os 4 .any ((OpenSpec.ofChange Rows.parseLinkagesSpec).preRow enc Tryz.prog Tryz.f4 Rows.parseLinkagesRow.domain false Rows.parseLinkagesRow.laid) (((OpenSpec.ofChange Rows.parseLinkagesSpec).at F).post enc Tryz.prog Tryz.f4 false true false false):=by
 have hx:DataW.whole enc Tryz.prog ((ku os).forCall (fun _ _=>0) ⟨#[],#[.string ⟨#[]⟩],[]⟩).memory Tryz.f4.params.toList Rows.parseLinkagesSpec.vars false (#[.string ⟨#[]⟩]:Array Value).toList 8=some ([.lit (.string [])],[],[]):=by kernel_rfl
 have hl:laidMet Tryz.prog Rows.parseLinkagesRow.laid ((ku os).forCall (fun _ _=>0) ⟨#[],#[.string ⟨#[]⟩],[]⟩).memory:=laidMet_of_run' 8 (by kernel_rfl) (by kernel_rfl)
 refine returnsInHanded_of_row (C:=Tryz.checked) (s:=OpenSpec.ofChange Rows.parseLinkagesSpec) wL started (by kernel_rfl) Tryz.func4
  (witness_row_at (enc:=enc) (C:=Tryz.checked) false (ku os) #[.string ⟨#[]⟩] rfl (by kernel_rfl) (by kernel_rfl) (by kernel_rfl)
   (OpenSpec.preRow_of_cond 8 hx (by kernel_rfl) (fun k hk=>by cases hk) (by kernel_rfl) hl)) ?_
 intro W base args ds gs before hval hW _ _ _ hL hsh _;exact jY H enc W base args ds gs before hval hW hL hsh
theorem qn:(Rows.parseLinkagesRow.inPlace == Tryz.pinned.checked.prog.inPlace 4)=true:=by kernel_rfl
theorem qo:(Rows.parseLinkagesRow.unfollowed == Tryz.pinned.checked.prog.unfollowed 4)=true:=by kernel_rfl
theorem qp:(Rows.parseLinkagesRow.recurses == Tryz.pinned.checked.prog.recurses 4)=true:=by kernel_rfl
theorem qq:(Rows.parseLinkagesRow.named == Tryz.pinned.checked.prog.varsNamed 4)=true:=by kernel_rfl
theorem kK:joinedFacts Tryz.pinned.checked.prog 4 Tryz.f4 (OpenSpec.ofChange Rows.parseLinkagesSpec).bare Rows.parseLinkagesRow=true:=oO (by kernel_rfl) qn qo qp qq (by kernel_rfl)
theorem mJ:Tryz.f4.isInstance Tryz.pinned.checked.prog Rows.parseLinkagesRow.origin Rows.parseLinkagesRow.targs:=of_decide_eq_true (by kernel_rfl)
theorem mK:Rows.ParseLinkagesSaid :=
 OpenClaim.holds_of_cond 4 Tryz.f4 rfl rfl rfl rfl rfl rfl rfl ⟨rfl,rfl,rfl,rfl,rfl⟩ rfl rfl rfl rfl rfl (by kernel_rfl) Tryz.func4 kK
  mJ (by unfold Func.isWrapper;first | (rw [if_pos (by decide +kernel)];kernel_rfl) | (rw [if_neg (by decide +kernel)];exact ⟨rfl,rfl⟩))
  (fun os started H enc _ F=>by rw [OpenClaim.pre_eq_preRow];exact kJ os started H enc F)
theorem mj (f : FuncId) (fn : Func) (hf : Tryz.pinned.checked.prog.funcNamed "linkwork/linkworklaw20.ParseLinkages" = some f) (hfn : Tryz.pinned.checked.prog.funcs[f]? = some fn) :
 true=Tryz.pinned.checked.prog.looks []∧∀ (j:Nat) t,fn.params[j]?=some t→Tryz.pinned.checked.prog.wantsStandIn t=false:=by
 obtain rfl : f = 4 := Option.some.inj ((show Tryz.prog.funcNamed "linkwork/linkworklaw20.ParseLinkages" = some 4 by kernel_rfl).symm.trans hf) |>.symm
 obtain rfl:fn=Tryz.f4:=(Option.some.inj (Tryz.func4.symm.trans hfn)).symm;refine ⟨by kernel_rfl,fun j t ht=>?_⟩;rw [Tryz.params4] at ht
 have hm:t∈[9]:=by
  have:=Array.mem_of_getElem? ht;simp at this ⊢
  first
   | exact this
   | exact .inl this
 have hall:([9].all fun u=>!Tryz.prog.wantsStandIn u)=true:=by kernel_rfl
 exact (show Tryz.prog.wantsStandIn t=false by simpa using List.all_eq_true.1 hall t hm)
theorem ru:(Rows.parseLinkagesRow).wfByText (OpenSpec.ofChange Rows.parseLinkagesSpec)=true:=by kernel_rfl
theorem ry:Tryz.pinned.checked.prog.mainIs=some (Rows.parseLinkagesCard.stood.harness.1,Rows.parseLinkagesCard.stood.harness.2.toList):=by kernel_rfl
theorem rz:false=(Rows.parseLinkagesRow).goesBy Tryz.pinned.checked.prog:=by kernel_rfl
theorem linkages_holds:Rows.ParseLinkagesCardSaid :=
 Claim7.holds_tied_plain_at .later [] _ _ _ _ mK (fun _ h=>by cases h) ru (fun _ h=>by cases h) parseLinkages_row_tie rfl ⟨rfl,rfl⟩ ry rfl mj rz
end Go.Proofs.YtfilnhompchciaaGreatDoor
