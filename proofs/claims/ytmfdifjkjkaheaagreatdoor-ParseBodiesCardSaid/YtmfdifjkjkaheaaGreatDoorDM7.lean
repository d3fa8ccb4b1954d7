/- ParseBodies: Body returns the body of a text, or the first error, as the reference does; for every input the law returns true. The listed library variables are tied to the program text. -/
import Derived.Test.YtmfdifjkjkaheaaGreatDoorDM6
import Derived.Deep.RegionHeld3
import Derived.Deep.DrawnRows
import Derived.Deep.DeepCutAuto
import Derived.ProofKit
import Derived.WalkKit
import Derived.OpenShut
import Derived.Deep.DeepHandedRow
import Derived.Lib.LaidTab
import Derived.Shelf.Vars
import Derived.ChangeMaps5
set_option linter.unusedVariables false
set_option maxHeartbeats 8000000
set_option maxRecDepth 100000
namespace Go.Proofs.YtmfdifjkjkaheaaGreatDoor
open Go Go.RowKit Bn Go.ChangeShapes Go.WideShapes Go.ChangeAt
attribute [local go_sem ↓] Go.wp_at_zero Go.wp_at_succ
theorem bodies_contract (H : Type) (enc : TypeId × Value → H) (W : World) (base : Nat) (args : Array Value) (ds gs : List (DataW H)) (before : List MemPlace)
 (hval0 : ∀ (j : Nat) t v,Tryz.f5.params[j]? = some t → args[j]? = some v → Value.okWide Tryz.prog W .any base t v)
 (hW : DataW.Whole enc Tryz.prog Tryz.f5.params.toList Rows.parseBodiesSpec.vars false W args.toList ds gs before) (hL : laidMetH Tryz.prog Rows.parseBodiesRow.laid W) (hsh : W.ShapedOpen Tryz.prog) :
 Calls Tryz.prog 5 args W fun e W' => ∃ v,e = .returned v ∧ Rows.parseBodiesSpec.post enc Tryz.prog Tryz.f5 false true false false W args v W':=by
 have hval : ∀ (j : Nat) t v,Tryz.f5.params[j]? = some t → args[j]? = some v → Value.okWide Tryz.prog W .any base t v:=hval0;have htab : Tab W:=tab_of_laid hL;have hmx : Mx W:=mx_of_shaped hsh;have hW':=hW;obtain ⟨p,q,hA0,hV,rfl,hfz,hnd⟩:=hW;have hA : DataW.TrodAll enc Tryz.prog W 0 (fun _ => true) true Tryz.f5.params.toList args.toList ds p:=hA0;rw [Tryz.params5] at hA hval;obtain ⟨v0,d0,rfl,rfl,h0⟩:=trodAll_one hA;obtain ⟨rfl,rfl⟩:=trodVars_none hV;obtain ⟨s,rfl,rfl,rfl,hs⟩:=Go.ChangeMaps.open_string Tryz.underlying9 (hval 0 _ v0 rfl rfl) h0;obtain ⟨t,rfl⟩ : ∃ t : List UInt8,s = ⟨t.toArray⟩:=⟨s.data.toList,by simp⟩;have ht : t.length < 9223372036854775808:=by unfold maxLen at hs; have h9 : t.length ≤ _:=hs; omega
 refine (l_ParseBodies W t ht htab hmx).mono fun e W' ⟨he,hb⟩ => ?_
 subst he;exact ⟨_,rfl,law_post laid_out Tryz.underlying4 hW' rfl rfl (by kernel_rfl) rfl rfl rfl hb⟩
theorem bodies_lifted (os : Os) (started : os.Started) (H : Type) (enc : TypeId × Value → H) (F : Stop.Interp) :
 ReturnsInHanded {} Tryz.checked os 5 .any ((OpenSpec.ofChange Rows.parseBodiesSpec).preRow enc Tryz.prog Tryz.f5 Rows.parseBodiesRow.domain false Rows.parseBodiesRow.laid) (((OpenSpec.ofChange Rows.parseBodiesSpec).at F).post enc Tryz.prog Tryz.f5 false true false false):=by
 have hx : DataW.whole enc Tryz.prog ((laidWorld os).forCall (fun _ _ => 0) ⟨#[],#[.string ⟨#[]⟩],[]⟩).memory Tryz.f5.params.toList Rows.parseBodiesSpec.vars false (#[.string ⟨#[]⟩] : Array Value).toList 8 = some ([.lit (.string [])],[],[]):=by kernel_rfl
 have hl : laidMet Tryz.prog Rows.parseBodiesRow.laid ((laidWorld os).forCall (fun _ _ => 0) ⟨#[],#[.string ⟨#[]⟩],[]⟩).memory:=laidMet_of_run' 8 (by kernel_rfl) (by kernel_rfl)
 refine returnsInHanded_of_row (C:=Tryz.checked) (s:=OpenSpec.ofChange Rows.parseBodiesSpec) own_knob started (by kernel_rfl) Tryz.func5
  (witness_row_at (enc:=enc) (C:=Tryz.checked) false (laidWorld os) #[.string ⟨#[]⟩] rfl (by kernel_rfl) (by kernel_rfl) (by kernel_rfl)
   (OpenSpec.preRow_of_cond 8 hx (by kernel_rfl) (fun k hk => by cases hk) (by kernel_rfl) hl)) ?_
 intro W base args ds gs before hval hW _ _ _ hL hsh _;exact bodies_contract H enc W base args ds gs before hval hW hL hsh
theorem bodies_j2 : (Rows.parseBodiesRow.inPlace == Tryz.pinned.checked.prog.inPlace 5) = true:=by kernel_rfl
theorem bodies_j3 : (Rows.parseBodiesRow.unfollowed == Tryz.pinned.checked.prog.unfollowed 5) = true:=by kernel_rfl
theorem bodies_j4 : (Rows.parseBodiesRow.recurses == Tryz.pinned.checked.prog.recurses 5) = true:=by kernel_rfl
theorem bodies_j5 : (Rows.parseBodiesRow.named == Tryz.pinned.checked.prog.varsNamed 5) = true:=by kernel_rfl
theorem bodies_joined : joinedFacts Tryz.pinned.checked.prog 5 Tryz.f5 (OpenSpec.ofChange Rows.parseBodiesSpec).bare Rows.parseBodiesRow = true:=joined_parts (by kernel_rfl) bodies_j2 bodies_j3 bodies_j4 bodies_j5 (by kernel_rfl)
theorem bodies_inst : Tryz.f5.isInstance Tryz.pinned.checked.prog Rows.parseBodiesRow.origin Rows.parseBodiesRow.targs:=of_decide_eq_true (by kernel_rfl)
theorem bodies_said : Rows.ParseBodiesSaid :=
 OpenClaim.holds_of_cond 5 Tryz.f5 rfl rfl rfl rfl rfl rfl rfl ⟨rfl,rfl,rfl,rfl,rfl⟩ rfl rfl rfl rfl rfl (by kernel_rfl) Tryz.func5 bodies_joined
  bodies_inst (by unfold Func.isWrapper; first | (rw [if_pos (by decide +kernel)]; kernel_rfl) | (rw [if_neg (by decide +kernel)]; exact ⟨rfl,rfl⟩))
  (fun os started H enc _ F => by rw [OpenClaim.pre_eq_preRow]; exact bodies_lifted os started H enc F)
theorem bodies_plain (f : FuncId) (fn : Func) (hf : Tryz.pinned.checked.prog.funcNamed "linkwork/linkworklaw20.ParseBodies" = some f) (hfn : Tryz.pinned.checked.prog.funcs[f]? = some fn) :
 true = Tryz.pinned.checked.prog.looks [] ∧ ∀ (j : Nat) t,fn.params[j]? = some t → Tryz.pinned.checked.prog.wantsStandIn t = false:=by
 obtain rfl : f = 5 := Option.some.inj ((show Tryz.prog.funcNamed "linkwork/linkworklaw20.ParseBodies" = some 5 by kernel_rfl).symm.trans hf) |>.symm
 obtain rfl : fn = Tryz.f5:=(Option.some.inj (Tryz.func5.symm.trans hfn)).symm;refine ⟨by kernel_rfl,fun j t ht => ?_⟩;rw [Tryz.params5] at ht
 have hm : t ∈ [9]:=by
  have:=Array.mem_of_getElem? ht;simp at this ⊢
  first
   | exact this
   | exact .inl this
 have hall : ([9].all fun u => !Tryz.prog.wantsStandIn u) = true:=by kernel_rfl
 exact (show Tryz.prog.wantsStandIn t = false by simpa using List.all_eq_true.1 hall t hm)
theorem bodies_w : (Rows.parseBodiesRow).wfByText (OpenSpec.ofChange Rows.parseBodiesSpec) = true:=by kernel_rfl
theorem bodies_m : Tryz.pinned.checked.prog.mainIs = some (Rows.parseBodiesCard.stood.harness.1,Rows.parseBodiesCard.stood.harness.2.toList):=by kernel_rfl
theorem bodies_g : false = (Rows.parseBodiesRow).goesBy Tryz.pinned.checked.prog:=by kernel_rfl
theorem bodies_holds : Rows.ParseBodiesCardSaid :=
 Claim7.holds_tied_plain_at .later [] _ _ _ _ bodies_said (fun _ h => by cases h) bodies_w (fun _ h => by cases h) parseBodies_row_tie rfl ⟨rfl,rfl⟩ bodies_m rfl bodies_plain bodies_g
end Go.Proofs.YtmfdifjkjkaheaaGreatDoor
