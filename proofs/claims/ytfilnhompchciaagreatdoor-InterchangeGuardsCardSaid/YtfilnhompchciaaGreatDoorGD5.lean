/- InterchangeGuards: a package of which one byte of a linkage's text is changed is refused; for every input the law returns true. The listed library variables are tied to the program text. -/
import Derived.Test.YtfilnhompchciaaGreatDoorGD4
import Derived.Deep.RegionHeld3
import Derived.Deep.DrawnRows
import Derived.ProofKit
import Derived.WalkKit
import Derived.OpenShut
import Derived.Deep.DeepHandedRow
import Derived.Lib.LaidTab
import Derived.Shelf.Vars
import Derived.Deep.Slices
import Derived.SizedLaws
import Derived.BigQuiet
import Derived.Lib.TrailingZeros
import Derived.ChangeMaps5
set_option linter.unusedVariables false
set_option maxHeartbeats 8000000
set_option maxRecDepth 100000
namespace Go.Proofs.YtfilnhompchciaaGreatDoor
open Go Go.RowKit Bn Go.ChangeShapes Go.WideShapes Go.ChangeAt
attribute [local go_sem ↓] Go.wp_at_zero Go.wp_at_succ
theorem fT (H:Type) (enc:TypeId × Value→H) (W:World) (base:Nat) (args:Array Value) (ds gs:List (DataW H)) (before:List MemPlace)
 (hval0:∀ (j:Nat) t v,Tryz.f6.params[j]?=some t→args[j]?=some v→Value.okWide Tryz.prog W .any base t v)
 (hW:DataW.Whole enc Tryz.prog Tryz.f6.params.toList Rows.interchangeGuardsSpec.vars false W args.toList ds gs before) (hL:laidMetH Tryz.prog Rows.interchangeGuardsRow.laid W) (hwt:(DataW.weightsEach Tryz.prog (Tryz.f6.params.toList ++ (OpenSpec.ofChange Rows.interchangeGuardsSpec).bare.plain.varTypes Tryz.prog) (ds ++ gs)).all (·≤reachBytes)=true) (hsh:W.ShapedOpen Tryz.prog) :
 Calls Tryz.prog 6 args W fun e W'=>∃ v,e=.returned v∧Rows.interchangeGuardsSpec.post enc Tryz.prog Tryz.f6 false true false false W args v W':=by
 have hval:∀ (j:Nat) t v,Tryz.f6.params[j]?=some t→args[j]?=some v→Value.okWide Tryz.prog W .any base t v:=hval0;have htab:Tab W:=ld hL;have ht6:T64 W:=li hL;have hmx:Mx W:=j5 hsh;have hW':=hW;obtain ⟨p,q,hA0,hV,rfl,hfz,hnd⟩:=hW;have hA:DataW.TrodAll enc Tryz.prog W 0 (fun _=>true) true Tryz.f6.params.toList args.toList ds p:=hA0;rw [Tryz.params6] at hA hval;obtain ⟨v0,v1,v2,d0,d1,d2,p0,p1,p2,rfl,rfl,rfl,h0,h1,h2⟩:=trodAll_three hA;obtain ⟨rfl,rfl⟩:=trodVars_none hV;obtain ⟨A,n,c,B,p,d,C,q,e,L,rfl,H⟩:=nW (hval 0 _ v0 rfl rfl) h0 (tz hwt (j:=0) rfl rfl);obtain ⟨xu16,rfl,rfl,rfl,hxu16⟩:=open_int Tryz.underlying45 (hval 1 _ v1 rfl rfl) h1;obtain ⟨x,rfl,rfl,rfl,hx⟩:=open_int Tryz.underlying5 (hval 2 _ v2 rfl rfl) h2;refine (qD W A n c B p d C q e L H xu16 (uu hxu16) x (uS hx) htab hmx ht6).mono fun e W' ⟨he,hb⟩=>?_
 subst he;exact ⟨_,rfl,p8 qj Tryz.underlying4 hW' rfl rfl (by kernel_rfl) rfl rfl rfl hb⟩
theorem iA (os:Os) (started:os.Started) (H:Type) (enc:TypeId × Value→H) (F:Stop.Interp) :
 ReturnsInHanded {} Tryz.checked os 6 .any ((OpenSpec.ofChange Rows.interchangeGuardsSpec).preRow enc Tryz.prog Tryz.f6 Rows.interchangeGuardsRow.domain false Rows.interchangeGuardsRow.laid) (((OpenSpec.ofChange Rows.interchangeGuardsSpec).at F).post enc Tryz.prog Tryz.f6 false true false false):=by
 have hx:DataW.whole enc Tryz.prog ((fJ os).forCall (fun _ _=>0) ⟨#[],#[.agg #[.string ⟨#[]⟩,.slice none 0 0,.slice none 0 0,.slice none 0 0],.int .u16 0,.int .u8 0],[]⟩).memory Tryz.f6.params.toList Rows.interchangeGuardsSpec.vars false (#[.agg #[.string ⟨#[]⟩,.slice none 0 0,.slice none 0 0,.slice none 0 0],.int .u16 0,.int .u8 0]:Array Value).toList 8=some ([.agg [.lit (.string []),.nil,.nil,.nil],.lit (.int .u16 0),.lit (.int .u8 0)],[],[]):=by kernel_rfl
 have hl:laidMet Tryz.prog Rows.interchangeGuardsRow.laid ((fJ os).forCall (fun _ _=>0) ⟨#[],#[.agg #[.string ⟨#[]⟩,.slice none 0 0,.slice none 0 0,.slice none 0 0],.int .u16 0,.int .u8 0],[]⟩).memory:=laidMet_of_run' 8 (by kernel_rfl) (by kernel_rfl)
 refine returnsInHanded_of_row (C:=Tryz.checked) (s:=OpenSpec.ofChange Rows.interchangeGuardsSpec) qi started (by kernel_rfl) Tryz.func6
  (witness_row_at (enc:=enc) (C:=Tryz.checked) false (fJ os) #[.agg #[.string ⟨#[]⟩,.slice none 0 0,.slice none 0 0,.slice none 0 0],.int .u16 0,.int .u8 0] rfl (by kernel_rfl) (by kernel_rfl) (by kernel_rfl)
   (OpenSpec.preRow_of_cond 8 hx (by kernel_rfl) (fun k hk=>by cases hk) (by kernel_rfl) hl)) ?_
 intro W base args ds gs before hval hW _ _ hwt hL hsh _;exact fT H enc W base args ds gs before hval hW hL hwt hsh
theorem oc:(Rows.interchangeGuardsRow.inPlace == Tryz.pinned.checked.prog.inPlace 6)=true:=by kernel_rfl
theorem od:(Rows.interchangeGuardsRow.unfollowed == Tryz.pinned.checked.prog.unfollowed 6)=true:=by kernel_rfl
theorem oe:(Rows.interchangeGuardsRow.recurses == Tryz.pinned.checked.prog.recurses 6)=true:=by kernel_rfl
theorem og:(Rows.interchangeGuardsRow.named == Tryz.pinned.checked.prog.varsNamed 6)=true:=by kernel_rfl
theorem iB:joinedFacts Tryz.pinned.checked.prog 6 Tryz.f6 (OpenSpec.ofChange Rows.interchangeGuardsSpec).bare Rows.interchangeGuardsRow=true:=j0 (by kernel_rfl) oc od oe og (by kernel_rfl)
theorem ll:Tryz.f6.isInstance Tryz.pinned.checked.prog Rows.interchangeGuardsRow.origin Rows.interchangeGuardsRow.targs:=of_decide_eq_true (by kernel_rfl)
theorem lm:Rows.InterchangeGuardsSaid :=
 OpenClaim.holds_of_cond 6 Tryz.f6 rfl rfl rfl rfl rfl rfl rfl ⟨rfl,rfl,rfl,rfl,rfl⟩ rfl rfl rfl rfl rfl (by kernel_rfl) Tryz.func6 iB
  ll (by unfold Func.isWrapper;first | (rw [if_pos (by decide +kernel)];kernel_rfl) | (rw [if_neg (by decide +kernel)];exact ⟨rfl,rfl⟩))
  (fun os started H enc _ F=>by rw [OpenClaim.pre_eq_preRow];exact iA os started H enc F)
theorem j7 (f : FuncId) (fn : Func) (hf : Tryz.pinned.checked.prog.funcNamed "linkwork/linkworklaw59.InterchangeGuards" = some f) (hfn : Tryz.pinned.checked.prog.funcs[f]? = some fn) :
 true=Tryz.pinned.checked.prog.looks []∧∀ (j:Nat) t,fn.params[j]?=some t→Tryz.pinned.checked.prog.wantsStandIn t=false:=by
 obtain rfl : f = 6 := Option.some.inj ((show Tryz.prog.funcNamed "linkwork/linkworklaw59.InterchangeGuards" = some 6 by kernel_rfl).symm.trans hf) |>.symm
 obtain rfl:fn=Tryz.f6:=(Option.some.inj (Tryz.func6.symm.trans hfn)).symm;refine ⟨by kernel_rfl,fun j t ht=>?_⟩;rw [Tryz.params6] at ht
 have hm:t∈[36,45,5]:=by
  have:=Array.mem_of_getElem? ht;simp at this ⊢
  first
   | exact this
   | exact .inl this
 have hall:([36,45,5].all fun u=>!Tryz.prog.wantsStandIn u)=true:=by kernel_rfl
 exact (show Tryz.prog.wantsStandIn t=false by simpa using List.all_eq_true.1 hall t hm)
theorem qE:(Rows.interchangeGuardsRow).wfByText (OpenSpec.ofChange Rows.interchangeGuardsSpec)=true:=by kernel_rfl
theorem qF:Tryz.pinned.checked.prog.mainIs=some (Rows.interchangeGuardsCard.stood.harness.1,Rows.interchangeGuardsCard.stood.harness.2.toList):=by kernel_rfl
theorem qG:false=(Rows.interchangeGuardsRow).goesBy Tryz.pinned.checked.prog:=by kernel_rfl
theorem guards_holds:Rows.InterchangeGuardsCardSaid :=
 Claim7.holds_tied_plain_at .later [] _ _ _ _ lm (fun _ h=>by cases h) qE (fun _ h=>by cases h) interchangeGuards_row_tie rfl ⟨rfl,rfl⟩ qF rfl j7 qG
end Go.Proofs.YtfilnhompchciaaGreatDoor
