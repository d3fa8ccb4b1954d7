/- EditBack: undone to the beginning the linkage is the first one, done again to the end it is what it was; for every input the law returns true. The listed library variables are tied to the program text. -/
import Derived.Test.YtndhgcfajlalhaaGreatDoorKQ1
import Derived.Below
import Derived.Laws.OwnMore
import Derived.Deep.Draws
import Derived.OneCell
import Derived.Laws.Rows
import Derived.WalkKit
import Derived.WalkSpells
import Derived.WalkLawsBesides
import Derived.BigQuiet
import Derived.Deep.QuietTactic
import Derived.Deep.AppendLies
import Derived.Lib.Hide
import Derived.Deep.RegionHeld3
import Derived.Deep.DrawnRows
import Derived.Shelf.Strings.Builder1
import Derived.Shelf.Strings.Builder2
import Derived.Shelf.Strings.OnBuilder
import Derived.Shelf.Strings.Trim
import Derived.Shelf.Small.Utf8
import Derived.Shelf.Small.Bits
import Derived.Shelf.Small.Strs
import Derived.Shelf.Small.Wraps
import Derived.Shelf.Strings.BuilderF
import Derived.Shelf.Strings.BuilderK
import Derived.Shelf.Strings.Builder2Cap
import Derived.Shelf.Strconv.Atoi
import Derived.Shelf.Strconv.Itoa0
import Derived.Shelf.Strconv.Itoa1
import Derived.Shelf.LaysM
import Derived.Shelf.Strconv.Itoa2
import Derived.Shelf.Strconv.Itoa3
import Derived.Shelf.Strings.Search1
import Derived.Shelf.Strings.Search2
import Derived.Shelf.Strings.Cut
import Derived.Shelf.Strings.Shaped
import Derived.Shelf.Strings.Prefix
import Derived.Shelf.Strings.Runes
import Derived.Shelf.Strings.AsciiSet
import Derived.Shelf.Bits.Mul64
import Derived.Shelf.Strings.Repeat
import Derived.Shelf.Unicode.DecodeSlow
import Derived.Shelf.Strings.BuilderCap
import Derived.IntWalk
import Derived.Deep.DeepCutAuto
import Derived.Deep.RegionHeld
import Derived.Lib.ItoaNum
import Derived.Lib.ItoaMem
import Derived.Lib.Repeat
import Derived.Lib.Join
import Derived.Lib.Atoi
import Derived.Lib.SlTrimSet
import Derived.Lib.AppendIntMem
import Derived.Shelf.Strings.SlTrimAscii
import Derived.Lib.IndexMore
import Derived.Lib.SliceRun
import Derived.Deep.RegionLaw
import Derived.Laws.StructEq
import Derived.ProofKit
import Derived.OpenShut
import Derived.Deep.DeepHandedRow
import Derived.Lib.LaidTab
import Derived.Shelf.Vars
import Derived.Deep.Slices
import Derived.SizedLaws
import Derived.ChangeMaps5
set_option linter.unusedVariables false
set_option maxHeartbeats 8000000
set_option maxRecDepth 100000
namespace Go.Proofs.YtndhgcfajlalhaaGreatDoor
open Go Go.RowKit Bn Go.ChangeShapes Go.WideShapes Go.ChangeAt
attribute [local go_sem ↓] Go.wp_at_zero Go.wp_at_succ
theorem ox (H:Type) (enc:TypeId × Value->H) (W:World) (base:Nat) (args:Array Value) (k s:List (DataW H)) (before:List MemPlace)
 (b:∀ (j:Nat) t v,Tryz.f5.params[j]?=some t->args[j]?=some v->Value.okWide Tryz.prog W .any base t v)
 (r:DataW.Whole enc Tryz.prog Tryz.f5.params.toList Rows.editBackSpec.vars false W args.toList k s before) (D:laidMetH Tryz.prog Rows.editBackRow.laid W) (g:(DataW.weightsEach Tryz.prog (Tryz.f5.params.toList++(OpenSpec.ofChange Rows.editBackSpec).bare.plain.varTypes Tryz.prog) (k++s)).all (·<=reachBytes)=true) (m:W.ShapedOpen Tryz.prog) :
 Calls Tryz.prog 5 args W fun e w=>∃ v,e=.returned v/\Rows.editBackSpec.post enc Tryz.prog Tryz.f5 false true false false W args v w:=by
 have a:∀ (j:Nat) t v,Tryz.f5.params[j]?=some t->args[j]?=some v->Value.okWide Tryz.prog W .any base t v:=b;have f:Tab W:=iK D;have i:Mx W:=gL m;have l:=r;obtain ⟨p,q,h,M,rfl,K,F⟩:=r;have u:DataW.TrodAll enc Tryz.prog W 0 (fun _=>true) true Tryz.f5.params.toList args.toList k p:=h;rw [Tryz.params5] at u a;obtain ⟨J,z,d0,d1,p0,p1,rfl,rfl,rfl,x,y⟩:=trodAll_two u;obtain ⟨rfl,rfl⟩:=trodVars_none M;obtain ⟨A,n,c,B,p,d,C,q,e,L,rfl,H⟩:=ly (a 0 _ J rfl rfl) x (lx g (j:=0) rfl rfl);obtain ⟨N,E,sc,sl,rfl,G,o⟩:=uz (a 1 _ z rfl rfl) y (lx g (j:=1) rfl rfl);refine (uB W A n c B p d C q e L H N E sc sl G o f i).mono fun e w ⟨I,hb⟩=>?_
 subst I;exact ⟨_,rfl,nI nK Tryz.underlying4 l rfl rfl (by kernel_rfl) rfl rfl rfl hb⟩
theorem tc (os:Os) (started:os.Started) (H:Type) (enc:TypeId × Value->H) (F:Stop.Interp) :
 ReturnsInHanded {} Tryz.checked os 5 .any ((OpenSpec.ofChange Rows.editBackSpec).preRow enc Tryz.prog Tryz.f5 Rows.editBackRow.domain false Rows.editBackRow.laid) (((OpenSpec.ofChange Rows.editBackSpec).at F).post enc Tryz.prog Tryz.f5 false true false false):=by
 have f:DataW.whole enc Tryz.prog ((cU os).forCall (fun _ _=>0) ⟨#[],#[.agg #[.string ⟨#[]⟩,.slice none 0 0,.slice none 0 0,.slice none 0 0],.slice none 0 0],[]⟩).memory Tryz.f5.params.toList Rows.editBackSpec.vars false (#[.agg #[.string ⟨#[]⟩,.slice none 0 0,.slice none 0 0,.slice none 0 0],.slice none 0 0]:Array Value).toList 8=some ([.agg [.lit (.string []),.nil,.nil,.nil],.nil],[],[]):=by kernel_rfl
 have d:laidMet Tryz.prog Rows.editBackRow.laid ((cU os).forCall (fun _ _=>0) ⟨#[],#[.agg #[.string ⟨#[]⟩,.slice none 0 0,.slice none 0 0,.slice none 0 0],.slice none 0 0],[]⟩).memory:=laidMet_of_run' 8 (by kernel_rfl) (by kernel_rfl)
 refine returnsInHanded_of_row (C:=Tryz.checked) (s:=OpenSpec.ofChange Rows.editBackSpec) nJ started (by kernel_rfl) Tryz.func5
  (witness_row_at (enc:=enc) (C:=Tryz.checked) false (cU os) #[.agg #[.string ⟨#[]⟩,.slice none 0 0,.slice none 0 0,.slice none 0 0],.slice none 0 0] rfl (by kernel_rfl) (by kernel_rfl) (by kernel_rfl)
   (OpenSpec.preRow_of_cond 8 f (by kernel_rfl) (fun k g=>by cases g) (by kernel_rfl) d)) ?_
 intro W base args j i before a h _ _ b l c _;exact ox H enc W base args j i before a h l b c
theorem CL:(Rows.editBackRow.inPlace==Tryz.pinned.checked.prog.inPlace 5)=true:=by kernel_rfl
theorem CM:(Rows.editBackRow.unfollowed==Tryz.pinned.checked.prog.unfollowed 5)=true:=by kernel_rfl
theorem CN:(Rows.editBackRow.recurses==Tryz.pinned.checked.prog.recurses 5)=true:=by kernel_rfl
theorem CO:(Rows.editBackRow.named==Tryz.pinned.checked.prog.varsNamed 5)=true:=by kernel_rfl
theorem te:joinedFacts Tryz.pinned.checked.prog 5 Tryz.f5 (OpenSpec.ofChange Rows.editBackSpec).bare Rows.editBackRow=true:=gK (by kernel_rfl) CL CM CN CO (by kernel_rfl)
theorem xY:Tryz.f5.isInstance Tryz.pinned.checked.prog Rows.editBackRow.origin Rows.editBackRow.targs:=of_decide_eq_true (by kernel_rfl)
theorem xZ:Rows.EditBackSaid :=
 OpenClaim.holds_of_cond 5 Tryz.f5 rfl rfl rfl rfl rfl rfl rfl ⟨rfl,rfl,rfl,rfl,rfl⟩ rfl rfl rfl rfl rfl (by kernel_rfl) Tryz.func5 te
  xY (by unfold Func.isWrapper;first | (rw [if_pos (by decide +kernel)];kernel_rfl) | (rw [if_neg (by decide +kernel)];exact ⟨rfl,rfl⟩))
  (fun os started H enc _ F=>by rw [OpenClaim.pre_eq_preRow];exact tc os started H enc F)
theorem uC (f : FuncId) (fn : Func) (g : Tryz.pinned.checked.prog.funcNamed "linkwork/linkworklaw57.EditBack" = some f) (b : Tryz.pinned.checked.prog.funcs[f]? = some fn) :
 true=Tryz.pinned.checked.prog.looks []/\∀ (j:Nat) t,fn.params[j]?=some t->Tryz.pinned.checked.prog.wantsStandIn t=false:=by
 obtain rfl : f = 5 := Option.some.inj ((show Tryz.prog.funcNamed "linkwork/linkworklaw57.EditBack" = some 5 by kernel_rfl).symm.trans g) |>.symm
 obtain rfl:fn=Tryz.f5:=(Option.some.inj (Tryz.func5.symm.trans b)).symm;refine ⟨by kernel_rfl,fun j t c=>?_⟩;rw [Tryz.params5] at c
 have d:t∈[26,42]:=by
  have:=Array.mem_of_getElem? c;simp at this ⊢
  first
   | exact this
   | exact .inl this
 have a:([26,42].all fun u=>!Tryz.prog.wantsStandIn u)=true:=by kernel_rfl
 exact (show Tryz.prog.wantsStandIn t=false by simpa using List.all_eq_true.1 a t d)
theorem EI:(Rows.editBackRow).wfByText (OpenSpec.ofChange Rows.editBackSpec)=true:=by kernel_rfl
theorem EJ:Tryz.pinned.checked.prog.mainIs=some (Rows.editBackCard.stood.harness.1,Rows.editBackCard.stood.harness.2.toList):=by kernel_rfl
theorem EK:false=(Rows.editBackRow).goesBy Tryz.pinned.checked.prog:=by kernel_rfl
theorem back_holds:Rows.EditBackCardSaid :=
 Claim7.holds_tied_plain_at .later [] _ _ _ _ xZ (fun _ h=>by cases h) EI (fun _ h=>by cases h) editBack_row_tie rfl ⟨rfl,rfl⟩ EJ rfl uC EK
end Go.Proofs.YtndhgcfajlalhaaGreatDoor
