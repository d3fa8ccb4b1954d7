/- EditReplays: the linkage of a log is what the edits that are done make of the first one; for every input the law returns true. The listed library variables are tied to the program text. -/
import Derived.Test.YtndhgcfajlalhaaGreatDoorPQ1
import Derived.Below
import Derived.Laws.OwnMore
import Derived.Deep.Draws
import Derived.OneCell
import Derived.Laws.Rows
import Derived.WalkKit
import Derived.WalkSpells
import Derived.WalkLawsBesides
import Derived.BigQuiet
import Derived.Deep.QuietTactic
import Derived.Deep.AppendLies
import Derived.Lib.Hide
import Derived.Deep.RegionHeld3
import Derived.Deep.DrawnRows
import Derived.Shelf.Strings.Builder1
import Derived.Shelf.Strings.Builder2
import Derived.Shelf.Strings.OnBuilder
import Derived.Shelf.Strings.Trim
import Derived.Shelf.Small.Utf8
import Derived.Shelf.Small.Bits
import Derived.Shelf.Small.Strs
import Derived.Shelf.Small.Wraps
import Derived.Shelf.Strings.BuilderF
import Derived.Shelf.Strings.BuilderK
import Derived.Shelf.Strings.Builder2Cap
import Derived.Shelf.Strconv.Atoi
import Derived.Shelf.Strconv.Itoa0
import Derived.Shelf.Strconv.Itoa1
import Derived.Shelf.LaysM
import Derived.Shelf.Strconv.Itoa2
import Derived.Shelf.Strconv.Itoa3
import Derived.Shelf.Strings.Search1
import Derived.Shelf.Strings.Search2
import Derived.Shelf.Strings.Cut
import Derived.Shelf.Strings.Shaped
import Derived.Shelf.Strings.Prefix
import Derived.Shelf.Strings.Runes
import Derived.Shelf.Strings.AsciiSet
import Derived.Shelf.Bits.Mul64
import Derived.Shelf.Strings.Repeat
import Derived.Shelf.Unicode.DecodeSlow
import Derived.Shelf.Strings.BuilderCap
import Derived.IntWalk
import Derived.Deep.DeepCutAuto
import Derived.Deep.RegionHeld
import Derived.Lib.ItoaNum
import Derived.Lib.ItoaMem
import Derived.Lib.Repeat
import Derived.Lib.Join
import Derived.Lib.Atoi
import Derived.Lib.SlTrimSet
import Derived.Lib.AppendIntMem
import Derived.Shelf.Strings.SlTrimAscii
import Derived.Lib.IndexMore
import Derived.Lib.SliceRun
import Derived.Deep.RegionLaw
import Derived.Laws.StructEq
import Derived.ProofKit
import Derived.OpenShut
import Derived.Deep.DeepHandedRow
import Derived.Lib.LaidTab
import Derived.Shelf.Vars
import Derived.Deep.Slices
import Derived.SizedLaws
import Derived.ChangeMaps5
set_option linter.unusedVariables false
set_option maxHeartbeats 8000000
set_option maxRecDepth 100000
namespace Go.Proofs.YtndhgcfajlalhaaGreatDoor
open Go Go.RowKit Bn Go.ChangeShapes Go.WideShapes Go.ChangeAt
attribute [local go_sem ↓] Go.wp_at_zero Go.wp_at_succ
variable {H:Type}{enc:TypeId × Value->H}{W:World}
variable {base:Nat}
theorem steps_open {v:Value}{d:DataW H}{p:List MemPlace}(f:Value.okWide Tryz.prog W .any base 27 v) (h:DataW.Trod enc Tryz.prog W 0 (fun _=>true) true 27 v d p) (g:Szd 27 d) :
 ∃ A n c l,v=.slice A n c/\SlS kK 4 W A n c l/\n<=reachBytes:=by
 have a:=f;unfold Value.okWide at a;rw [Tryz.underlying27] at a;obtain ⟨fuel,h⟩:=h
 have b:v.cells.toList=[v]:=by
  unfold Cell.okWide at a;rw [Tryz.underlying27] at a;cases v <;> first | rfl | (unfold Cell.ok at a;rw [Tryz.underlying27] at a;exact a.elim)
 rw [b] at h;obtain ⟨A,n,c,l,rfl,i⟩:=fu kK 4 Tryz.underlying27 (by kernel_rfl) (by decide) step_one h g;exact ⟨A,n,c,l,rfl,i,qR Tryz.underlying27 (by decide) h g⟩
theorem lA (H:Type) (enc:TypeId × Value->H) (W:World) (base:Nat) (args:Array Value) (k s:List (DataW H)) (before:List MemPlace)
 (b:∀ (j:Nat) t v,Tryz.f3.params[j]?=some t->args[j]?=some v->Value.okWide Tryz.prog W .any base t v)
 (r:DataW.Whole enc Tryz.prog Tryz.f3.params.toList Rows.editReplaysSpec.vars false W args.toList k s before) (D:laidMetH Tryz.prog Rows.editReplaysRow.laid W) (g:(DataW.weightsEach Tryz.prog (Tryz.f3.params.toList++(OpenSpec.ofChange Rows.editReplaysSpec).bare.plain.varTypes Tryz.prog) (k++s)).all (·<=reachBytes)=true) (m:W.ShapedOpen Tryz.prog) :
 Calls Tryz.prog 3 args W fun e w=>∃ v,e=.returned v/\Rows.editReplaysSpec.post enc Tryz.prog Tryz.f3 false true false false W args v w:=by
 have a:∀ (j:Nat) t v,Tryz.f3.params[j]?=some t->args[j]?=some v->Value.okWide Tryz.prog W .any base t v:=b;have f:Tab W:=iK D;have i:Mx W:=gL m;have l:=r;obtain ⟨p,q,h,M,rfl,K,F⟩:=r;have u:DataW.TrodAll enc Tryz.prog W 0 (fun _=>true) true Tryz.f3.params.toList args.toList k p:=h;rw [Tryz.params3] at u a;obtain ⟨J,z,d0,d1,p0,p1,rfl,rfl,rfl,x,y⟩:=trodAll_two u;obtain ⟨rfl,rfl⟩:=trodVars_none M;obtain ⟨A,n,c,B,p,d,C,q,e,L,rfl,H⟩:=ly (a 0 _ J rfl rfl) x (lx g (j:=0) rfl rfl);obtain ⟨N,E,sc,sl,rfl,G,o⟩:=steps_open (a 1 _ z rfl rfl) y (lx g (j:=1) rfl rfl);refine (oq W A n c B p d C q e L H N E sc sl G o f i).mono fun e w ⟨I,hb⟩=>?_
 subst I;exact ⟨_,rfl,nI nK Tryz.underlying4 l rfl rfl (by kernel_rfl) rfl rfl rfl hb⟩
theorem nP (os:Os) (started:os.Started) (H:Type) (enc:TypeId × Value->H) (F:Stop.Interp) :
 ReturnsInHanded {} Tryz.checked os 3 .any ((OpenSpec.ofChange Rows.editReplaysSpec).preRow enc Tryz.prog Tryz.f3 Rows.editReplaysRow.domain false Rows.editReplaysRow.laid) (((OpenSpec.ofChange Rows.editReplaysSpec).at F).post enc Tryz.prog Tryz.f3 false true false false):=by
 have f:DataW.whole enc Tryz.prog ((cU os).forCall (fun _ _=>0) ⟨#[],#[.agg #[.string ⟨#[]⟩,.slice none 0 0,.slice none 0 0,.slice none 0 0],.slice none 0 0],[]⟩).memory Tryz.f3.params.toList Rows.editReplaysSpec.vars false (#[.agg #[.string ⟨#[]⟩,.slice none 0 0,.slice none 0 0,.slice none 0 0],.slice none 0 0]:Array Value).toList 8=some ([.agg [.lit (.string []),.nil,.nil,.nil],.nil],[],[]):=by kernel_rfl
 have d:laidMet Tryz.prog Rows.editReplaysRow.laid ((cU os).forCall (fun _ _=>0) ⟨#[],#[.agg #[.string ⟨#[]⟩,.slice none 0 0,.slice none 0 0,.slice none 0 0],.slice none 0 0],[]⟩).memory:=laidMet_of_run' 8 (by kernel_rfl) (by kernel_rfl)
 refine returnsInHanded_of_row (C:=Tryz.checked) (s:=OpenSpec.ofChange Rows.editReplaysSpec) nJ started (by kernel_rfl) Tryz.func3
  (witness_row_at (enc:=enc) (C:=Tryz.checked) false (cU os) #[.agg #[.string ⟨#[]⟩,.slice none 0 0,.slice none 0 0,.slice none 0 0],.slice none 0 0] rfl (by kernel_rfl) (by kernel_rfl) (by kernel_rfl)
   (OpenSpec.preRow_of_cond 8 f (by kernel_rfl) (fun k g=>by cases g) (by kernel_rfl) d)) ?_
 intro W base args j i before a h _ _ b l c _;exact lA H enc W base args j i before a h l b c
theorem uu:(Rows.editReplaysRow.inPlace==Tryz.pinned.checked.prog.inPlace 3)=true:=by kernel_rfl
theorem uv:(Rows.editReplaysRow.unfollowed==Tryz.pinned.checked.prog.unfollowed 3)=true:=by kernel_rfl
theorem uw:(Rows.editReplaysRow.recurses==Tryz.pinned.checked.prog.recurses 3)=true:=by kernel_rfl
theorem ux:(Rows.editReplaysRow.named==Tryz.pinned.checked.prog.varsNamed 3)=true:=by kernel_rfl
theorem nQ:joinedFacts Tryz.pinned.checked.prog 3 Tryz.f3 (OpenSpec.ofChange Rows.editReplaysSpec).bare Rows.editReplaysRow=true:=gK (by kernel_rfl) uu uv uw ux (by kernel_rfl)
theorem qU:Tryz.f3.isInstance Tryz.pinned.checked.prog Rows.editReplaysRow.origin Rows.editReplaysRow.targs:=of_decide_eq_true (by kernel_rfl)
theorem qV:Rows.EditReplaysSaid :=
 OpenClaim.holds_of_cond 3 Tryz.f3 rfl rfl rfl rfl rfl rfl rfl ⟨rfl,rfl,rfl,rfl,rfl⟩ rfl rfl rfl rfl rfl (by kernel_rfl) Tryz.func3 nQ
  qU (by unfold Func.isWrapper;first | (rw [if_pos (by decide +kernel)];kernel_rfl) | (rw [if_neg (by decide +kernel)];exact ⟨rfl,rfl⟩))
  (fun os started H enc _ F=>by rw [OpenClaim.pre_eq_preRow];exact nP os started H enc F)
theorem ot (f : FuncId) (fn : Func) (g : Tryz.pinned.checked.prog.funcNamed "linkwork/linkworklaw57.EditReplays" = some f) (b : Tryz.pinned.checked.prog.funcs[f]? = some fn) :
 true=Tryz.pinned.checked.prog.looks []/\∀ (j:Nat) t,fn.params[j]?=some t->Tryz.pinned.checked.prog.wantsStandIn t=false:=by
 obtain rfl : f = 3 := Option.some.inj ((show Tryz.prog.funcNamed "linkwork/linkworklaw57.EditReplays" = some 3 by kernel_rfl).symm.trans g) |>.symm
 obtain rfl:fn=Tryz.f3:=(Option.some.inj (Tryz.func3.symm.trans b)).symm;refine ⟨by kernel_rfl,fun j t c=>?_⟩;rw [Tryz.params3] at c
 have d:t∈[26,27]:=by
  have:=Array.mem_of_getElem? c;simp at this ⊢
  first
   | exact this
   | exact .inl this
 have a:([26,27].all fun u=>!Tryz.prog.wantsStandIn u)=true:=by kernel_rfl
 exact (show Tryz.prog.wantsStandIn t=false by simpa using List.all_eq_true.1 a t d)
theorem xU:(Rows.editReplaysRow).wfByText (OpenSpec.ofChange Rows.editReplaysSpec)=true:=by kernel_rfl
theorem xV:Tryz.pinned.checked.prog.mainIs=some (Rows.editReplaysCard.stood.harness.1,Rows.editReplaysCard.stood.harness.2.toList):=by kernel_rfl
theorem xW:false=(Rows.editReplaysRow).goesBy Tryz.pinned.checked.prog:=by kernel_rfl
theorem replays_holds:Rows.EditReplaysCardSaid :=
 Claim7.holds_tied_plain_at .later [] _ _ _ _ qV (fun _ h=>by cases h) xU (fun _ h=>by cases h) editReplays_row_tie rfl ⟨rfl,rfl⟩ xV rfl ot xW
end Go.Proofs.YtndhgcfajlalhaaGreatDoor
