/- EditNil: the methods of a log that does not exist return ErrNone, or zero values; for every input the law returns true. The listed library variables are tied to the program text. -/
import Derived.Test.YtndhgcfajlalhaaGreatDoorEN6
import Derived.BigQuiet
import Derived.Deep.RegionHeld3
import Derived.Deep.DrawnRows
import Derived.Laws.StructEq
import Derived.ProofKit
import Derived.WalkKit
import Derived.OpenShut
import Derived.Deep.DeepHandedRow
import Derived.Lib.LaidTab
import Derived.Shelf.Vars
import Derived.Deep.Slices
import Derived.SizedLaws
import Derived.ChangeMaps5
set_option linter.unusedVariables false
set_option maxHeartbeats 8000000
set_option maxRecDepth 100000
namespace Go.Proofs.YtndhgcfajlalhaaGreatDoor
open Go Go.RowKit Bn Go.ChangeShapes Go.WideShapes Go.ChangeAt
attribute [local go_sem ↓] Go.wp_at_zero Go.wp_at_succ
variable {H:Type}{enc:TypeId × Value→H}{W:World}
theorem tg {v0 v1 v2:Value}{fuel:Nat}{x:DataW H × List MemPlace}(ht:DataW.trod enc Tryz.prog W 0 (fun _=>true) true fuel 39 [v0,v1,v2]=some x) (hz:Szd 39 x.1):∃ k nm tx,v0=.int .i64 k∧v1=ae nm∧v2=ae tx∧NmL nm∧NmL tx:=by
 obtain ⟨xs,n,_,hx,_,hxl,hf⟩:=DataW.trod_struct Tryz.underlying39 ht;rw [hx] at hz;have f0:DataW.trod enc Tryz.prog W 0 (fun _=>true) true n 3 (List.take (Tryz.prog.cellsOf 3) [v0,v1,v2])=xs[0]?:=hf 0 _ rfl;have f1:DataW.trod enc Tryz.prog W 0 (fun _=>true) true n 9 (List.take (Tryz.prog.cellsOf 9) [v1,v2])=xs[1]?:=hf 1 _ rfl;have f2:DataW.trod enc Tryz.prog W 0 (fun _=>true) true n 9 (List.take (Tryz.prog.cellsOf 9) [v2])=xs[2]?:=hf 2 _ rfl;rw [te] at f0;rw [tf] at f1 f2;have hx0:xs.length=3:=hxl;rw [jx (show 0 < xs.length by omega)] at f0;rw [jx (show 1 < xs.length by omega)] at f1;rw [jx (show 2 < xs.length by omega)] at f2;have z1:=hz.field Tryz.underlying39 (i:=1) rfl (jx (show 1 < xs.length by omega));have z2:=hz.field Tryz.underlying39 (i:=2) rfl (jx (show 2 < xs.length by omega));obtain ⟨k,rfl⟩:=vW f0;obtain ⟨nm,rfl,hn⟩:=pq f1 z1;obtain ⟨tx,rfl,hxt⟩:=pq f2 z2;exact ⟨k,nm,tx,rfl,rfl,rfl,hn,hxt⟩
variable {base:Nat}
theorem th {v:Value}{d:DataW H}{p:List MemPlace}(hok:Value.okWide Tryz.prog W .any base 39 v) (h:DataW.Trod enc Tryz.prog W 0 (fun _=>true) true 39 v d p) (hz:Szd 39 d) :
 ∃ k nm tx,v=.agg #[.int .i64 k,ae nm,ae tx]∧NmL nm∧NmL tx:=by
 obtain ⟨cs,rfl,hsz,_⟩:=vS (ts:=[3,9,9]) Tryz.underlying39 (by kernel_rfl) (by kernel_rfl) hok;obtain ⟨fuel,h⟩:=h;obtain ⟨l⟩:=cs
 match l,hsz with
 | [v0,v1,v2],_ =>
  obtain ⟨k,nm,tx,rfl,rfl,rfl,h1,h2⟩:=tg h hz;exact ⟨k,nm,tx,rfl,h1,h2⟩
theorem nt (H:Type) (enc:TypeId × Value→H) (W:World) (base:Nat) (args:Array Value) (ds gs:List (DataW H)) (before:List MemPlace)
 (hval0:∀ (j:Nat) t v,Tryz.f7.params[j]?=some t→args[j]?=some v→Value.okWide Tryz.prog W .any base t v)
 (hW:DataW.Whole enc Tryz.prog Tryz.f7.params.toList Rows.editNilSpec.vars false W args.toList ds gs before) (hL:laidMetH Tryz.prog Rows.editNilRow.laid W) (hwt:(DataW.weightsEach Tryz.prog (Tryz.f7.params.toList ++ (OpenSpec.ofChange Rows.editNilSpec).bare.plain.varTypes Tryz.prog) (ds ++ gs)).all (·≤reachBytes)=true) (hsh:W.ShapedOpen Tryz.prog) :
 Calls Tryz.prog 7 args W fun e W'=>∃ v,e=.returned v∧Rows.editNilSpec.post enc Tryz.prog Tryz.f7 false true false false W args v W':=by
 have hval:∀ (j:Nat) t v,Tryz.f7.params[j]?=some t→args[j]?=some v→Value.okWide Tryz.prog W .any base t v:=hval0;have htab:Tab W:=po hL;have hmx:Mx W:=nr hsh;have hW':=hW;obtain ⟨p,q,hA0,hV,rfl,hfz,hnd⟩:=hW;have hA:DataW.TrodAll enc Tryz.prog W 0 (fun _=>true) true Tryz.f7.params.toList args.toList ds p:=hA0;rw [Tryz.params7] at hA hval;obtain ⟨v0,d0,rfl,rfl,h0⟩:=trodAll_one hA;obtain ⟨rfl,rfl⟩:=trodVars_none hV;obtain ⟨k,nm,tx,rfl,hnm,htx⟩:=th (hval 0 _ v0 rfl rfl) h0 (zz hwt (j:=0) rfl rfl);refine (ta W k nm tx htab hmx).mono fun e W' ⟨he,hb⟩=>?_
 subst he;exact ⟨_,rfl,vR vV Tryz.underlying4 hW' rfl rfl (by kernel_rfl) rfl rfl rfl hb⟩
theorem qF (os:Os) (started:os.Started) (H:Type) (enc:TypeId × Value→H) (F:Stop.Interp) :
 ReturnsInHanded {} Tryz.checked os 7 .any ((OpenSpec.ofChange Rows.editNilSpec).preRow enc Tryz.prog Tryz.f7 Rows.editNilRow.domain false Rows.editNilRow.laid) (((OpenSpec.ofChange Rows.editNilSpec).at F).post enc Tryz.prog Tryz.f7 false true false false):=by
 have hx:DataW.whole enc Tryz.prog ((jV os).forCall (fun _ _=>0) ⟨#[],#[.agg #[.int .i64 0,.string ⟨#[]⟩,.string ⟨#[]⟩]],[]⟩).memory Tryz.f7.params.toList Rows.editNilSpec.vars false (#[.agg #[.int .i64 0,.string ⟨#[]⟩,.string ⟨#[]⟩]]:Array Value).toList 8=some ([.agg [.lit (.int .i64 0),.lit (.string []),.lit (.string [])]],[],[]):=by kernel_rfl
 have hl:laidMet Tryz.prog Rows.editNilRow.laid ((jV os).forCall (fun _ _=>0) ⟨#[],#[.agg #[.int .i64 0,.string ⟨#[]⟩,.string ⟨#[]⟩]],[]⟩).memory:=laidMet_of_run' 8 (by kernel_rfl) (by kernel_rfl)
 refine returnsInHanded_of_row (C:=Tryz.checked) (s:=OpenSpec.ofChange Rows.editNilSpec) vU started (by kernel_rfl) Tryz.func7
  (witness_row_at (enc:=enc) (C:=Tryz.checked) false (jV os) #[.agg #[.int .i64 0,.string ⟨#[]⟩,.string ⟨#[]⟩]] rfl (by kernel_rfl) (by kernel_rfl) (by kernel_rfl)
   (OpenSpec.preRow_of_cond 8 hx (by kernel_rfl) (fun k hk=>by cases hk) (by kernel_rfl) hl)) ?_
 intro W base args ds gs before hval hW _ _ hwt hL hsh _;exact nt H enc W base args ds gs before hval hW hL hwt hsh
theorem zA:(Rows.editNilRow.inPlace == Tryz.pinned.checked.prog.inPlace 7)=true:=by kernel_rfl
theorem zB:(Rows.editNilRow.unfollowed == Tryz.pinned.checked.prog.unfollowed 7)=true:=by kernel_rfl
theorem zC:(Rows.editNilRow.recurses == Tryz.pinned.checked.prog.recurses 7)=true:=by kernel_rfl
theorem zD:(Rows.editNilRow.named == Tryz.pinned.checked.prog.varsNamed 7)=true:=by kernel_rfl
theorem qG:joinedFacts Tryz.pinned.checked.prog 7 Tryz.f7 (OpenSpec.ofChange Rows.editNilSpec).bare Rows.editNilRow=true:=nq (by kernel_rfl) zA zB zC zD (by kernel_rfl)
theorem vX:Tryz.f7.isInstance Tryz.pinned.checked.prog Rows.editNilRow.origin Rows.editNilRow.targs:=of_decide_eq_true (by kernel_rfl)
theorem vY:Rows.EditNilSaid :=
 OpenClaim.holds_of_cond 7 Tryz.f7 rfl rfl rfl rfl rfl rfl rfl ⟨rfl,rfl,rfl,rfl,rfl⟩ rfl rfl rfl rfl rfl (by kernel_rfl) Tryz.func7 qG
  vX (by unfold Func.isWrapper;first | (rw [if_pos (by decide +kernel)];kernel_rfl) | (rw [if_neg (by decide +kernel)];exact ⟨rfl,rfl⟩))
  (fun os started H enc _ F=>by rw [OpenClaim.pre_eq_preRow];exact qF os started H enc F)
theorem ti (f : FuncId) (fn : Func) (hf : Tryz.pinned.checked.prog.funcNamed "linkwork/linkworklaw57.EditNil" = some f) (hfn : Tryz.pinned.checked.prog.funcs[f]? = some fn) :
 true=Tryz.pinned.checked.prog.looks []∧∀ (j:Nat) t,fn.params[j]?=some t→Tryz.pinned.checked.prog.wantsStandIn t=false:=by
 obtain rfl : f = 7 := Option.some.inj ((show Tryz.prog.funcNamed "linkwork/linkworklaw57.EditNil" = some 7 by kernel_rfl).symm.trans hf) |>.symm
 obtain rfl:fn=Tryz.f7:=(Option.some.inj (Tryz.func7.symm.trans hfn)).symm;refine ⟨by kernel_rfl,fun j t ht=>?_⟩;rw [Tryz.params7] at ht
 have hm:t∈[39]:=by
  have:=Array.mem_of_getElem? ht;simp at this ⊢
  first
   | exact this
   | exact .inl this
 have hall:([39].all fun u=>!Tryz.prog.wantsStandIn u)=true:=by kernel_rfl
 exact (show Tryz.prog.wantsStandIn t=false by simpa using List.all_eq_true.1 hall t hm)
theorem AZ:(Rows.editNilRow).wfByText (OpenSpec.ofChange Rows.editNilSpec)=true:=by kernel_rfl
theorem A0:Tryz.pinned.checked.prog.mainIs=some (Rows.editNilCard.stood.harness.1,Rows.editNilCard.stood.harness.2.toList):=by kernel_rfl
theorem Ba:false=(Rows.editNilRow).goesBy Tryz.pinned.checked.prog:=by kernel_rfl
theorem nil_holds:Rows.EditNilCardSaid :=
 Claim7.holds_tied_plain_at .later [] _ _ _ _ vY (fun _ h=>by cases h) AZ (fun _ h=>by cases h) editNil_row_tie rfl ⟨rfl,rfl⟩ A0 rfl ti Ba
end Go.Proofs.YtndhgcfajlalhaaGreatDoor
