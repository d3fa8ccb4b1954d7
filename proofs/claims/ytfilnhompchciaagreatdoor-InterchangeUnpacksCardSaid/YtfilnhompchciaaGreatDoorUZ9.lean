/- InterchangeUnpacks: Unpack and Count return what is specified, or the errors as specified; Sum is the hash; for every input the law returns true. The listed library variables are tied to the program text. -/
import Derived.Test.YtfilnhompchciaaGreatDoorUZ8
set_option linter.unusedVariables false
set_option maxHeartbeats 8000000
set_option maxRecDepth 100000
namespace Go.Proofs.YtfilnhompchciaaGreatDoor
open Go Go.RowKit Bn Go.ChangeShapes Go.WideShapes Go.ChangeAt
attribute [local go_sem ↓] Go.wp_at_zero Go.wp_at_succ
theorem lC(H:Type)(enc:TypeId × Value->H)(W:World)(base:Nat)(args:Array Value)(o y:List (DataW H))(before:List MemPlace)
 (b:∀(j:Nat) t v,Tryz.f7.params[j]?=some t->args[j]?=some v->Value.okWide Tryz.prog W .any base t v)
 (m:DataW.Whole enc Tryz.prog Tryz.f7.params.toList Rows.interchangeUnpacksSpec.vars false W args.toList o y before) (i:laidMetH Tryz.prog Rows.interchangeUnpacksRow.laid W) (l:W.ShapedOpen Tryz.prog) :
 Calls Tryz.prog 7 args W fun e u=>∃v,e=.returned v/\Rows.interchangeUnpacksSpec.post enc Tryz.prog Tryz.f7 false true false false W args v u:=by
 have a:∀(j:Nat) t v,Tryz.f7.params[j]?=some t->args[j]?=some v->Value.okWide Tryz.prog W .any base t v:=b;have c:Tab W:=sy i;have h:T64 W:=sA i;have d:Ev W:=tI i;have g:Mx W:=qo l;have k:=m;obtain⟨p,q,f,D,rfl,C,z⟩:=m;have n:DataW.TrodAll enc Tryz.prog W 0 (fun _=>true) true Tryz.f7.params.toList args.toList o p:=f;rw[Tryz.params7]at n a;obtain⟨B,E,rfl,rfl,x⟩:=trodAll_one n;obtain⟨rfl,rfl⟩:=trodVars_none D;obtain⟨s,rfl,rfl,rfl,r⟩:=Go.ChangeMaps.open_string Tryz.underlying9 (a 0 _ B rfl rfl) x;obtain⟨t,rfl⟩:∃t:List UInt8,s=⟨t.toArray⟩:=⟨s.data.toList,by simp⟩;have w:t.length<9223372036854775808:=by unfold maxLen at r;have F:t.length<=_:=r;omega
 refine(xg W t w c g h d).mono fun e u ⟨A,hb⟩=>?_
 subst A;exact⟨_,rfl,AI AL Tryz.underlying4 k rfl rfl (by kernel_rfl) rfl rfl rfl hb⟩
theorem nt(os:Os)(started:os.Started)(H:Type)(enc:TypeId × Value->H)(F:Stop.Interp):
 ReturnsInHanded {} Tryz.checked os 7 .any ((OpenSpec.ofChange Rows.interchangeUnpacksSpec).preRow enc Tryz.prog Tryz.f7 Rows.interchangeUnpacksRow.domain false Rows.interchangeUnpacksRow.laid) (((OpenSpec.ofChange Rows.interchangeUnpacksSpec).at F).post enc Tryz.prog Tryz.f7 false true false false):=by
 have d:DataW.whole enc Tryz.prog ((lB os).forCall (fun _ _=>0) ⟨#[],#[.string ⟨#[]⟩],[]⟩).memory Tryz.f7.params.toList Rows.interchangeUnpacksSpec.vars false (#[.string ⟨#[]⟩]:Array Value).toList 8=some ([.lit (.string [])],[],[]):=by kernel_rfl
 have c:laidMet Tryz.prog Rows.interchangeUnpacksRow.laid ((lB os).forCall (fun _ _=>0) ⟨#[],#[.string ⟨#[]⟩],[]⟩).memory:=laidMet_of_run' 8 (by kernel_rfl) (by kernel_rfl)
 refine returnsInHanded_of_row (C:=Tryz.checked) (s:=OpenSpec.ofChange Rows.interchangeUnpacksSpec) AK started (by kernel_rfl) Tryz.func7
  (witness_row_at (enc:=enc) (C:=Tryz.checked) false (lB os) #[.string ⟨#[]⟩] rfl (by kernel_rfl) (by kernel_rfl) (by kernel_rfl)
   (OpenSpec.preRow_of_cond 8 d (by kernel_rfl) (fun k f=>by cases f) (by kernel_rfl) c)) ?_
 intro W base args i h before a g _ _ _ j b _;exact lC H enc W base args i h before a g j b
theorem tJ:(Rows.interchangeUnpacksRow.inPlace==Tryz.pinned.checked.prog.inPlace 7)=true:=by kernel_rfl
theorem tK:(Rows.interchangeUnpacksRow.unfollowed==Tryz.pinned.checked.prog.unfollowed 7)=true:=by kernel_rfl
theorem tL:(Rows.interchangeUnpacksRow.recurses==Tryz.pinned.checked.prog.recurses 7)=true:=by kernel_rfl
theorem tM:(Rows.interchangeUnpacksRow.named==Tryz.pinned.checked.prog.varsNamed 7)=true:=by kernel_rfl
theorem nw:joinedFacts Tryz.pinned.checked.prog 7 Tryz.f7 (OpenSpec.ofChange Rows.interchangeUnpacksSpec).bare Rows.interchangeUnpacksRow=true:=qn (by kernel_rfl) tJ tK tL tM (by kernel_rfl)
theorem qp:Tryz.f7.isInstance Tryz.pinned.checked.prog Rows.interchangeUnpacksRow.origin Rows.interchangeUnpacksRow.targs:=of_decide_eq_true (by kernel_rfl)
theorem qq:Rows.InterchangeUnpacksSaid :=
 OpenClaim.holds_of_cond 7 Tryz.f7 rfl rfl rfl rfl rfl rfl rfl ⟨rfl,rfl,rfl,rfl,rfl⟩ rfl rfl rfl rfl rfl (by kernel_rfl) Tryz.func7 nw
  qp (by unfold Func.isWrapper;first|(rw[kZ (by decide +kernel)];kernel_rfl)|(rw[kl (by decide +kernel)];exact⟨rfl,rfl⟩))
  (fun os started H enc _ F=>by rw[OpenClaim.pre_eq_preRow];exact nt os started H enc F)
theorem nU(f : FuncId)(fn : Func)(g : Tryz.pinned.checked.prog.funcNamed "linkwork/linkworklaw59.InterchangeUnpacks" = some f)(b : Tryz.pinned.checked.prog.funcs[f]? = some fn):
 true=Tryz.pinned.checked.prog.looks []/\∀(j:Nat) t,fn.params[j]?=some t->Tryz.pinned.checked.prog.wantsStandIn t=false:=by
 obtain rfl : f = 7 := F5 ((show Tryz.prog.funcNamed "linkwork/linkworklaw59.InterchangeUnpacks" = some 7 by kernel_rfl).symm.trans g) |>.symm
 obtain rfl:fn=Tryz.f7:=(F5 (Tryz.func7.symm.trans b)).symm;refine⟨by kernel_rfl,fun j t c=>?_⟩;rw[Tryz.params7]at c
 have d:t∈[9]:=by
  have:=Array.mem_of_getElem? c;simp at this⊢
  first
   |exact this
   |exact .inl this
 have a:([9].all fun u=>!Tryz.prog.wantsStandIn u)=true:=by kernel_rfl
 exact(show Tryz.prog.wantsStandIn t=false by simpa using List.all_eq_true.1 a t d)
theorem xk:(Rows.interchangeUnpacksRow).wfByText (OpenSpec.ofChange Rows.interchangeUnpacksSpec)=true:=by kernel_rfl
theorem xn:Tryz.pinned.checked.prog.mainIs=some (Rows.interchangeUnpacksCard.stood.harness.1,Rows.interchangeUnpacksCard.stood.harness.2.toList):=by kernel_rfl
theorem xo:false=(Rows.interchangeUnpacksRow).goesBy Tryz.pinned.checked.prog:=by kernel_rfl
theorem unpacks_holds:Rows.InterchangeUnpacksCardSaid :=
 Claim7.holds_tied_plain_at .later [] _ _ _ _ qq (fun _ h=>by cases h) xk (fun _ h=>by cases h) interchangeUnpacks_row_tie rfl ⟨rfl,rfl⟩ xn rfl nU xo
end Go.Proofs.YtfilnhompchciaaGreatDoor
