/- EditCancels: a body that is added and removed, and a point that is moved there and back, leave the linkage as it was; for every input the law returns true. The listed library variables are tied to the program text. -/
import Derived.Test.YtndhgcfajlalhaaGreatDoorCQ8
import Derived.ProofKit
import Derived.WalkKit
import Derived.OpenShut
import Derived.Deep.DeepHandedRow
import Derived.Lib.LaidTab
import Derived.Shelf.Vars
import Derived.Deep.Slices
import Derived.SizedLaws
import Derived.ChangeMaps5
set_option linter.unusedVariables false
set_option maxHeartbeats 8000000
set_option maxRecDepth 100000
namespace Go.Proofs.YtndhgcfajlalhaaGreatDoor
open Go Go.RowKit Bn Go.ChangeShapes Go.WideShapes Go.ChangeAt
attribute [local go_sem ↓] Go.wp_at_zero Go.wp_at_succ
variable {H:Type}{enc:TypeId × Value->H}{W:World}
theorem pg {v:Value}{fuel:Nat}{x:DataW H × List MemPlace}(c:DataW.trod enc Tryz.prog W 0 (fun _=>true) true fuel 9 [v]=some x) (b:Szd 9 x.1):∃ t:List UInt8,v=aa t/\t.length<=reachBytes:=by
 obtain ⟨s,a,d,_⟩:=DataW.trod_string Tryz.underlying9 c;injection a with a _;subst a;obtain ⟨t,rfl⟩:∃ t:List UInt8,s=⟨t.toArray⟩:=⟨s.data.toList,by simp⟩;rw [d] at b;exact ⟨t,rfl,b.str⟩
theorem tS {j b v2:Value}{fuel:Nat}{x:DataW H × List MemPlace}(m:DataW.trod enc Tryz.prog W 0 (fun _=>true) true fuel 39 [j,b,v2]=some x) (l:Szd 39 x.1):∃ k nm c,j=.int .i64 k/\b=aa nm/\v2=aa c/\nm.length<=reachBytes/\c.length<=reachBytes:=by
 obtain ⟨a,n,_,o,_,f,d⟩:=DataW.trod_struct Tryz.underlying39 m;rw [o] at l;have g:DataW.trod enc Tryz.prog W 0 (fun _=>true) true n 3 (List.take (Tryz.prog.cellsOf 3) [j,b,v2])=a[0]?:=d 0 _ rfl;have f1:DataW.trod enc Tryz.prog W 0 (fun _=>true) true n 9 (List.take (Tryz.prog.cellsOf 9) [b,v2])=a[1]?:=d 1 _ rfl;have f2:DataW.trod enc Tryz.prog W 0 (fun _=>true) true n 9 (List.take (Tryz.prog.cellsOf 9) [v2])=a[2]?:=d 2 _ rfl;rw [jg] at g;rw [eJ] at f1 f2;have r:a.length=3:=f;rw [au (show 0<a.length by omega)] at g;rw [au (show 1<a.length by omega)] at f1;rw [au (show 2<a.length by omega)] at f2;have s:=l.field Tryz.underlying39 (i:=1) rfl (au (show 1<a.length by omega));have q:=l.field Tryz.underlying39 (i:=2) rfl (au (show 2<a.length by omega));obtain ⟨k,rfl⟩:=dp g;obtain ⟨nm,rfl,p⟩:=pg f1 s;obtain ⟨c,rfl,h⟩:=pg f2 q;exact ⟨k,nm,c,rfl,rfl,rfl,p,h⟩
instance:Inhabited bL:=⟨⟨0,[],[]⟩⟩
instance:Inhabited uX:=⟨⟨0,default⟩⟩
theorem step_one (fuel:Nat) (cs:List Value) (y:DataW H × List MemPlace) (g o:Nat) (m:cs.length=4) (c:∀ i,i<4->W.cell? ⟨g,o+i,none⟩=cs[i]?) (p:DataW.trod enc Tryz.prog W 0 (fun _=>true) true fuel 41 cs=some y) (l:Szd 41 y.1):∃ a,wX W g o a:=by
 match cs,m with
 | [v0,v1,v2,v3],_ =>
  obtain ⟨b,n,_,r,_,d,j⟩:=DataW.trod_struct Tryz.underlying41 p;rw [r] at l;have f:DataW.trod enc Tryz.prog W 0 (fun _=>true) true n 3 (List.take (Tryz.prog.cellsOf 3) [v0,v1,v2,v3])=b[0]?:=j 0 _ rfl;have f1:DataW.trod enc Tryz.prog W 0 (fun _=>true) true n 39 (List.take (Tryz.prog.cellsOf 39) [v1,v2,v3])=b[1]?:=j 1 _ rfl;have c1:Tryz.prog.cellsOf 39=3:=by kernel_rfl
  rw [jg] at f;rw [c1] at f1;have t:b.length=2:=d;rw [au (show 0<b.length by omega)] at f;rw [au (show 1<b.length by omega)] at f1;have u:=l.field Tryz.underlying41 (i:=1) rfl (au (show 1<b.length by omega));obtain ⟨k,rfl⟩:=dp f;obtain ⟨q,nm,v,rfl,rfl,rfl,s,h⟩:=tS f1 u;exact ⟨⟨k,⟨q,nm,v⟩⟩,c 0 (by omega),c 1 (by omega),c 2 (by omega),c 3 (by omega),s,h⟩
variable {base:Nat}
theorem ls (H:Type) (enc:TypeId × Value->H) (W:World) (base:Nat) (args:Array Value) (i r:List (DataW H)) (before:List MemPlace)
 (b:∀ (j:Nat) t v,Tryz.f4.params[j]?=some t->args[j]?=some v->Value.okWide Tryz.prog W .any base t v)
 (o:DataW.Whole enc Tryz.prog Tryz.f4.params.toList Rows.editCancelsSpec.vars false W args.toList i r before) (I:laidMetH Tryz.prog Rows.editCancelsRow.laid W) (k:(DataW.weightsEach Tryz.prog (Tryz.f4.params.toList++(OpenSpec.ofChange Rows.editCancelsSpec).bare.plain.varTypes Tryz.prog) (i++r)).all (·<=reachBytes)=true) (m:W.ShapedOpen Tryz.prog) :
 Calls Tryz.prog 4 args W fun e y=>∃ v,e=.returned v/\Rows.editCancelsSpec.post enc Tryz.prog Tryz.f4 false true false false W args v y:=by
 have a:∀ (j:Nat) t v,Tryz.f4.params[j]?=some t->args[j]?=some v->Value.okWide Tryz.prog W .any base t v:=b;have f:Tab W:=sH I;have h:Mx W:=qC m;have l:=o;obtain ⟨p,q,g,P,rfl,O,J⟩:=o;have u:DataW.TrodAll enc Tryz.prog W 0 (fun _=>true) true Tryz.f4.params.toList args.toList i p:=g;rw [Tryz.params4] at u a;obtain ⟨N,G,v2,d0,d1,d2,p0,p1,p2,rfl,rfl,rfl,E,F,z⟩:=trodAll_three u;obtain ⟨rfl,rfl⟩:=trodVars_none P;obtain ⟨A,n,c,B,p,d,C,q,e,L,rfl,H⟩:=xl (a 0 _ N rfl rfl) E (El k (j:=0) rfl rfl);obtain ⟨s,rfl,rfl,rfl,w⟩:=Go.ChangeMaps.open_string Tryz.underlying9 (a 1 _ G rfl rfl) F;obtain ⟨t,rfl⟩:∃ t:List UInt8,s=⟨t.toArray⟩:=⟨s.data.toList,by simp⟩;have D:t.length<9223372036854775808:=by unfold maxLen at w;have Q:t.length<=_:=w;omega
 obtain ⟨x,rfl,rfl,rfl,K⟩:=open_int Tryz.underlying5 (a 2 _ v2 rfl rfl) z;refine (nZ W A n c B p d C q e L H t D x (F4 K) f h).mono fun e y ⟨M,hb⟩=>?_
 subst M;exact ⟨_,rfl,AE AI Tryz.underlying4 l rfl rfl (by kernel_rfl) rfl rfl rfl hb⟩
theorem nJ (os:Os) (started:os.Started) (H:Type) (enc:TypeId × Value->H) (F:Stop.Interp) :
 ReturnsInHanded {} Tryz.checked os 4 .any ((OpenSpec.ofChange Rows.editCancelsSpec).preRow enc Tryz.prog Tryz.f4 Rows.editCancelsRow.domain false Rows.editCancelsRow.laid) (((OpenSpec.ofChange Rows.editCancelsSpec).at F).post enc Tryz.prog Tryz.f4 false true false false):=by
 have f:DataW.whole enc Tryz.prog ((lr os).forCall (fun _ _=>0) ⟨#[],#[.agg #[.string ⟨#[]⟩,.slice none 0 0,.slice none 0 0,.slice none 0 0],.string ⟨#[]⟩,.int .u8 0],[]⟩).memory Tryz.f4.params.toList Rows.editCancelsSpec.vars false (#[.agg #[.string ⟨#[]⟩,.slice none 0 0,.slice none 0 0,.slice none 0 0],.string ⟨#[]⟩,.int .u8 0]:Array Value).toList 8=some ([.agg [.lit (.string []),.nil,.nil,.nil],.lit (.string []),.lit (.int .u8 0)],[],[]):=by kernel_rfl
 have d:laidMet Tryz.prog Rows.editCancelsRow.laid ((lr os).forCall (fun _ _=>0) ⟨#[],#[.agg #[.string ⟨#[]⟩,.slice none 0 0,.slice none 0 0,.slice none 0 0],.string ⟨#[]⟩,.int .u8 0],[]⟩).memory:=laidMet_of_run' 8 (by kernel_rfl) (by kernel_rfl)
 refine returnsInHanded_of_row (C:=Tryz.checked) (s:=OpenSpec.ofChange Rows.editCancelsSpec) AH started (by kernel_rfl) Tryz.func4
  (witness_row_at (enc:=enc) (C:=Tryz.checked) false (lr os) #[.agg #[.string ⟨#[]⟩,.slice none 0 0,.slice none 0 0,.slice none 0 0],.string ⟨#[]⟩,.int .u8 0] rfl (by kernel_rfl) (by kernel_rfl) (by kernel_rfl)
   (OpenSpec.preRow_of_cond 8 f (by kernel_rfl) (fun k g=>by cases g) (by kernel_rfl) d)) ?_
 intro W base args j i before a h _ _ b l c _;exact ls H enc W base args j i before a h l b c
theorem tT:(Rows.editCancelsRow.inPlace==Tryz.pinned.checked.prog.inPlace 4)=true:=by kernel_rfl
theorem tU:(Rows.editCancelsRow.unfollowed==Tryz.pinned.checked.prog.unfollowed 4)=true:=by kernel_rfl
theorem tV:(Rows.editCancelsRow.recurses==Tryz.pinned.checked.prog.recurses 4)=true:=by kernel_rfl
theorem tW:(Rows.editCancelsRow.named==Tryz.pinned.checked.prog.varsNamed 4)=true:=by kernel_rfl
theorem nK:joinedFacts Tryz.pinned.checked.prog 4 Tryz.f4 (OpenSpec.ofChange Rows.editCancelsSpec).bare Rows.editCancelsRow=true:=qB (by kernel_rfl) tT tU tV tW (by kernel_rfl)
theorem qD:Tryz.f4.isInstance Tryz.pinned.checked.prog Rows.editCancelsRow.origin Rows.editCancelsRow.targs:=of_decide_eq_true (by kernel_rfl)
theorem qE:Rows.EditCancelsSaid :=
 OpenClaim.holds_of_cond 4 Tryz.f4 rfl rfl rfl rfl rfl rfl rfl ⟨rfl,rfl,rfl,rfl,rfl⟩ rfl rfl rfl rfl rfl (by kernel_rfl) Tryz.func4 nK
  qD (by unfold Func.isWrapper;first | (rw [if_pos (by decide +kernel)];kernel_rfl) | (rw [if_neg (by decide +kernel)];exact ⟨rfl,rfl⟩))
  (fun os started H enc _ F=>by rw [OpenClaim.pre_eq_preRow];exact nJ os started H enc F)
theorem oc (f : FuncId) (fn : Func) (g : Tryz.pinned.checked.prog.funcNamed "linkwork/linkworklaw57.EditCancels" = some f) (b : Tryz.pinned.checked.prog.funcs[f]? = some fn) :
 true=Tryz.pinned.checked.prog.looks []/\∀ (j:Nat) t,fn.params[j]?=some t->Tryz.pinned.checked.prog.wantsStandIn t=false:=by
 obtain rfl : f = 4 := Option.some.inj ((show Tryz.prog.funcNamed "linkwork/linkworklaw57.EditCancels" = some 4 by kernel_rfl).symm.trans g) |>.symm
 obtain rfl:fn=Tryz.f4:=(Option.some.inj (Tryz.func4.symm.trans b)).symm;refine ⟨by kernel_rfl,fun j t c=>?_⟩;rw [Tryz.params4] at c
 have d:t∈[26,9,5]:=by
  have:=Array.mem_of_getElem? c;simp at this ⊢
  first
   | exact this
   | exact .inl this
 have a:([26,9,5].all fun u=>!Tryz.prog.wantsStandIn u)=true:=by kernel_rfl
 exact (show Tryz.prog.wantsStandIn t=false by simpa using List.all_eq_true.1 a t d)
theorem xo:(Rows.editCancelsRow).wfByText (OpenSpec.ofChange Rows.editCancelsSpec)=true:=by kernel_rfl
theorem xq:Tryz.pinned.checked.prog.mainIs=some (Rows.editCancelsCard.stood.harness.1,Rows.editCancelsCard.stood.harness.2.toList):=by kernel_rfl
theorem xt:false=(Rows.editCancelsRow).goesBy Tryz.pinned.checked.prog:=by kernel_rfl
theorem cancels_holds:Rows.EditCancelsCardSaid :=
 Claim7.holds_tied_plain_at .later [] _ _ _ _ qE (fun _ h=>by cases h) xo (fun _ h=>by cases h) editCancels_row_tie rfl ⟨rfl,rfl⟩ xq rfl oc xt
end Go.Proofs.YtndhgcfajlalhaaGreatDoor
