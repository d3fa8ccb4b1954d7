/- PrintLinkages: Linkage returns the text of a linkage, or the error, as the reference does; for every input the law returns true. The listed library variables are tied to the program text. -/
import Derived.Below
import Derived.Laws.OwnMore
import Derived.Deep.Draws
import Derived.OneCell
import Derived.Laws.Rows
import Derived.Test.YtckjakojllcdoaaGreatDoorProg
import Derived.WalkKit
import Derived.WalkSpells
import Derived.WalkLawsBesides
import Derived.BigQuiet
import Derived.Deep.QuietTactic
import Derived.Deep.AppendLies
import Derived.Lib.Hide
import Derived.Deep.RegionHeld3
import Derived.Deep.DrawnRows
import Derived.Shelf.Strings.Builder1
import Derived.Shelf.Strings.Builder2
import Derived.Shelf.Strings.OnBuilder
import Derived.Shelf.Small.Bits
import Derived.Shelf.Strings.BuilderF
import Derived.Shelf.Strings.BuilderK
import Derived.Shelf.Strings.Builder2Cap
import Derived.Shelf.Strconv.Itoa0
import Derived.Shelf.Strconv.Itoa1
import Derived.Shelf.LaysM
import Derived.Shelf.Strconv.Itoa2
import Derived.Shelf.Strconv.Itoa3
import Derived.Shelf.Strings.Search1
import Derived.Shelf.Strings.Search2
import Derived.Shelf.Strings.Search3
import Derived.Shelf.Strings.Count
import Derived.Shelf.Strings.Shaped
import Derived.Shelf.Strings.Prefix
import Derived.Shelf.Bits.Mul64
import Derived.Shelf.Strings.Repeat
import Derived.Shelf.Strings.BuilderCap
import Derived.IntWalk
import Derived.Deep.DeepCutAuto
import Derived.Deep.RegionHeld
import Derived.Lib.ItoaNum
import Derived.Lib.ItoaMem
import Derived.Lib.Repeat
import Derived.Lib.Join
import Derived.Lib.Atoi
import Derived.Lib.SlTrimSet
import Derived.Lib.AppendIntMem
import Derived.Shelf.Strings.SlTrimAscii
import Derived.Lib.IndexMore
import Derived.Test.YtckjakojllcdoaaGreatDoorCards
import Derived.Test.YtckjakojllcdoaaGreatDoorTie
import Derived.ProofKit
import Derived.OpenShut
import Derived.Deep.DeepHandedRow
import Derived.Lib.LaidTab
import Derived.Shelf.Vars
import Derived.Deep.Slices
import Derived.SizedLaws
import Derived.ChangeMaps5
import Derived.Test.YtckjakojllcdoaaGreatDoorA5
set_option linter.unusedVariables false
set_option maxHeartbeats 8000000
set_option maxRecDepth 100000
namespace Go.Proofs.YtckjakojllcdoaaGreatDoor
open Go Go.RowKit Bn
attribute [local go_sem ↓] Go.wp_at_zero Go.wp_at_succ
theorem l_PrintLinkages (w : World) (A : Option Addr) (n c : Nat) (B : Option Addr) (p d : Nat) (C : Option Addr) (q e : Nat) (L : LinkL) (h : LkS reachBytes w A n c B p d C q e L) (htab : Tab w) : Calls Tryz.prog 3 #[.agg #[strV L.name, .slice A n c, .slice B p d, .slice C q e]] w (RetV w (.bool true)) := by
 have H := Lib.hid h
 have HTab := Lib.hid htab
 obtain ⟨v, hv⟩ : ∃ v, lgL L = v := ⟨_, rfl⟩
 have HV := Lib.hid hv
 clear h htab hv
 go_enter Tryz.func3, Tryz.ntmps3
 go_wp2_with fail
 have q0 : Below w.heap.size w (w.alloc (.cells #[strV L.name, .slice A n c, .slice B p d, .slice C q e] 26)) := (brefl w).alloc (Nat.le_refl _) _
 have x0 : Blk (w.alloc (.cells #[strV L.name, .slice A n c, .slice B p d, .slice C q e] 26)) w.heap.size 26 #[strV L.name, .slice A n c, .slice B p d, .slice C q e] := blkAt _ _ _ rfl
 generalize (w.alloc (.cells #[strV L.name, .slice A n c, .slice B p d, .slice C q e] 26)) = w0 at q0 x0 ⊢
 (with_reducible refine (l21_awake w0 (HTab.out.belw q0)).mono ?_); rintro e' w1 ⟨rfl, hb1⟩
 have q1 := q0.trans (hb1.mono q0.size)
 have x1 := x0.below hb1 x0.lt
 have hl1 : w.heap.size < w1.heap.size := x1.lt
 obtain ⟨c0, c1, c2, c3⟩ := x1.c4
 clear x0 q0 hb1
 go_wp2_with fail
 (with_reducible refine (l_large w1 A n c B p d C q e L (H.out.belw q1) v HV.out).mono ?_); rintro e' w2 ⟨rfl, hb2⟩
 have q2 := q1.trans (hb2.mono q1.size)
 have x2 := x1.below hb2 x1.lt
 have hl2 : w.heap.size < w2.heap.size := x2.lt
 clear c0 c1 c2 c3 x1 q1 hb2
 cases v
 ·have H40 := Lib.hid ((H.out.belw q2).of40 HV.out)
  obtain ⟨c0, c1, c2, c3⟩ := x2.c4
  go_wp2_with fail
  (with_reducible refine (p_lk w2 A n c B p d C q e L H40.out (HTab.out.belw q2)).mono ?_); rintro e' w3 ⟨rfl, hb3⟩
  have q3 := q2.trans (hb3.mono q2.size)
  have x3 := x2.below hb3 x2.lt
  have hl3 : w.heap.size < w3.heap.size := x3.lt
  have H3 := Lib.hid (H40.out.belw hb3)
  clear c0 c1 c2 c3 hb3
  obtain ⟨c0, c1, c2, c3⟩ := x3.c4
  go_wp2_with fail
  (with_reducible refine (r_lk w3 A n c B p d C q e L H3.out).mono ?_); rintro e' w4 ⟨rfl, hb4⟩
  have q4 := q3.trans (hb4.mono q3.size)
  clear c0 c1 c2 c3 hb4
  go_wp2_with fail
  (with_reducible refine (b_num_v w4 (outErr L)).mono ?_); rintro e' w5 ⟨rfl, hb5⟩
  have q5 := q4.trans (hb5.mono q4.size)
  go_wp2_with fail
  go_ret
  exact ⟨rfl, q5⟩
 ·go_wp2_with fail
  (with_reducible refine (l21_awake w2 (HTab.out.belw q2)).mono ?_); rintro e' w3 ⟨rfl, hb3⟩
  have q3 := q2.trans (hb3.mono q2.size)
  go_wp2_with fail
  go_ret
  exact ⟨rfl, q3⟩
end Go.Proofs.YtckjakojllcdoaaGreatDoor

/- PrintLinkages: Linkage returns the text of a linkage, or the error, as the reference does; for every input the law returns true. The listed library variables are tied to the program text. -/
namespace Go.Proofs.YtckjakojllcdoaaGreatDoor
open Go Go.RowKit Bn Go.ChangeShapes Go.WideShapes Go.ChangeAt
theorem linkages_contract (H : Type) (enc : TypeId × Value → H) (W : World) (base : Nat) (args : Array Value) (ds gs : List (DataW H)) (before : List MemPlace)
    (hval0 : ∀ (j : Nat) t v, Tryz.f3.params[j]? = some t → args[j]? = some v → Value.okWide Tryz.prog W .any base t v)
    (hW : DataW.Whole enc Tryz.prog Tryz.f3.params.toList Rows.printLinkagesSpec.vars false W args.toList ds gs before) (hL : laidMetH Tryz.prog Rows.printLinkagesRow.laid W) (hwt : (DataW.weightsEach Tryz.prog (Tryz.f3.params.toList ++ (OpenSpec.ofChange Rows.printLinkagesSpec).bare.plain.varTypes Tryz.prog) (ds ++ gs)).all (· ≤ reachBytes) = true) :
    Calls Tryz.prog 3 args W fun e W' => ∃ v, e = .returned v ∧ Rows.printLinkagesSpec.post enc Tryz.prog Tryz.f3 false true false false W args v W' := by
  have hval : ∀ (j : Nat) t v, Tryz.f3.params[j]? = some t → args[j]? = some v → Value.okWide Tryz.prog W .any base t v := hval0
  have htab : Tab W := tab_of_laid hL
  have hW' := hW
  obtain ⟨p, q, hA0, hV, rfl, hfz, hnd⟩ := hW
  have hA : DataW.TrodAll enc Tryz.prog W 0 (fun _ => true) true Tryz.f3.params.toList args.toList ds p := hA0
  rw [Tryz.params3] at hA hval
  obtain ⟨v0, d0, rfl, rfl, h0⟩ := trodAll_one hA
  obtain ⟨rfl, rfl⟩ := trodVars_none hV
  obtain ⟨A, n, c, B, p, d, C, q, e, L, rfl, H⟩ := link_open (hval 0 _ v0 rfl rfl) h0 (szd_of hwt (j := 0) rfl rfl)
  refine (l_PrintLinkages W A n c B p d C q e L H htab).mono fun e W' ⟨he, hb⟩ => ?_
  subst he
  exact ⟨_, rfl, law_post laid_out Tryz.underlying4 hW' rfl rfl (by kernel_rfl) rfl rfl rfl hb⟩
theorem linkages_lifted (os : Os) (started : os.Started) (H : Type) (enc : TypeId × Value → H) (F : Stop.Interp) :
    ReturnsInHanded {} Tryz.checked os 3 .any ((OpenSpec.ofChange Rows.printLinkagesSpec).preRow enc Tryz.prog Tryz.f3 Rows.printLinkagesRow.domain false Rows.printLinkagesRow.laid) (((OpenSpec.ofChange Rows.printLinkagesSpec).at F).post enc Tryz.prog Tryz.f3 false true false false) := by
  have hx : DataW.whole enc Tryz.prog ((laidWorld os).forCall (fun _ _ => 0) ⟨#[], #[.agg #[.string ⟨#[]⟩, .slice none 0 0, .slice none 0 0, .slice none 0 0]], []⟩).memory Tryz.f3.params.toList Rows.printLinkagesSpec.vars false (#[.agg #[.string ⟨#[]⟩, .slice none 0 0, .slice none 0 0, .slice none 0 0]] : Array Value).toList 8 = some ([.agg [.lit (.string []), .nil, .nil, .nil]], [], []) := by kernel_rfl
  have hl : laidMet Tryz.prog Rows.printLinkagesRow.laid ((laidWorld os).forCall (fun _ _ => 0) ⟨#[], #[.agg #[.string ⟨#[]⟩, .slice none 0 0, .slice none 0 0, .slice none 0 0]], []⟩).memory := laidMet_of_run' 8 (by kernel_rfl) (by kernel_rfl)
  refine returnsInHanded_of_row (C := Tryz.checked) (s := OpenSpec.ofChange Rows.printLinkagesSpec) own_knob started (by kernel_rfl) Tryz.func3
    (witness_row_at (enc := enc) (C := Tryz.checked) false (laidWorld os) #[.agg #[.string ⟨#[]⟩, .slice none 0 0, .slice none 0 0, .slice none 0 0]] rfl (by kernel_rfl) (by kernel_rfl) (by kernel_rfl)
      (OpenSpec.preRow_of_cond 8 hx (by kernel_rfl) (fun k hk => by cases hk) (by kernel_rfl) hl)) ?_
  intro W base args ds gs before hval hW _ _ hwt hL hsh _
  exact linkages_contract H enc W base args ds gs before hval hW hL hwt
theorem linkages_j2 : (Rows.printLinkagesRow.inPlace == Tryz.pinned.checked.prog.inPlace 3) = true := by kernel_rfl
theorem linkages_j3 : (Rows.printLinkagesRow.unfollowed == Tryz.pinned.checked.prog.unfollowed 3) = true := by kernel_rfl
theorem linkages_j4 : (Rows.printLinkagesRow.recurses == Tryz.pinned.checked.prog.recurses 3) = true := by kernel_rfl
theorem linkages_j5 : (Rows.printLinkagesRow.named == Tryz.pinned.checked.prog.varsNamed 3) = true := by kernel_rfl
theorem linkages_joined : joinedFacts Tryz.pinned.checked.prog 3 Tryz.f3 (OpenSpec.ofChange Rows.printLinkagesSpec).bare Rows.printLinkagesRow = true := joined_parts (by kernel_rfl) linkages_j2 linkages_j3 linkages_j4 linkages_j5 (by kernel_rfl)
theorem linkages_inst : Tryz.f3.isInstance Tryz.pinned.checked.prog Rows.printLinkagesRow.origin Rows.printLinkagesRow.targs := of_decide_eq_true (by kernel_rfl)
theorem linkages_said : Rows.PrintLinkagesSaid :=
  OpenClaim.holds_of_cond 3 Tryz.f3 rfl rfl rfl rfl rfl rfl rfl ⟨rfl, rfl, rfl, rfl, rfl⟩ rfl rfl rfl rfl rfl (by kernel_rfl) Tryz.func3 linkages_joined
    linkages_inst (by unfold Func.isWrapper; first | (rw [if_pos (by decide +kernel)]; kernel_rfl) | (rw [if_neg (by decide +kernel)]; exact ⟨rfl, rfl⟩))
    (fun os started H enc _ F => by rw [OpenClaim.pre_eq_preRow]; exact linkages_lifted os started H enc F)
theorem linkages_plain (f : FuncId) (fn : Func) (hf : Tryz.pinned.checked.prog.funcNamed "linkwork/linkworklaw21.PrintLinkages" = some f) (hfn : Tryz.pinned.checked.prog.funcs[f]? = some fn) :
    true = Tryz.pinned.checked.prog.looks [] ∧ ∀ (j : Nat) t, fn.params[j]? = some t → Tryz.pinned.checked.prog.wantsStandIn t = false := by
  obtain rfl : f = 3 := Option.some.inj ((show Tryz.prog.funcNamed "linkwork/linkworklaw21.PrintLinkages" = some 3 by kernel_rfl).symm.trans hf) |>.symm
  obtain rfl : fn = Tryz.f3 := (Option.some.inj (Tryz.func3.symm.trans hfn)).symm
  refine ⟨by kernel_rfl, fun j t ht => ?_⟩
  rw [Tryz.params3] at ht
  have hm : t ∈ [26] := by
    have := Array.mem_of_getElem? ht
    simp at this ⊢
    first
      | exact this
      | exact .inl this
  have hall : ([26].all fun u => !Tryz.prog.wantsStandIn u) = true := by kernel_rfl
  exact (show Tryz.prog.wantsStandIn t = false by simpa using List.all_eq_true.1 hall t hm)
theorem linkages_holds : Rows.PrintLinkagesCardSaid :=
  Claim7.holds_tied_plain_at .later [] _ _ _ _ linkages_said (fun _ h => by cases h) (by kernel_rfl) (fun _ h => by cases h) printLinkages_row_tie rfl ⟨rfl, rfl⟩ (by kernel_rfl) rfl linkages_plain (by kernel_rfl)
end Go.Proofs.YtckjakojllcdoaaGreatDoor
