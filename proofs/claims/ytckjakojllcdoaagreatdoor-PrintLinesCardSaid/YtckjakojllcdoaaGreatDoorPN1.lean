/- PrintLines: the text of a linkage has one line for it and for each body, joint and driver, and every line is ended; for every input the law returns true. The listed library variables are tied to the program text. -/
import Derived.Below
import Derived.Laws.OwnMore
import Derived.Deep.Draws
import Derived.OneCell
import Derived.Laws.Rows
import Derived.Test.YtckjakojllcdoaaGreatDoorProg
import Derived.WalkKit
import Derived.WalkSpells
import Derived.WalkLawsBesides
import Derived.BigQuiet
import Derived.Deep.QuietTactic
import Derived.Deep.AppendLies
import Derived.Lib.Hide
import Derived.Deep.RegionHeld3
import Derived.Deep.DrawnRows
import Derived.Shelf.Strings.Builder1
import Derived.Shelf.Strings.Builder2
import Derived.Shelf.Strings.OnBuilder
import Derived.Shelf.Small.Bits
import Derived.Shelf.Strings.BuilderF
import Derived.Shelf.Strings.BuilderK
import Derived.Shelf.Strings.Builder2Cap
import Derived.Shelf.Strconv.Itoa0
import Derived.Shelf.Strconv.Itoa1
import Derived.Shelf.LaysM
import Derived.Shelf.Strconv.Itoa2
import Derived.Shelf.Strconv.Itoa3
import Derived.Shelf.Strings.Search1
import Derived.Shelf.Strings.Search2
import Derived.Shelf.Strings.Search3
import Derived.Shelf.Strings.Count
import Derived.Shelf.Strings.Shaped
import Derived.Shelf.Strings.Prefix
import Derived.Shelf.Bits.Mul64
import Derived.Shelf.Strings.Repeat
import Derived.Shelf.Strings.BuilderCap
import Derived.IntWalk
import Derived.Deep.DeepCutAuto
import Derived.Deep.RegionHeld
import Derived.Lib.ItoaNum
import Derived.Lib.ItoaMem
import Derived.Lib.Repeat
import Derived.Lib.Join
import Derived.Lib.Atoi
import Derived.Lib.SlTrimSet
import Derived.Lib.AppendIntMem
import Derived.Shelf.Strings.SlTrimAscii
import Derived.Lib.IndexMore
import Derived.Test.YtckjakojllcdoaaGreatDoorCards
import Derived.Test.YtckjakojllcdoaaGreatDoorTie
import Derived.ProofKit
import Derived.OpenShut
import Derived.Deep.DeepHandedRow
import Derived.Lib.LaidTab
import Derived.Shelf.Vars
import Derived.Deep.Slices
import Derived.SizedLaws
import Derived.ChangeMaps5
import Derived.Test.YtckjakojllcdoaaGreatDoorA5
set_option linter.unusedVariables false
set_option maxHeartbeats 8000000
set_option maxRecDepth 100000
namespace Go.Proofs.YtckjakojllcdoaaGreatDoor
open Go Go.RowKit Bn
attribute [local go_sem ↓] Go.wp_at_zero Go.wp_at_succ
theorem l_PrintLines (w : World) (A : Option Addr) (n c : Nat) (B : Option Addr) (p d : Nat) (C : Option Addr) (q e : Nat) (L : LinkL) (h : LkS reachBytes w A n c B p d C q e L) (htab : Tab w) : Calls Tryz.prog 6 #[.agg #[strV L.name, .slice A n c, .slice B p d, .slice C q e]] w (RetV w (.bool true)) := by
 have H := Lib.hid h
 have HTab := Lib.hid htab
 obtain ⟨v, hv⟩ : ∃ v, lgL L = v := ⟨_, rfl⟩
 have HV := Lib.hid hv
 clear h htab hv
 go_enter Tryz.func6, Tryz.ntmps6
 go_wp2_with fail
 have q0 : Below w.heap.size w (w.alloc (.cells #[strV L.name, .slice A n c, .slice B p d, .slice C q e] 26)) := (brefl w).alloc (Nat.le_refl _) _
 have x0 : Blk (w.alloc (.cells #[strV L.name, .slice A n c, .slice B p d, .slice C q e] 26)) w.heap.size 26 #[strV L.name, .slice A n c, .slice B p d, .slice C q e] := blkAt _ _ _ rfl
 generalize (w.alloc (.cells #[strV L.name, .slice A n c, .slice B p d, .slice C q e] 26)) = w0 at q0 x0 ⊢
 (with_reducible refine (l21_awake w0 (HTab.out.belw q0)).mono ?_); rintro e' w1 ⟨rfl, hb1⟩
 have q1 := q0.trans (hb1.mono q0.size)
 have x1 := x0.below hb1 x0.lt
 have hl1 : w.heap.size < w1.heap.size := x1.lt
 obtain ⟨c0, c1, c2, c3⟩ := x1.c4
 clear x0 q0 hb1
 go_wp2_with fail
 (with_reducible refine (l_large w1 A n c B p d C q e L (H.out.belw q1) v HV.out).mono ?_); rintro e' w2 ⟨rfl, hb2⟩
 have q2 := q1.trans (hb2.mono q1.size)
 have x2 := x1.below hb2 x1.lt
 have hl2 : w.heap.size < w2.heap.size := x2.lt
 clear c0 c1 c2 c3 x1 q1 hb2
 cases v
 ·have H40 := Lib.hid ((H.out.belw q2).of40 HV.out)
  obtain ⟨c0, c1, c2, c3⟩ := x2.c4
  go_wp2_with fail
  (with_reducible refine (p_lk w2 A n c B p d C q e L H40.out (HTab.out.belw q2)).mono ?_); rintro e' w3 ⟨rfl, hb3⟩
  have q3 := q2.trans (hb3.mono q2.size)
  have x3 := x2.below hb3 x2.lt
  have hl3 : w.heap.size < w3.heap.size := x3.lt
  clear c0 c1 c2 c3 hb3
  by_cases hE : outErr L = 0
  ·have hE0 : errV (outErr L) = .nilIface := if_pos hE
   have hT : outText L = lkText L := if_pos hE
   have hlk : lkErr L = 0 := by
    unfold outErr at hE
    split at hE
    ·exact hE
    ·rename_i h0; simpa using h0
   have hle : (lkText L).length ≤ 65536 := by
    unfold outErr at hE
    split at hE
    ·rename_i h0; exact absurd hE h0
    ·split at hE
     ·cases hE
     ·rename_i h0; exact Nat.le_of_not_lt fun h => h0 (.inr h)
   have hF := lkErr_full hlk
   have hcn := text_count hF
   rw [H.out.bodies.1, H.out.joints.1, H.out.drivers.1] at hcn
   have hsx := text_suffix L
   rw [hE0, hT]
   obtain ⟨T, hTT⟩ : ∃ T, lkText L = T := ⟨_, rfl⟩
   rw [hTT] at hcn hsx hle ⊢
   have hnb := hF.ok.nb
   have hnj := hF.ok.nj
   have hnd := hF.ok.nd
   rw [H.out.bodies.1] at hnb
   rw [H.out.joints.1] at hnj
   rw [H.out.drivers.1] at hnd
   have hsT := size_v T
   obtain ⟨c0, c1, c2, c3⟩ := x3.c4
   have u1 : ((Lib.countByte T 10 : Nat) : Int) = 1 + (n : Int) + (p : Int) + (q : Int) := by omega
   have v1 : IntKind.i64.wrap (1 + (n : Int)) = 1 + (n : Int) := wrap_i64 (by omega) (by omega)
   have v2 : IntKind.i64.wrap (1 + (n : Int) + (p : Int)) = 1 + (n : Int) + (p : Int) := wrap_i64 (by omega) (by omega)
   have v3 : IntKind.i64.wrap (1 + (n : Int) + (p : Int) + (q : Int)) = 1 + (n : Int) + (p : Int) + (q : Int) := wrap_i64 (by omega) (by omega)
   have HC := Lib.hid u1
   have HS := Lib.hid hsx
   have HL := Lib.hid hle
   clear hE hE0 hT hlk hle hF hcn hsx hTT hnb hnj hnd u1
   go_wp2_with fail
   go_quiet (first | (go_at_call 17; exact Calls.quiet_of_same (suf_v _ T HS.out HL.out)) | (go_at_call 18; exact Calls.quiet_of_same (cnt_v _ T _ HC.out)))
   go_wp2_with fail
   go_ret
   exact ⟨rfl, by first | exact q3 | exact below_drewN q3 _⟩
  ·have hE0 := eVp hE
   rw [hE0]
   clear hE0
   go_wp2_with fail
   go_ret
   exact ⟨rfl, q3⟩
 ·go_wp2_with fail
  (with_reducible refine (l21_awake w2 (HTab.out.belw q2)).mono ?_); rintro e' w3 ⟨rfl, hb3⟩
  have q3 := q2.trans (hb3.mono q2.size)
  go_wp2_with fail
  go_ret
  exact ⟨rfl, q3⟩
end Go.Proofs.YtckjakojllcdoaaGreatDoor

/- PrintLines: the text of a linkage has one line for it and for each body, joint and driver, and every line is ended; for every input the law returns true. The listed library variables are tied to the program text. -/
namespace Go.Proofs.YtckjakojllcdoaaGreatDoor
open Go Go.RowKit Bn Go.ChangeShapes Go.WideShapes Go.ChangeAt
theorem lines_contract (H : Type) (enc : TypeId × Value → H) (W : World) (base : Nat) (args : Array Value) (ds gs : List (DataW H)) (before : List MemPlace)
    (hval0 : ∀ (j : Nat) t v, Tryz.f6.params[j]? = some t → args[j]? = some v → Value.okWide Tryz.prog W .any base t v)
    (hW : DataW.Whole enc Tryz.prog Tryz.f6.params.toList Rows.printLinesSpec.vars false W args.toList ds gs before) (hL : laidMetH Tryz.prog Rows.printLinesRow.laid W) (hwt : (DataW.weightsEach Tryz.prog (Tryz.f6.params.toList ++ (OpenSpec.ofChange Rows.printLinesSpec).bare.plain.varTypes Tryz.prog) (ds ++ gs)).all (· ≤ reachBytes) = true) :
    Calls Tryz.prog 6 args W fun e W' => ∃ v, e = .returned v ∧ Rows.printLinesSpec.post enc Tryz.prog Tryz.f6 false true false false W args v W' := by
  have hval : ∀ (j : Nat) t v, Tryz.f6.params[j]? = some t → args[j]? = some v → Value.okWide Tryz.prog W .any base t v := hval0
  have htab : Tab W := tab_of_laid hL
  have hW' := hW
  obtain ⟨p, q, hA0, hV, rfl, hfz, hnd⟩ := hW
  have hA : DataW.TrodAll enc Tryz.prog W 0 (fun _ => true) true Tryz.f6.params.toList args.toList ds p := hA0
  rw [Tryz.params6] at hA hval
  obtain ⟨v0, d0, rfl, rfl, h0⟩ := trodAll_one hA
  obtain ⟨rfl, rfl⟩ := trodVars_none hV
  obtain ⟨A, n, c, B, p, d, C, q, e, L, rfl, H⟩ := link_open (hval 0 _ v0 rfl rfl) h0 (szd_of hwt (j := 0) rfl rfl)
  refine (l_PrintLines W A n c B p d C q e L H htab).mono fun e W' ⟨he, hb⟩ => ?_
  subst he
  exact ⟨_, rfl, law_post laid_out Tryz.underlying4 hW' rfl rfl (by kernel_rfl) rfl rfl rfl hb⟩
theorem lines_lifted (os : Os) (started : os.Started) (H : Type) (enc : TypeId × Value → H) (F : Stop.Interp) :
    ReturnsInHanded {} Tryz.checked os 6 .any ((OpenSpec.ofChange Rows.printLinesSpec).preRow enc Tryz.prog Tryz.f6 Rows.printLinesRow.domain false Rows.printLinesRow.laid) (((OpenSpec.ofChange Rows.printLinesSpec).at F).post enc Tryz.prog Tryz.f6 false true false false) := by
  have hx : DataW.whole enc Tryz.prog ((laidWorld os).forCall (fun _ _ => 0) ⟨#[], #[.agg #[.string ⟨#[]⟩, .slice none 0 0, .slice none 0 0, .slice none 0 0]], []⟩).memory Tryz.f6.params.toList Rows.printLinesSpec.vars false (#[.agg #[.string ⟨#[]⟩, .slice none 0 0, .slice none 0 0, .slice none 0 0]] : Array Value).toList 8 = some ([.agg [.lit (.string []), .nil, .nil, .nil]], [], []) := by kernel_rfl
  have hl : laidMet Tryz.prog Rows.printLinesRow.laid ((laidWorld os).forCall (fun _ _ => 0) ⟨#[], #[.agg #[.string ⟨#[]⟩, .slice none 0 0, .slice none 0 0, .slice none 0 0]], []⟩).memory := laidMet_of_run' 8 (by kernel_rfl) (by kernel_rfl)
  refine returnsInHanded_of_row (C := Tryz.checked) (s := OpenSpec.ofChange Rows.printLinesSpec) own_knob started (by kernel_rfl) Tryz.func6
    (witness_row_at (enc := enc) (C := Tryz.checked) false (laidWorld os) #[.agg #[.string ⟨#[]⟩, .slice none 0 0, .slice none 0 0, .slice none 0 0]] rfl (by kernel_rfl) (by kernel_rfl) (by kernel_rfl)
      (OpenSpec.preRow_of_cond 8 hx (by kernel_rfl) (fun k hk => by cases hk) (by kernel_rfl) hl)) ?_
  intro W base args ds gs before hval hW _ _ hwt hL hsh _
  exact lines_contract H enc W base args ds gs before hval hW hL hwt
theorem lines_j2 : (Rows.printLinesRow.inPlace == Tryz.pinned.checked.prog.inPlace 6) = true := by kernel_rfl
theorem lines_j3 : (Rows.printLinesRow.unfollowed == Tryz.pinned.checked.prog.unfollowed 6) = true := by kernel_rfl
theorem lines_j4 : (Rows.printLinesRow.recurses == Tryz.pinned.checked.prog.recurses 6) = true := by kernel_rfl
theorem lines_j5 : (Rows.printLinesRow.named == Tryz.pinned.checked.prog.varsNamed 6) = true := by kernel_rfl
theorem lines_joined : joinedFacts Tryz.pinned.checked.prog 6 Tryz.f6 (OpenSpec.ofChange Rows.printLinesSpec).bare Rows.printLinesRow = true := joined_parts (by kernel_rfl) lines_j2 lines_j3 lines_j4 lines_j5 (by kernel_rfl)
theorem lines_inst : Tryz.f6.isInstance Tryz.pinned.checked.prog Rows.printLinesRow.origin Rows.printLinesRow.targs := of_decide_eq_true (by kernel_rfl)
theorem lines_said : Rows.PrintLinesSaid :=
  OpenClaim.holds_of_cond 6 Tryz.f6 rfl rfl rfl rfl rfl rfl rfl ⟨rfl, rfl, rfl, rfl, rfl⟩ rfl rfl rfl rfl rfl (by kernel_rfl) Tryz.func6 lines_joined
    lines_inst (by unfold Func.isWrapper; first | (rw [if_pos (by decide +kernel)]; kernel_rfl) | (rw [if_neg (by decide +kernel)]; exact ⟨rfl, rfl⟩))
    (fun os started H enc _ F => by rw [OpenClaim.pre_eq_preRow]; exact lines_lifted os started H enc F)
theorem lines_plain (f : FuncId) (fn : Func) (hf : Tryz.pinned.checked.prog.funcNamed "linkwork/linkworklaw21.PrintLines" = some f) (hfn : Tryz.pinned.checked.prog.funcs[f]? = some fn) :
    true = Tryz.pinned.checked.prog.looks [] ∧ ∀ (j : Nat) t, fn.params[j]? = some t → Tryz.pinned.checked.prog.wantsStandIn t = false := by
  obtain rfl : f = 6 := Option.some.inj ((show Tryz.prog.funcNamed "linkwork/linkworklaw21.PrintLines" = some 6 by kernel_rfl).symm.trans hf) |>.symm
  obtain rfl : fn = Tryz.f6 := (Option.some.inj (Tryz.func6.symm.trans hfn)).symm
  refine ⟨by kernel_rfl, fun j t ht => ?_⟩
  rw [Tryz.params6] at ht
  have hm : t ∈ [26] := by
    have := Array.mem_of_getElem? ht
    simp at this ⊢
    first
      | exact this
      | exact .inl this
  have hall : ([26].all fun u => !Tryz.prog.wantsStandIn u) = true := by kernel_rfl
  exact (show Tryz.prog.wantsStandIn t = false by simpa using List.all_eq_true.1 hall t hm)
theorem lines_holds : Rows.PrintLinesCardSaid :=
  Claim7.holds_tied_plain_at .later [] _ _ _ _ lines_said (fun _ h => by cases h) (by kernel_rfl) (fun _ h => by cases h) printLines_row_tie rfl ⟨rfl, rfl⟩ (by kernel_rfl) rfl lines_plain (by kernel_rfl)
end Go.Proofs.YtckjakojllcdoaaGreatDoor
