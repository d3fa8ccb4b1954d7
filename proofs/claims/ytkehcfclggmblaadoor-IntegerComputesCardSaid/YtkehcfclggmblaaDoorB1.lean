/- IntegerComputes: for all integers a and b of any data (of more than 30 words the law says nothing but that the examples hold): Neg, Add, Sub, Mul and Cmp are those of the reference; for every input the law returns true. The listed library tables are tied to the program text. -/
import Derived.Deep.RegionHeld3
import Derived.Deep.DrawnRows
import Derived.Test.YtkehcfclggmblaaDoorA3
set_option linter.unusedVariables false
/- Walks: IntegerComputes. -/
namespace Go.Proofs.YtkehcfclggmblaaDoor
open Go Go.RowKit Bn
attribute [local go_sem ↓] Go.wp_at_zero Go.wp_at_succ
set_option maxRecDepth 100000 in
set_option maxHeartbeats 8000000 in
/-- linkworklaw01.IntegerComputes -/
theorem l_IntegerComputes (w : World) (b : Bool) (A : Option Addr) (n c : Nat) (z : Int) (k : Nat) (H : IZ w b A n c z k) (b' : Bool) (A' : Option Addr) (n' c' : Nat) (z' : Int) (k' : Nat) (H' : IZ w b' A' n' c' z' k') (htab : Tab w) :
    Calls Tryd.prog 7 #[.agg #[.bool b, .slice A n c], .agg #[.bool b', .slice A' n' c']] w (RetV w (.bool true)) := by
  go_enter Tryd.func7, Tryd.ntmps7
  go_wp2_with fail
  (with_reducible refine (l_short _ (w.heap.size + 1 + 1) 2 (fun i : Nat => if i = 0 then n else n') ?_ ?_).mono ?_); (exact ws2 (blkAt _ _ _ (by simp))); (decide); rintro e w1 ⟨r1, rfl, hr1, hb1⟩
  have q1 : Below w.heap.size w w1 := ((((Below.refl _ _).alloc (Nat.le_refl _) _).alloc (by simp) _).alloc (by simp <;> omega) _).trans (hb1.mono (by simp <;> omega))
  replace H := H.belw q1
  replace H' := H'.belw q1
  have x1_0 : Blk w1 (w.heap.size) 24 #[.bool b, .slice A n c] := (((blkAt _ _ _ (by simp)).alloc _).alloc _).below hb1 (by simp <;> omega)
  have x1_1 : Blk w1 (w.heap.size + 1) 24 #[.bool b', .slice A' n' c'] := ((blkAt _ _ _ (by simp)).alloc _).below hb1 (by simp <;> omega)
  have x1_2 : Blk w1 (w.heap.size + 1 + 1) 24 #[.bool b, .slice A n c, .bool b', .slice A' n' c'] := (blkAt _ _ _ (by simp)).below hb1 (by simp)
  have bw1 : Below w.heap.size w w1 := (brefl w).trans (q1.mono (brefl w).size)
  have lw1 : w.heap.size + 3 ≤ w1.heap.size := by have := hb1.size; simp at this; omega
  clear hb1 q1
  cases r1
  · clear hr1
    go_wp2_with fail
    (with_reducible refine (l_awake _  ?_).mono ?_); (exact htab.belw bw1); rintro e w2 ⟨rfl, hb2⟩
    have q2 : Below w1.heap.size w1 w2 := hb2
    replace H := H.belw q2
    replace H' := H'.belw q2
    replace x1_0 := x1_0.below q2 x1_0.lt
    replace x1_1 := x1_1.below q2 x1_1.lt
    replace x1_2 := x1_2.below q2 x1_2.lt
    have bw2 : Below w.heap.size w w2 := bw1.trans (q2.mono bw1.size)
    have lw2 : w1.heap.size ≤ w2.heap.size := q2.size
    clear hb2 q2 bw1
    go_wp2_with fail
    go_ret
    exact retB rfl bw2
  · replace H := IZ.short H (hr1 rfl 0 (by decide))
    replace H' := IZ.short H' (hr1 rfl 1 (by decide))
    clear hr1
    go_wp2_with fail
    (with_reducible refine (l_awake _  ?_).mono ?_); (exact htab.belw bw1); rintro e w2 ⟨rfl, hb2⟩
    have q2 : Below w1.heap.size w1 w2 := hb2
    replace H := H.belw q2
    replace H' := H'.belw q2
    replace x1_0 := x1_0.below q2 x1_0.lt
    replace x1_1 := x1_1.below q2 x1_1.lt
    replace x1_2 := x1_2.below q2 x1_2.lt
    have bw2 : Below w.heap.size w w2 := bw1.trans (q2.mono bw1.size)
    have lw2 : w1.heap.size ≤ w2.heap.size := q2.size
    clear hb2 q2 bw1
    obtain ⟨cx1_0_0, cx1_0_1⟩ := x1_0.c2
    obtain ⟨lx1_0_0, lx1_0_1, lx1_0_2, lx1_0_3⟩ := lts0 x1_0.lt
    obtain ⟨cx1_1_0, cx1_1_1⟩ := x1_1.c2
    obtain ⟨lx1_1_0, lx1_1_1, lx1_1_2, lx1_1_3⟩ := lts1 x1_1.lt
    obtain ⟨lx1_2_0, lx1_2_1, lx1_2_2, lx1_2_3⟩ := lts2 x1_2.lt
    go_wp2_with fail
    go_region_held3 (fun w' => Sees w2.heap.size w2 w') (first | with_reducible exact Sees.of (Nat.le_refl _) (by assumption) | with_reducible exact Sees.of (Nat.le_refl _) (brefl _).drew | exact Sees.of (Nat.le_refl _) (below_drewN (brefl _) 1) | exact Sees.of (Nat.le_refl _) (below_drewN (by assumption) _))
      (first
        | (go_at_call 32; (with_reducible refine (i_neg _ b A n c (z) (30) ?_ ?_).mono ?_); (exact H); (first | omega | decide | assumption); rintro e w3 ⟨b3, A3, n3, c3, rfl, h3, hb3⟩; replace hb3 := bnext (below_drewN (brefl _) 1) hb3; have q3 : Below w2.heap.size w2 w3 := bnext (brefl w2) hb3; replace H := H.belw hb3; replace H' := H'.belw hb3)
        | (go_at_call 34; (with_reducible refine (r01_neg _ b A n c (z) (30) ?_ ?_).mono ?_); (exact H); (first | omega | decide | assumption); rintro e w4 ⟨b4, A4, n4, c4, rfl, h4, hb4⟩; have q4 : Below w2.heap.size w2 w4 := bnext q3 hb4; replace H := H.belw hb4; replace H' := H'.belw hb4; replace h3 := h3.belw hb4)
        | (go_at_call 16; (with_reducible refine (s_same _ b3 A3 n3 c3 (-(z)) ((30)) ?_ b4 A4 n4 c4 (-(z)) ((30)) ?_  ?_ ?_).mono ?_); (exact h3); (exact h4); (exact rfl); (first | omega | decide | assumption); rintro e w5 ⟨rfl, hb5⟩; have q5 : Below w2.heap.size w2 w5 := bnext q4 hb5; replace H := H.belw hb5; replace H' := H'.belw hb5; replace h3 := h3.belw hb5; replace h4 := h4.belw hb5)
        | (go_at_call 29; (with_reducible refine (i_add _ b A n c (z) (30) ?_ b' A' n' c' (z') (30) ?_ ?_).mono ?_); (exact H); (exact H'); (first | omega | decide | assumption); rintro e w6 ⟨b6, A6, n6, c6, rfl, h6, hb6⟩; have q6 : Below w2.heap.size w2 w6 := bnext q5 hb6; replace H := H.belw hb6; replace H' := H'.belw hb6; replace h3 := h3.belw hb6; replace h4 := h4.belw hb6)
        | (go_at_call 35; (with_reducible refine (r01_add _ b A n c (z) (30) ?_ b' A' n' c' (z') (30) ?_ ?_).mono ?_); (exact H); (exact H'); (first | omega | decide | assumption); rintro e w7 ⟨b7, A7, n7, c7, rfl, h7, hb7⟩; have q7 : Below w2.heap.size w2 w7 := bnext q6 hb7; replace H := H.belw hb7; replace H' := H'.belw hb7; replace h3 := h3.belw hb7; replace h4 := h4.belw hb7; replace h6 := h6.belw hb7)
        | (go_at_call 16; (with_reducible refine (s_same _ b6 A6 n6 c6 ((z) + (z')) ((30) + (30) + 1) ?_ b7 A7 n7 c7 ((z) + (z')) ((30) + (30) + 1) ?_  ?_ ?_).mono ?_); (exact h6); (exact h7); (exact rfl); (first | omega | decide | assumption); rintro e w8 ⟨rfl, hb8⟩; have q8 : Below w2.heap.size w2 w8 := bnext q7 hb8; replace H := H.belw hb8; replace H' := H'.belw hb8; replace h3 := h3.belw hb8; replace h4 := h4.belw hb8; replace h6 := h6.belw hb8; replace h7 := h7.belw hb8)
        | (go_at_call 31; (with_reducible refine (i_sub _ b A n c (z) (30) ?_ b' A' n' c' (z') (30) ?_ ?_).mono ?_); (exact H); (exact H'); (first | omega | decide | assumption); rintro e w9 ⟨b9, A9, n9, c9, rfl, h9, hb9⟩; have q9 : Below w2.heap.size w2 w9 := bnext q8 hb9; replace H := H.belw hb9; replace H' := H'.belw hb9; replace h3 := h3.belw hb9; replace h4 := h4.belw hb9; replace h6 := h6.belw hb9; replace h7 := h7.belw hb9)
        | (go_at_call 36; (with_reducible refine (r01_sub _ b A n c (z) (30) ?_ b' A' n' c' (z') (30) ?_ ?_).mono ?_); (exact H); (exact H'); (first | omega | decide | assumption); rintro e w10 ⟨b10, A10, n10, c10, rfl, h10, hb10⟩; have q10 : Below w2.heap.size w2 w10 := bnext q9 hb10; replace H := H.belw hb10; replace H' := H'.belw hb10; replace h3 := h3.belw hb10; replace h4 := h4.belw hb10; replace h6 := h6.belw hb10; replace h7 := h7.belw hb10; replace h9 := h9.belw hb10)
        | (go_at_call 16; (with_reducible refine (s_same _ b9 A9 n9 c9 ((z) + -(z')) ((30) + (30) + 1) ?_ b10 A10 n10 c10 ((z) + -(z')) ((30) + (30) + 1) ?_  ?_ ?_).mono ?_); (exact h9); (exact h10); (exact rfl); (first | omega | decide | assumption); rintro e w11 ⟨rfl, hb11⟩; have q11 : Below w2.heap.size w2 w11 := bnext q10 hb11; replace H := H.belw hb11; replace H' := H'.belw hb11; replace h3 := h3.belw hb11; replace h4 := h4.belw hb11; replace h6 := h6.belw hb11; replace h7 := h7.belw hb11; replace h9 := h9.belw hb11; replace h10 := h10.belw hb11)
        | (go_at_call 30; (with_reducible refine (i_mul _ b A n c (z) (30) ?_ b' A' n' c' (z') (30) ?_ ?_).mono ?_); (exact H); (exact H'); (first | omega | decide | assumption); rintro e w12 ⟨b12, A12, n12, c12, rfl, h12, hb12⟩; have q12 : Below w2.heap.size w2 w12 := bnext q11 hb12; replace H := H.belw hb12; replace H' := H'.belw hb12; replace h3 := h3.belw hb12; replace h4 := h4.belw hb12; replace h6 := h6.belw hb12; replace h7 := h7.belw hb12; replace h9 := h9.belw hb12; replace h10 := h10.belw hb12)
        | (go_at_call 37; (with_reducible refine (r01_mul _ b A n c (z) (30) ?_ b' A' n' c' (z') (30) ?_ ?_).mono ?_); (exact H); (exact H'); (first | omega | decide | assumption); rintro e w13 ⟨b13, A13, n13, c13, rfl, h13, hb13⟩; have q13 : Below w2.heap.size w2 w13 := bnext q12 hb13; replace H := H.belw hb13; replace H' := H'.belw hb13; replace h3 := h3.belw hb13; replace h4 := h4.belw hb13; replace h6 := h6.belw hb13; replace h7 := h7.belw hb13; replace h9 := h9.belw hb13; replace h10 := h10.belw hb13; replace h12 := h12.belw hb13)
        | (go_at_call 16; (with_reducible refine (s_same _ b12 A12 n12 c12 ((z) * (z')) ((30) + (30)) ?_ b13 A13 n13 c13 ((z) * (z')) ((30) + (30)) ?_  ?_ ?_).mono ?_); (exact h12); (exact h13); (exact rfl); (first | omega | decide | assumption); rintro e w14 ⟨rfl, hb14⟩; have q14 : Below w2.heap.size w2 w14 := bnext q13 hb14; replace H := H.belw hb14; replace H' := H'.belw hb14; replace h3 := h3.belw hb14; replace h4 := h4.belw hb14; replace h6 := h6.belw hb14; replace h7 := h7.belw hb14; replace h9 := h9.belw hb14; replace h10 := h10.belw hb14; replace h12 := h12.belw hb14; replace h13 := h13.belw hb14)
        | (go_at_call 33; (with_reducible refine (i_cmp _ b A n c (z) (30) ?_ b' A' n' c' (z') (30) ?_ ?_).mono ?_); (exact H); (exact H'); (first | omega | decide | assumption); rintro e w15 ⟨rfl, hb15⟩; have q15 : Below w2.heap.size w2 w15 := bnext q14 hb15; replace H := H.belw hb15; replace H' := H'.belw hb15; replace h3 := h3.belw hb15; replace h4 := h4.belw hb15; replace h6 := h6.belw hb15; replace h7 := h7.belw hb15; replace h9 := h9.belw hb15; replace h10 := h10.belw hb15; replace h12 := h12.belw hb15; replace h13 := h13.belw hb15)
        | (go_at_call 38; (with_reducible refine (r01_cmp _ b A n c (z) (30) ?_ b' A' n' c' (z') (30) ?_ ?_).mono ?_); (exact H); (exact H'); (first | omega | decide | assumption); rintro e w16 ⟨rfl, hb16⟩; have q16 : Below w2.heap.size w2 w16 := bnext q15 hb16; replace H := H.belw hb16; replace H' := H'.belw hb16; replace h3 := h3.belw hb16; replace h4 := h4.belw hb16; replace h6 := h6.belw hb16; replace h7 := h7.belw hb16; replace h9 := h9.belw hb16; replace h10 := h10.belw hb16; replace h12 := h12.belw hb16; replace h13 := h13.belw hb16))
    have bw16 : Below w.heap.size w w16 := bw2.trans (q16.mono bw2.size)
    clear cx1_0_0 cx1_0_1 lx1_0_0 lx1_0_1 lx1_0_2 lx1_0_3 cx1_1_0 cx1_1_1 lx1_1_0 lx1_1_1 lx1_1_2 lx1_1_3 lx1_2_0 lx1_2_1 lx1_2_2 lx1_2_3
    replace x1_0 := x1_0.below q16 x1_0.lt
    replace x1_1 := x1_1.below q16 x1_1.lt
    replace x1_2 := x1_2.below q16 x1_2.lt
    have lw16 : w2.heap.size ≤ w16.heap.size := q16.size
    go_wp2_with fail
    go_ret
    exact retB rfl bw16
end Go.Proofs.YtkehcfclggmblaaDoor

namespace Go.Proofs.YtkehcfclggmblaaDoor
open Go Go.RowKit Bn Go.ChangeShapes Go.WideShapes Go.ChangeAt
set_option maxRecDepth 100000 in
theorem computes_contract (H : Type) (enc : TypeId × Value → H) (W : World) (base : Nat) (args : Array Value) (ds gs : List (DataW H)) (before : List MemPlace)
    (hval0 : ∀ (j : Nat) t v, Tryd.f7.params[j]? = some t → args[j]? = some v → Value.okWide Tryd.prog W .any base t v)
    (hW : DataW.Whole enc Tryd.prog Tryd.f7.params.toList Rows.integerComputesSpec.vars false W args.toList ds gs before) (hL : laidMetH Tryd.prog Rows.integerComputesRow.laid W) :
    Calls Tryd.prog 7 args W fun e W' => ∃ v, e = .returned v ∧ Rows.integerComputesSpec.post enc Tryd.prog Tryd.f7 false true false false W args v W' := by
  have hval : ∀ (j : Nat) t v, Tryd.f7.params[j]? = some t → args[j]? = some v → Value.okWide Tryd.prog W .any base t v := hval0
  have htab : Tab W := tab_of_laid hL
  have hW' := hW
  obtain ⟨p, q, hA0, hV, rfl, hfz, hnd⟩ := hW
  have hA : DataW.TrodAll enc Tryd.prog W 0 (fun _ => true) true Tryd.f7.params.toList args.toList ds p := hA0
  rw [Tryd.params7] at hA hval
  obtain ⟨v0, v1, d0, d1, p0, p1, rfl, rfl, rfl, h0, h1⟩ := trodAll_two hA
  obtain ⟨rfl, rfl⟩ := trodVars_none hV
  obtain ⟨b, A, n, c, z, k, rfl, H⟩ := whole_open (hval 0 _ v0 rfl rfl) h0
  obtain ⟨b', A', n', c', z', k', rfl, H'⟩ := whole_open (hval 1 _ v1 rfl rfl) h1
  refine (l_IntegerComputes W b A n c z k H b' A' n' c' z' k' H' htab).mono fun e W' ⟨he, hb⟩ => ?_
  subst he
  exact ⟨_, rfl, law_post laid_out Tryd.underlying4 hW' rfl rfl (by kernel_rfl) rfl rfl rfl hb⟩
set_option maxRecDepth 100000 in
theorem computes_lifted (os : Os) (started : os.Started) (H : Type) (enc : TypeId × Value → H) (F : Stop.Interp) :
    ReturnsInHanded {} Tryd.checked os 7 .any ((OpenSpec.ofChange Rows.integerComputesSpec).preRow enc Tryd.prog Tryd.f7 Rows.integerComputesRow.domain false Rows.integerComputesRow.laid) (((OpenSpec.ofChange Rows.integerComputesSpec).at F).post enc Tryd.prog Tryd.f7 false true false false) := by
  have hx : DataW.whole enc Tryd.prog ((laidWorld os).forCall (fun _ _ => 0) ⟨#[], #[.agg #[.bool false, .slice none 0 0], .agg #[.bool false, .slice none 0 0]], []⟩).memory Tryd.f7.params.toList Rows.integerComputesSpec.vars false (#[.agg #[.bool false, .slice none 0 0], .agg #[.bool false, .slice none 0 0]] : Array Value).toList 8 = some ([.agg [.lit (.bool false), .nil], .agg [.lit (.bool false), .nil]], [], []) := by kernel_rfl
  have hl : laidMet Tryd.prog Rows.integerComputesRow.laid ((laidWorld os).forCall (fun _ _ => 0) ⟨#[], #[.agg #[.bool false, .slice none 0 0], .agg #[.bool false, .slice none 0 0]], []⟩).memory := laidMet_of_run' 8 (by kernel_rfl) (by kernel_rfl)
  refine returnsInHanded_of_row (C := Tryd.checked) (s := OpenSpec.ofChange Rows.integerComputesSpec) own_knob started (by kernel_rfl) Tryd.func7
    (witness_row_at (enc := enc) (C := Tryd.checked) false (laidWorld os) #[.agg #[.bool false, .slice none 0 0], .agg #[.bool false, .slice none 0 0]] rfl (by kernel_rfl) (by kernel_rfl) (by kernel_rfl)
      (OpenSpec.preRow_of_cond 8 hx (by kernel_rfl) (fun k hk => by cases hk) (by kernel_rfl) hl)) ?_
  intro W base args ds gs before hval hW _ _ _ hL _ _
  exact computes_contract H enc W base args ds gs before hval hW hL
theorem computes_said : Rows.IntegerComputesSaid :=
  OpenClaim.holds_of_cond 7 Tryd.f7 rfl rfl rfl rfl rfl rfl rfl ⟨rfl, rfl, rfl, rfl, rfl⟩ rfl rfl rfl rfl rfl (by kernel_rfl) Tryd.func7 (by kernel_rfl)
    (of_decide_eq_true (by kernel_rfl)) (by unfold Func.isWrapper; first | (rw [if_pos (by decide +kernel)]; kernel_rfl) | (rw [if_neg (by decide +kernel)]; exact ⟨rfl, rfl⟩))
    (fun os started H enc _ F => by rw [OpenClaim.pre_eq_preRow]; exact computes_lifted os started H enc F)
theorem computes_plain (f : FuncId) (fn : Func) (hf : Tryd.pinned.checked.prog.funcNamed "linkwork/linkworklaw01.IntegerComputes" = some f) (hfn : Tryd.pinned.checked.prog.funcs[f]? = some fn) :
    true = Tryd.pinned.checked.prog.looks [] ∧ ∀ (j : Nat) t, fn.params[j]? = some t → Tryd.pinned.checked.prog.wantsStandIn t = false := by
  obtain rfl : f = 7 := Option.some.inj ((show Tryd.prog.funcNamed "linkwork/linkworklaw01.IntegerComputes" = some 7 by kernel_rfl).symm.trans hf) |>.symm
  obtain rfl : fn = Tryd.f7 := (Option.some.inj (Tryd.func7.symm.trans hfn)).symm
  refine ⟨by kernel_rfl, fun j t ht => ?_⟩
  rw [Tryd.params7] at ht
  have hm : t ∈ [24, 3] := by
    have := Array.mem_of_getElem? ht
    simp at this ⊢
    first
      | exact this
      | exact .inl this
  have hall : ([24, 3].all fun u => !Tryd.prog.wantsStandIn u) = true := by kernel_rfl
  exact (show Tryd.prog.wantsStandIn t = false by simpa using List.all_eq_true.1 hall t hm)
theorem computes_holds : Rows.IntegerComputesCardSaid :=
  Claim7.holds_tied_plain_at .later [] _ _ _ _ computes_said (fun _ h => by cases h) (by kernel_rfl) (fun _ h => by cases h) integerComputes_row_tie rfl ⟨rfl, rfl⟩ (by kernel_rfl) rfl computes_plain (by kernel_rfl)
end Go.Proofs.YtkehcfclggmblaaDoor
