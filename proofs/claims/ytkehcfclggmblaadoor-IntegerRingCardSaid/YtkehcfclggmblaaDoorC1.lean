/- IntegerRing: the laws of sums and products hold for all integers a, b and c; for every input the law returns true. The listed library tables are tied to the program text. -/
import Derived.Deep.RegionHeld3
import Derived.Deep.DrawnRows
import Derived.Test.YtkehcfclggmblaaDoorA3
set_option linter.unusedVariables false
/- Walks: IntegerRing. -/
namespace Go.Proofs.YtkehcfclggmblaaDoor
open Go Go.RowKit Bn
attribute [local go_sem ↓] Go.wp_at_zero Go.wp_at_succ
set_option maxRecDepth 100000 in
set_option maxHeartbeats 8000000 in
/-- linkworklaw01.IntegerRing -/
theorem l_IntegerRing (w : World) (b : Bool) (A : Option Addr) (n c : Nat) (z : Int) (k : Nat) (H : IZ w b A n c z k) (b' : Bool) (A' : Option Addr) (n' c' : Nat) (z' : Int) (k' : Nat) (H' : IZ w b' A' n' c' z' k') (b2 : Bool) (A2 : Option Addr) (n2 c2 : Nat) (z2 : Int) (k2 : Nat) (H2 : IZ w b2 A2 n2 c2 z2 k2) (htab : Tab w) :
    Calls Tryd.prog 5 #[.agg #[.bool b, .slice A n c], .agg #[.bool b', .slice A' n' c'], .agg #[.bool b2, .slice A2 n2 c2]] w (RetV w (.bool true)) := by
  go_enter Tryd.func5, Tryd.ntmps5
  go_wp2_with fail
  (with_reducible refine (l_short _ (w.heap.size + 1 + 1 + 1) 3 (fun i : Nat => if i = 0 then n else if i = 1 then n' else n2) ?_ ?_).mono ?_); (exact ws3 (blkAt _ _ _ (by simp))); (decide); rintro e w1 ⟨r1, rfl, hr1, hb1⟩
  have q1 : Below w.heap.size w w1 := (((((Below.refl _ _).alloc (Nat.le_refl _) _).alloc (by simp) _).alloc (by simp <;> omega) _).alloc (by simp <;> omega) _).trans (hb1.mono (by simp <;> omega))
  replace H := H.belw q1
  replace H' := H'.belw q1
  replace H2 := H2.belw q1
  have x1_0 : Blk w1 (w.heap.size) 24 #[.bool b, .slice A n c] := ((((blkAt _ _ _ (by simp)).alloc _).alloc _).alloc _).below hb1 (by simp <;> omega)
  have x1_1 : Blk w1 (w.heap.size + 1) 24 #[.bool b', .slice A' n' c'] := (((blkAt _ _ _ (by simp)).alloc _).alloc _).below hb1 (by simp <;> omega)
  have x1_2 : Blk w1 (w.heap.size + 1 + 1) 24 #[.bool b2, .slice A2 n2 c2] := ((blkAt _ _ _ (by simp)).alloc _).below hb1 (by simp <;> omega)
  have x1_3 : Blk w1 (w.heap.size + 1 + 1 + 1) 24 #[.bool b, .slice A n c, .bool b', .slice A' n' c', .bool b2, .slice A2 n2 c2] := (blkAt _ _ _ (by simp)).below hb1 (by simp)
  have bw1 : Below w.heap.size w w1 := (brefl w).trans (q1.mono (brefl w).size)
  have lw1 : w.heap.size + 4 ≤ w1.heap.size := by have := hb1.size; simp at this; omega
  clear hb1 q1
  cases r1
  · clear hr1
    go_wp2_with fail
    (with_reducible refine (l_awake _  ?_).mono ?_); (exact htab.belw bw1); rintro e w2 ⟨rfl, hb2⟩
    have q2 : Below w1.heap.size w1 w2 := hb2
    replace H := H.belw q2
    replace H' := H'.belw q2
    replace H2 := H2.belw q2
    replace x1_0 := x1_0.below q2 x1_0.lt
    replace x1_1 := x1_1.below q2 x1_1.lt
    replace x1_2 := x1_2.below q2 x1_2.lt
    replace x1_3 := x1_3.below q2 x1_3.lt
    have bw2 : Below w.heap.size w w2 := bw1.trans (q2.mono bw1.size)
    have lw2 : w1.heap.size ≤ w2.heap.size := q2.size
    clear hb2 q2 bw1
    go_wp2_with fail
    go_ret
    exact retB rfl bw2
  · replace H := IZ.short H (hr1 rfl 0 (by decide))
    replace H' := IZ.short H' (hr1 rfl 1 (by decide))
    replace H2 := IZ.short H2 (hr1 rfl 2 (by decide))
    clear hr1
    go_wp2_with fail
    (with_reducible refine (l_awake _  ?_).mono ?_); (exact htab.belw bw1); rintro e w2 ⟨rfl, hb2⟩
    have q2 : Below w1.heap.size w1 w2 := hb2
    replace H := H.belw q2
    replace H' := H'.belw q2
    replace H2 := H2.belw q2
    replace x1_0 := x1_0.below q2 x1_0.lt
    replace x1_1 := x1_1.below q2 x1_1.lt
    replace x1_2 := x1_2.below q2 x1_2.lt
    replace x1_3 := x1_3.below q2 x1_3.lt
    have bw2 : Below w.heap.size w w2 := bw1.trans (q2.mono bw1.size)
    have lw2 : w1.heap.size ≤ w2.heap.size := q2.size
    clear hb2 q2 bw1
    obtain ⟨cx1_0_0, cx1_0_1⟩ := x1_0.c2
    obtain ⟨lx1_0_0, lx1_0_1, lx1_0_2, lx1_0_3⟩ := lts0 x1_0.lt
    obtain ⟨cx1_1_0, cx1_1_1⟩ := x1_1.c2
    obtain ⟨lx1_1_0, lx1_1_1, lx1_1_2, lx1_1_3⟩ := lts1 x1_1.lt
    obtain ⟨cx1_2_0, cx1_2_1⟩ := x1_2.c2
    obtain ⟨lx1_2_0, lx1_2_1, lx1_2_2, lx1_2_3⟩ := lts2 x1_2.lt
    obtain ⟨lx1_3_0, lx1_3_1, lx1_3_2, lx1_3_3⟩ := lts3 x1_3.lt
    go_wp2_with fail
    go_region_held3 (fun w' => Sees w2.heap.size w2 w') (first | with_reducible exact Sees.of (Nat.le_refl _) (by assumption) | with_reducible exact Sees.of (Nat.le_refl _) (brefl _).drew | exact Sees.of (Nat.le_refl _) (below_drewN (brefl _) 1) | exact Sees.of (Nat.le_refl _) (below_drewN (by assumption) _))
      (first
        | (go_at_call 29; (with_reducible refine (i_add _ b A n c (z) (30) ?_ b' A' n' c' (z') (30) ?_ ?_).mono ?_); (exact H); (exact H'); (first | omega | decide | assumption); rintro e w3 ⟨b3, A3, n3, c3, rfl, h3, hb3⟩; replace hb3 := bnext (below_drewN (brefl _) 1) hb3; have q3 : Below w2.heap.size w2 w3 := bnext (brefl w2) hb3; replace H := H.belw hb3; replace H' := H'.belw hb3; replace H2 := H2.belw hb3)
        | (go_at_call 29; (with_reducible refine (i_add _ b' A' n' c' (z') (30) ?_ b A n c (z) (30) ?_ ?_).mono ?_); (exact H'); (exact H); (first | omega | decide | assumption); rintro e w4 ⟨b4, A4, n4, c4, rfl, h4, hb4⟩; have q4 : Below w2.heap.size w2 w4 := bnext q3 hb4; replace H := H.belw hb4; replace H' := H'.belw hb4; replace H2 := H2.belw hb4; replace h3 := h3.belw hb4)
        | (go_at_call 16; (with_reducible refine (s_same _ b3 A3 n3 c3 ((z) + (z')) ((30) + (30) + 1) ?_ b4 A4 n4 c4 ((z') + (z)) ((30) + (30) + 1) ?_  ?_ ?_).mono ?_); (exact h3); (exact h4); (exact Int.add_comm _ _); (first | omega | decide | assumption); rintro e w5 ⟨rfl, hb5⟩; have q5 : Below w2.heap.size w2 w5 := bnext q4 hb5; replace H := H.belw hb5; replace H' := H'.belw hb5; replace H2 := H2.belw hb5; replace h3 := h3.belw hb5; replace h4 := h4.belw hb5)
        | (go_at_call 29; (with_reducible refine (i_add _ b A n c (z) (30) ?_ b' A' n' c' (z') (30) ?_ ?_).mono ?_); (exact H); (exact H'); (first | omega | decide | assumption); rintro e w6 ⟨b6, A6, n6, c6, rfl, h6, hb6⟩; have q6 : Below w2.heap.size w2 w6 := bnext q5 hb6; replace H := H.belw hb6; replace H' := H'.belw hb6; replace H2 := H2.belw hb6; replace h3 := h3.belw hb6; replace h4 := h4.belw hb6)
        | (go_at_call 29; (with_reducible refine (i_add _ b6 A6 n6 c6 ((z) + (z')) ((30) + (30) + 1) ?_ b2 A2 n2 c2 (z2) (30) ?_ ?_).mono ?_); (exact h6.iz); (exact H2); (first | omega | decide | assumption); rintro e w7 ⟨b7, A7, n7, c7, rfl, h7, hb7⟩; have q7 : Below w2.heap.size w2 w7 := bnext q6 hb7; replace H := H.belw hb7; replace H' := H'.belw hb7; replace H2 := H2.belw hb7; replace h3 := h3.belw hb7; replace h4 := h4.belw hb7; replace h6 := h6.belw hb7)
        | (go_at_call 29; (with_reducible refine (i_add _ b' A' n' c' (z') (30) ?_ b2 A2 n2 c2 (z2) (30) ?_ ?_).mono ?_); (exact H'); (exact H2); (first | omega | decide | assumption); rintro e w8 ⟨b8, A8, n8, c8, rfl, h8, hb8⟩; have q8 : Below w2.heap.size w2 w8 := bnext q7 hb8; replace H := H.belw hb8; replace H' := H'.belw hb8; replace H2 := H2.belw hb8; replace h3 := h3.belw hb8; replace h4 := h4.belw hb8; replace h6 := h6.belw hb8; replace h7 := h7.belw hb8)
        | (go_at_call 29; (with_reducible refine (i_add _ b A n c (z) (30) ?_ b8 A8 n8 c8 ((z') + (z2)) ((30) + (30) + 1) ?_ ?_).mono ?_); (exact H); (exact h8.iz); (first | omega | decide | assumption); rintro e w9 ⟨b9, A9, n9, c9, rfl, h9, hb9⟩; have q9 : Below w2.heap.size w2 w9 := bnext q8 hb9; replace H := H.belw hb9; replace H' := H'.belw hb9; replace H2 := H2.belw hb9; replace h3 := h3.belw hb9; replace h4 := h4.belw hb9; replace h6 := h6.belw hb9; replace h7 := h7.belw hb9; replace h8 := h8.belw hb9)
        | (go_at_call 16; (with_reducible refine (s_same _ b7 A7 n7 c7 (((z) + (z')) + (z2)) (((30) + (30) + 1) + (30) + 1) ?_ b9 A9 n9 c9 ((z) + ((z') + (z2))) ((30) + ((30) + (30) + 1) + 1) ?_  ?_ ?_).mono ?_); (exact h7); (exact h9); (exact Int.add_assoc _ _ _); (first | omega | decide | assumption); rintro e w10 ⟨rfl, hb10⟩; have q10 : Below w2.heap.size w2 w10 := bnext q9 hb10; replace H := H.belw hb10; replace H' := H'.belw hb10; replace H2 := H2.belw hb10; replace h3 := h3.belw hb10; replace h4 := h4.belw hb10; replace h6 := h6.belw hb10; replace h7 := h7.belw hb10; replace h8 := h8.belw hb10; replace h9 := h9.belw hb10))
    have bw10 : Below w.heap.size w w10 := bw2.trans (q10.mono bw2.size)
    clear cx1_0_0 cx1_0_1 lx1_0_0 lx1_0_1 lx1_0_2 lx1_0_3 cx1_1_0 cx1_1_1 lx1_1_0 lx1_1_1 lx1_1_2 lx1_1_3 cx1_2_0 cx1_2_1 lx1_2_0 lx1_2_1 lx1_2_2 lx1_2_3 lx1_3_0 lx1_3_1 lx1_3_2 lx1_3_3
    replace x1_0 := x1_0.below q10 x1_0.lt
    replace x1_1 := x1_1.below q10 x1_1.lt
    replace x1_2 := x1_2.below q10 x1_2.lt
    replace x1_3 := x1_3.below q10 x1_3.lt
    have lw10 : w2.heap.size ≤ w10.heap.size := q10.size
    obtain ⟨cx1_0_0, cx1_0_1⟩ := x1_0.c2
    obtain ⟨lx1_0_0, lx1_0_1, lx1_0_2, lx1_0_3⟩ := lts0 x1_0.lt
    obtain ⟨cx1_1_0, cx1_1_1⟩ := x1_1.c2
    obtain ⟨lx1_1_0, lx1_1_1, lx1_1_2, lx1_1_3⟩ := lts1 x1_1.lt
    obtain ⟨cx1_2_0, cx1_2_1⟩ := x1_2.c2
    obtain ⟨lx1_2_0, lx1_2_1, lx1_2_2, lx1_2_3⟩ := lts2 x1_2.lt
    obtain ⟨lx1_3_0, lx1_3_1, lx1_3_2, lx1_3_3⟩ := lts3 x1_3.lt
    go_wp2_with fail
    go_region_held3 (fun w' => Sees w10.heap.size w10 w') (first | with_reducible exact Sees.of (Nat.le_refl _) (by assumption) | with_reducible exact Sees.of (Nat.le_refl _) (brefl _).drew | exact Sees.of (Nat.le_refl _) (below_drewN (brefl _) 1) | exact Sees.of (Nat.le_refl _) (below_drewN (by assumption) _))
      (first
        | (go_at_call 30; (with_reducible refine (i_mul _ b A n c (z) (30) ?_ b' A' n' c' (z') (30) ?_ ?_).mono ?_); (exact H); (exact H'); (first | omega | decide | assumption); rintro e w11 ⟨b11, A11, n11, c11, rfl, h11, hb11⟩; replace hb11 := bnext (below_drewN (brefl _) 1) hb11; have q11 : Below w10.heap.size w10 w11 := bnext (brefl w10) hb11; replace H := H.belw hb11; replace H' := H'.belw hb11; replace H2 := H2.belw hb11; replace h3 := h3.belw hb11; replace h4 := h4.belw hb11; replace h6 := h6.belw hb11; replace h7 := h7.belw hb11; replace h8 := h8.belw hb11; replace h9 := h9.belw hb11)
        | (go_at_call 30; (with_reducible refine (i_mul _ b' A' n' c' (z') (30) ?_ b A n c (z) (30) ?_ ?_).mono ?_); (exact H'); (exact H); (first | omega | decide | assumption); rintro e w12 ⟨b12, A12, n12, c12, rfl, h12, hb12⟩; have q12 : Below w10.heap.size w10 w12 := bnext q11 hb12; replace H := H.belw hb12; replace H' := H'.belw hb12; replace H2 := H2.belw hb12; replace h3 := h3.belw hb12; replace h4 := h4.belw hb12; replace h6 := h6.belw hb12; replace h7 := h7.belw hb12; replace h8 := h8.belw hb12; replace h9 := h9.belw hb12; replace h11 := h11.belw hb12)
        | (go_at_call 16; (with_reducible refine (s_same _ b11 A11 n11 c11 ((z) * (z')) ((30) + (30)) ?_ b12 A12 n12 c12 ((z') * (z)) ((30) + (30)) ?_  ?_ ?_).mono ?_); (exact h11); (exact h12); (exact Int.mul_comm _ _); (first | omega | decide | assumption); rintro e w13 ⟨rfl, hb13⟩; have q13 : Below w10.heap.size w10 w13 := bnext q12 hb13; replace H := H.belw hb13; replace H' := H'.belw hb13; replace H2 := H2.belw hb13; replace h3 := h3.belw hb13; replace h4 := h4.belw hb13; replace h6 := h6.belw hb13; replace h7 := h7.belw hb13; replace h8 := h8.belw hb13; replace h9 := h9.belw hb13; replace h11 := h11.belw hb13; replace h12 := h12.belw hb13)
        | (go_at_call 30; (with_reducible refine (i_mul _ b A n c (z) (30) ?_ b' A' n' c' (z') (30) ?_ ?_).mono ?_); (exact H); (exact H'); (first | omega | decide | assumption); rintro e w14 ⟨b14, A14, n14, c14, rfl, h14, hb14⟩; have q14 : Below w10.heap.size w10 w14 := bnext q13 hb14; replace H := H.belw hb14; replace H' := H'.belw hb14; replace H2 := H2.belw hb14; replace h3 := h3.belw hb14; replace h4 := h4.belw hb14; replace h6 := h6.belw hb14; replace h7 := h7.belw hb14; replace h8 := h8.belw hb14; replace h9 := h9.belw hb14; replace h11 := h11.belw hb14; replace h12 := h12.belw hb14)
        | (go_at_call 30; (with_reducible refine (i_mul _ b14 A14 n14 c14 ((z) * (z')) ((30) + (30)) ?_ b2 A2 n2 c2 (z2) (30) ?_ ?_).mono ?_); (exact h14.iz); (exact H2); (first | omega | decide | assumption); rintro e w15 ⟨b15, A15, n15, c15, rfl, h15, hb15⟩; have q15 : Below w10.heap.size w10 w15 := bnext q14 hb15; replace H := H.belw hb15; replace H' := H'.belw hb15; replace H2 := H2.belw hb15; replace h3 := h3.belw hb15; replace h4 := h4.belw hb15; replace h6 := h6.belw hb15; replace h7 := h7.belw hb15; replace h8 := h8.belw hb15; replace h9 := h9.belw hb15; replace h11 := h11.belw hb15; replace h12 := h12.belw hb15; replace h14 := h14.belw hb15)
        | (go_at_call 30; (with_reducible refine (i_mul _ b' A' n' c' (z') (30) ?_ b2 A2 n2 c2 (z2) (30) ?_ ?_).mono ?_); (exact H'); (exact H2); (first | omega | decide | assumption); rintro e w16 ⟨b16, A16, n16, c16, rfl, h16, hb16⟩; have q16 : Below w10.heap.size w10 w16 := bnext q15 hb16; replace H := H.belw hb16; replace H' := H'.belw hb16; replace H2 := H2.belw hb16; replace h3 := h3.belw hb16; replace h4 := h4.belw hb16; replace h6 := h6.belw hb16; replace h7 := h7.belw hb16; replace h8 := h8.belw hb16; replace h9 := h9.belw hb16; replace h11 := h11.belw hb16; replace h12 := h12.belw hb16; replace h14 := h14.belw hb16; replace h15 := h15.belw hb16)
        | (go_at_call 30; (with_reducible refine (i_mul _ b A n c (z) (30) ?_ b16 A16 n16 c16 ((z') * (z2)) ((30) + (30)) ?_ ?_).mono ?_); (exact H); (exact h16.iz); (first | omega | decide | assumption); rintro e w17 ⟨b17, A17, n17, c17, rfl, h17, hb17⟩; have q17 : Below w10.heap.size w10 w17 := bnext q16 hb17; replace H := H.belw hb17; replace H' := H'.belw hb17; replace H2 := H2.belw hb17; replace h3 := h3.belw hb17; replace h4 := h4.belw hb17; replace h6 := h6.belw hb17; replace h7 := h7.belw hb17; replace h8 := h8.belw hb17; replace h9 := h9.belw hb17; replace h11 := h11.belw hb17; replace h12 := h12.belw hb17; replace h14 := h14.belw hb17; replace h15 := h15.belw hb17; replace h16 := h16.belw hb17)
        | (go_at_call 16; (with_reducible refine (s_same _ b15 A15 n15 c15 (((z) * (z')) * (z2)) (((30) + (30)) + (30)) ?_ b17 A17 n17 c17 ((z) * ((z') * (z2))) ((30) + ((30) + (30))) ?_  ?_ ?_).mono ?_); (exact h15); (exact h17); (exact Int.mul_assoc _ _ _); (first | omega | decide | assumption); rintro e w18 ⟨rfl, hb18⟩; have q18 : Below w10.heap.size w10 w18 := bnext q17 hb18; replace H := H.belw hb18; replace H' := H'.belw hb18; replace H2 := H2.belw hb18; replace h3 := h3.belw hb18; replace h4 := h4.belw hb18; replace h6 := h6.belw hb18; replace h7 := h7.belw hb18; replace h8 := h8.belw hb18; replace h9 := h9.belw hb18; replace h11 := h11.belw hb18; replace h12 := h12.belw hb18; replace h14 := h14.belw hb18; replace h15 := h15.belw hb18; replace h16 := h16.belw hb18; replace h17 := h17.belw hb18))
    have bw18 : Below w.heap.size w w18 := bw10.trans (q18.mono bw10.size)
    clear cx1_0_0 cx1_0_1 lx1_0_0 lx1_0_1 lx1_0_2 lx1_0_3 cx1_1_0 cx1_1_1 lx1_1_0 lx1_1_1 lx1_1_2 lx1_1_3 cx1_2_0 cx1_2_1 lx1_2_0 lx1_2_1 lx1_2_2 lx1_2_3 lx1_3_0 lx1_3_1 lx1_3_2 lx1_3_3
    replace x1_0 := x1_0.below q18 x1_0.lt
    replace x1_1 := x1_1.below q18 x1_1.lt
    replace x1_2 := x1_2.below q18 x1_2.lt
    replace x1_3 := x1_3.below q18 x1_3.lt
    have lw18 : w10.heap.size ≤ w18.heap.size := q18.size
    obtain ⟨cx1_0_0, cx1_0_1⟩ := x1_0.c2
    obtain ⟨lx1_0_0, lx1_0_1, lx1_0_2, lx1_0_3⟩ := lts0 x1_0.lt
    obtain ⟨cx1_1_0, cx1_1_1⟩ := x1_1.c2
    obtain ⟨lx1_1_0, lx1_1_1, lx1_1_2, lx1_1_3⟩ := lts1 x1_1.lt
    obtain ⟨cx1_2_0, cx1_2_1⟩ := x1_2.c2
    obtain ⟨lx1_2_0, lx1_2_1, lx1_2_2, lx1_2_3⟩ := lts2 x1_2.lt
    obtain ⟨lx1_3_0, lx1_3_1, lx1_3_2, lx1_3_3⟩ := lts3 x1_3.lt
    go_wp2_with fail
    go_region_held3 (fun w' => Sees w18.heap.size w18 w') (first | with_reducible exact Sees.of (Nat.le_refl _) (by assumption) | with_reducible exact Sees.of (Nat.le_refl _) (brefl _).drew | exact Sees.of (Nat.le_refl _) (below_drewN (brefl _) 1) | exact Sees.of (Nat.le_refl _) (below_drewN (by assumption) _))
      (first
        | (go_at_call 29; (with_reducible refine (i_add _ b' A' n' c' (z') (30) ?_ b2 A2 n2 c2 (z2) (30) ?_ ?_).mono ?_); (exact H'); (exact H2); (first | omega | decide | assumption); rintro e w19 ⟨b19, A19, n19, c19, rfl, h19, hb19⟩; replace hb19 := bnext (below_drewN (brefl _) 1) hb19; have q19 : Below w18.heap.size w18 w19 := bnext (brefl w18) hb19; replace H := H.belw hb19; replace H' := H'.belw hb19; replace H2 := H2.belw hb19; replace h3 := h3.belw hb19; replace h4 := h4.belw hb19; replace h6 := h6.belw hb19; replace h7 := h7.belw hb19; replace h8 := h8.belw hb19; replace h9 := h9.belw hb19; replace h11 := h11.belw hb19; replace h12 := h12.belw hb19; replace h14 := h14.belw hb19; replace h15 := h15.belw hb19; replace h16 := h16.belw hb19; replace h17 := h17.belw hb19)
        | (go_at_call 30; (with_reducible refine (i_mul _ b A n c (z) (30) ?_ b19 A19 n19 c19 ((z') + (z2)) ((30) + (30) + 1) ?_ ?_).mono ?_); (exact H); (exact h19.iz); (first | omega | decide | assumption); rintro e w20 ⟨b20, A20, n20, c20, rfl, h20, hb20⟩; have q20 : Below w18.heap.size w18 w20 := bnext q19 hb20; replace H := H.belw hb20; replace H' := H'.belw hb20; replace H2 := H2.belw hb20; replace h3 := h3.belw hb20; replace h4 := h4.belw hb20; replace h6 := h6.belw hb20; replace h7 := h7.belw hb20; replace h8 := h8.belw hb20; replace h9 := h9.belw hb20; replace h11 := h11.belw hb20; replace h12 := h12.belw hb20; replace h14 := h14.belw hb20; replace h15 := h15.belw hb20; replace h16 := h16.belw hb20; replace h17 := h17.belw hb20; replace h19 := h19.belw hb20)
        | (go_at_call 30; (with_reducible refine (i_mul _ b A n c (z) (30) ?_ b' A' n' c' (z') (30) ?_ ?_).mono ?_); (exact H); (exact H'); (first | omega | decide | assumption); rintro e w21 ⟨b21, A21, n21, c21, rfl, h21, hb21⟩; have q21 : Below w18.heap.size w18 w21 := bnext q20 hb21; replace H := H.belw hb21; replace H' := H'.belw hb21; replace H2 := H2.belw hb21; replace h3 := h3.belw hb21; replace h4 := h4.belw hb21; replace h6 := h6.belw hb21; replace h7 := h7.belw hb21; replace h8 := h8.belw hb21; replace h9 := h9.belw hb21; replace h11 := h11.belw hb21; replace h12 := h12.belw hb21; replace h14 := h14.belw hb21; replace h15 := h15.belw hb21; replace h16 := h16.belw hb21; replace h17 := h17.belw hb21; replace h19 := h19.belw hb21; replace h20 := h20.belw hb21)
        | (go_at_call 30; (with_reducible refine (i_mul _ b A n c (z) (30) ?_ b2 A2 n2 c2 (z2) (30) ?_ ?_).mono ?_); (exact H); (exact H2); (first | omega | decide | assumption); rintro e w22 ⟨b22, A22, n22, c22, rfl, h22, hb22⟩; have q22 : Below w18.heap.size w18 w22 := bnext q21 hb22; replace H := H.belw hb22; replace H' := H'.belw hb22; replace H2 := H2.belw hb22; replace h3 := h3.belw hb22; replace h4 := h4.belw hb22; replace h6 := h6.belw hb22; replace h7 := h7.belw hb22; replace h8 := h8.belw hb22; replace h9 := h9.belw hb22; replace h11 := h11.belw hb22; replace h12 := h12.belw hb22; replace h14 := h14.belw hb22; replace h15 := h15.belw hb22; replace h16 := h16.belw hb22; replace h17 := h17.belw hb22; replace h19 := h19.belw hb22; replace h20 := h20.belw hb22; replace h21 := h21.belw hb22)
        | (go_at_call 29; (with_reducible refine (i_add _ b21 A21 n21 c21 ((z) * (z')) ((30) + (30)) ?_ b22 A22 n22 c22 ((z) * (z2)) ((30) + (30)) ?_ ?_).mono ?_); (exact h21.iz); (exact h22.iz); (first | omega | decide | assumption); rintro e w23 ⟨b23, A23, n23, c23, rfl, h23, hb23⟩; have q23 : Below w18.heap.size w18 w23 := bnext q22 hb23; replace H := H.belw hb23; replace H' := H'.belw hb23; replace H2 := H2.belw hb23; replace h3 := h3.belw hb23; replace h4 := h4.belw hb23; replace h6 := h6.belw hb23; replace h7 := h7.belw hb23; replace h8 := h8.belw hb23; replace h9 := h9.belw hb23; replace h11 := h11.belw hb23; replace h12 := h12.belw hb23; replace h14 := h14.belw hb23; replace h15 := h15.belw hb23; replace h16 := h16.belw hb23; replace h17 := h17.belw hb23; replace h19 := h19.belw hb23; replace h20 := h20.belw hb23; replace h21 := h21.belw hb23; replace h22 := h22.belw hb23)
        | (go_at_call 16; (with_reducible refine (s_same _ b20 A20 n20 c20 ((z) * ((z') + (z2))) ((30) + ((30) + (30) + 1)) ?_ b23 A23 n23 c23 (((z) * (z')) + ((z) * (z2))) (((30) + (30)) + ((30) + (30)) + 1) ?_  ?_ ?_).mono ?_); (exact h20); (exact h23); (exact Int.mul_add _ _ _); (first | omega | decide | assumption); rintro e w24 ⟨rfl, hb24⟩; have q24 : Below w18.heap.size w18 w24 := bnext q23 hb24; replace H := H.belw hb24; replace H' := H'.belw hb24; replace H2 := H2.belw hb24; replace h3 := h3.belw hb24; replace h4 := h4.belw hb24; replace h6 := h6.belw hb24; replace h7 := h7.belw hb24; replace h8 := h8.belw hb24; replace h9 := h9.belw hb24; replace h11 := h11.belw hb24; replace h12 := h12.belw hb24; replace h14 := h14.belw hb24; replace h15 := h15.belw hb24; replace h16 := h16.belw hb24; replace h17 := h17.belw hb24; replace h19 := h19.belw hb24; replace h20 := h20.belw hb24; replace h21 := h21.belw hb24; replace h22 := h22.belw hb24; replace h23 := h23.belw hb24))
    have bw24 : Below w.heap.size w w24 := bw18.trans (q24.mono bw18.size)
    clear cx1_0_0 cx1_0_1 lx1_0_0 lx1_0_1 lx1_0_2 lx1_0_3 cx1_1_0 cx1_1_1 lx1_1_0 lx1_1_1 lx1_1_2 lx1_1_3 cx1_2_0 cx1_2_1 lx1_2_0 lx1_2_1 lx1_2_2 lx1_2_3 lx1_3_0 lx1_3_1 lx1_3_2 lx1_3_3
    replace x1_0 := x1_0.below q24 x1_0.lt
    replace x1_1 := x1_1.below q24 x1_1.lt
    replace x1_2 := x1_2.below q24 x1_2.lt
    replace x1_3 := x1_3.below q24 x1_3.lt
    have lw24 : w18.heap.size ≤ w24.heap.size := q24.size
    obtain ⟨cx1_0_0, cx1_0_1⟩ := x1_0.c2
    obtain ⟨lx1_0_0, lx1_0_1, lx1_0_2, lx1_0_3⟩ := lts0 x1_0.lt
    obtain ⟨cx1_1_0, cx1_1_1⟩ := x1_1.c2
    obtain ⟨lx1_1_0, lx1_1_1, lx1_1_2, lx1_1_3⟩ := lts1 x1_1.lt
    obtain ⟨lx1_2_0, lx1_2_1, lx1_2_2, lx1_2_3⟩ := lts2 x1_2.lt
    obtain ⟨lx1_3_0, lx1_3_1, lx1_3_2, lx1_3_3⟩ := lts3 x1_3.lt
    go_wp2_with fail
    have HZ := Lib.hid (show (z + -z).sign = 0 by rw [Int.add_right_neg]; rfl)
    go_region_held3 (fun w' => Sees w24.heap.size w24 w') (first | with_reducible exact Sees.of (Nat.le_refl _) (by assumption) | with_reducible exact Sees.of (Nat.le_refl _) (brefl _).drew | exact Sees.of (Nat.le_refl _) (below_drewN (brefl _) 1) | exact Sees.of (Nat.le_refl _) (below_drewN (by assumption) _))
      (first
        | (go_at_call 31; (with_reducible refine (i_sub _ b A n c (z) (30) ?_ b' A' n' c' (z') (30) ?_ ?_).mono ?_); (exact H); (exact H'); (first | omega | decide | assumption); rintro e w25 ⟨b25, A25, n25, c25, rfl, h25, hb25⟩; replace hb25 := bnext (below_drewN (brefl _) 1) hb25; have q25 : Below w24.heap.size w24 w25 := bnext (brefl w24) hb25; replace H := H.belw hb25; replace H' := H'.belw hb25; replace H2 := H2.belw hb25; replace h3 := h3.belw hb25; replace h4 := h4.belw hb25; replace h6 := h6.belw hb25; replace h7 := h7.belw hb25; replace h8 := h8.belw hb25; replace h9 := h9.belw hb25; replace h11 := h11.belw hb25; replace h12 := h12.belw hb25; replace h14 := h14.belw hb25; replace h15 := h15.belw hb25; replace h16 := h16.belw hb25; replace h17 := h17.belw hb25; replace h19 := h19.belw hb25; replace h20 := h20.belw hb25; replace h21 := h21.belw hb25; replace h22 := h22.belw hb25; replace h23 := h23.belw hb25)
        | (go_at_call 29; (with_reducible refine (i_add _ b25 A25 n25 c25 ((z) + -(z')) ((30) + (30) + 1) ?_ b' A' n' c' (z') (30) ?_ ?_).mono ?_); (exact h25.iz); (exact H'); (first | omega | decide | assumption); rintro e w26 ⟨b26, A26, n26, c26, rfl, h26, hb26⟩; have q26 : Below w24.heap.size w24 w26 := bnext q25 hb26; replace H := H.belw hb26; replace H' := H'.belw hb26; replace H2 := H2.belw hb26; replace h3 := h3.belw hb26; replace h4 := h4.belw hb26; replace h6 := h6.belw hb26; replace h7 := h7.belw hb26; replace h8 := h8.belw hb26; replace h9 := h9.belw hb26; replace h11 := h11.belw hb26; replace h12 := h12.belw hb26; replace h14 := h14.belw hb26; replace h15 := h15.belw hb26; replace h16 := h16.belw hb26; replace h17 := h17.belw hb26; replace h19 := h19.belw hb26; replace h20 := h20.belw hb26; replace h21 := h21.belw hb26; replace h22 := h22.belw hb26; replace h23 := h23.belw hb26; replace h25 := h25.belw hb26)
        | (go_at_call 29; (with_reducible refine (i_add _ b A n c (z) (30) ?_ false none 0 0 0 0 ?_ ?_).mono ?_); (exact H); (exact (IZ.zero _)); (first | omega | decide | assumption); rintro e w27 ⟨b27, A27, n27, c27, rfl, h27, hb27⟩; have q27 : Below w24.heap.size w24 w27 := bnext q26 hb27; replace H := H.belw hb27; replace H' := H'.belw hb27; replace H2 := H2.belw hb27; replace h3 := h3.belw hb27; replace h4 := h4.belw hb27; replace h6 := h6.belw hb27; replace h7 := h7.belw hb27; replace h8 := h8.belw hb27; replace h9 := h9.belw hb27; replace h11 := h11.belw hb27; replace h12 := h12.belw hb27; replace h14 := h14.belw hb27; replace h15 := h15.belw hb27; replace h16 := h16.belw hb27; replace h17 := h17.belw hb27; replace h19 := h19.belw hb27; replace h20 := h20.belw hb27; replace h21 := h21.belw hb27; replace h22 := h22.belw hb27; replace h23 := h23.belw hb27; replace h25 := h25.belw hb27; replace h26 := h26.belw hb27)
        | (go_at_call 16; (with_reducible refine (s_same _ b26 A26 n26 c26 (((z) + -(z')) + (z')) (((30) + (30) + 1) + (30) + 1) ?_ b27 A27 n27 c27 ((z) + 0) ((30) + 0 + 1) ?_  ?_ ?_).mono ?_); (exact h26); (exact h27); (exact (by omega)); (first | omega | decide | assumption); rintro e w28 ⟨rfl, hb28⟩; have q28 : Below w24.heap.size w24 w28 := bnext q27 hb28; replace H := H.belw hb28; replace H' := H'.belw hb28; replace H2 := H2.belw hb28; replace h3 := h3.belw hb28; replace h4 := h4.belw hb28; replace h6 := h6.belw hb28; replace h7 := h7.belw hb28; replace h8 := h8.belw hb28; replace h9 := h9.belw hb28; replace h11 := h11.belw hb28; replace h12 := h12.belw hb28; replace h14 := h14.belw hb28; replace h15 := h15.belw hb28; replace h16 := h16.belw hb28; replace h17 := h17.belw hb28; replace h19 := h19.belw hb28; replace h20 := h20.belw hb28; replace h21 := h21.belw hb28; replace h22 := h22.belw hb28; replace h23 := h23.belw hb28; replace h25 := h25.belw hb28; replace h26 := h26.belw hb28; replace h27 := h27.belw hb28)
        | (go_at_call 32; (with_reducible refine (i_neg _ b A n c (z) (30) ?_ ?_).mono ?_); (exact H); (first | omega | decide | assumption); rintro e w29 ⟨b29, A29, n29, c29, rfl, h29, hb29⟩; have q29 : Below w24.heap.size w24 w29 := bnext q28 hb29; replace H := H.belw hb29; replace H' := H'.belw hb29; replace H2 := H2.belw hb29; replace h3 := h3.belw hb29; replace h4 := h4.belw hb29; replace h6 := h6.belw hb29; replace h7 := h7.belw hb29; replace h8 := h8.belw hb29; replace h9 := h9.belw hb29; replace h11 := h11.belw hb29; replace h12 := h12.belw hb29; replace h14 := h14.belw hb29; replace h15 := h15.belw hb29; replace h16 := h16.belw hb29; replace h17 := h17.belw hb29; replace h19 := h19.belw hb29; replace h20 := h20.belw hb29; replace h21 := h21.belw hb29; replace h22 := h22.belw hb29; replace h23 := h23.belw hb29; replace h25 := h25.belw hb29; replace h26 := h26.belw hb29; replace h27 := h27.belw hb29)
        | (go_at_call 29; (with_reducible refine (i_add _ b A n c (z) (30) ?_ b29 A29 n29 c29 (-(z)) ((30)) ?_ ?_).mono ?_); (exact H); (exact h29.iz); (first | omega | decide | assumption); rintro e w30 ⟨b30, A30, n30, c30, rfl, h30, hb30⟩; have q30 : Below w24.heap.size w24 w30 := bnext q29 hb30; replace H := H.belw hb30; replace H' := H'.belw hb30; replace H2 := H2.belw hb30; replace h3 := h3.belw hb30; replace h4 := h4.belw hb30; replace h6 := h6.belw hb30; replace h7 := h7.belw hb30; replace h8 := h8.belw hb30; replace h9 := h9.belw hb30; replace h11 := h11.belw hb30; replace h12 := h12.belw hb30; replace h14 := h14.belw hb30; replace h15 := h15.belw hb30; replace h16 := h16.belw hb30; replace h17 := h17.belw hb30; replace h19 := h19.belw hb30; replace h20 := h20.belw hb30; replace h21 := h21.belw hb30; replace h22 := h22.belw hb30; replace h23 := h23.belw hb30; replace h25 := h25.belw hb30; replace h26 := h26.belw hb30; replace h27 := h27.belw hb30; replace h29 := h29.belw hb30)
        | (go_at_call 25; (with_reducible refine (i_sign_v _ b30 A30 n30 c30 ((z) + (-(z))) ((30) + ((30)) + 1) ?_ 0 HZ.out ?_).mono ?_); (exact h30.iz); (first | omega | decide | assumption); rintro e w31 ⟨rfl, hb31⟩; have q31 : Below w24.heap.size w24 w31 := bnext q30 hb31; replace H := H.belw hb31; replace H' := H'.belw hb31; replace H2 := H2.belw hb31; replace h3 := h3.belw hb31; replace h4 := h4.belw hb31; replace h6 := h6.belw hb31; replace h7 := h7.belw hb31; replace h8 := h8.belw hb31; replace h9 := h9.belw hb31; replace h11 := h11.belw hb31; replace h12 := h12.belw hb31; replace h14 := h14.belw hb31; replace h15 := h15.belw hb31; replace h16 := h16.belw hb31; replace h17 := h17.belw hb31; replace h19 := h19.belw hb31; replace h20 := h20.belw hb31; replace h21 := h21.belw hb31; replace h22 := h22.belw hb31; replace h23 := h23.belw hb31; replace h25 := h25.belw hb31; replace h26 := h26.belw hb31; replace h27 := h27.belw hb31; replace h29 := h29.belw hb31; replace h30 := h30.belw hb31))
    have bw31 : Below w.heap.size w w31 := bw24.trans (q31.mono bw24.size)
    clear cx1_0_0 cx1_0_1 lx1_0_0 lx1_0_1 lx1_0_2 lx1_0_3 cx1_1_0 cx1_1_1 lx1_1_0 lx1_1_1 lx1_1_2 lx1_1_3 lx1_2_0 lx1_2_1 lx1_2_2 lx1_2_3 lx1_3_0 lx1_3_1 lx1_3_2 lx1_3_3
    replace x1_0 := x1_0.below q31 x1_0.lt
    replace x1_1 := x1_1.below q31 x1_1.lt
    replace x1_2 := x1_2.below q31 x1_2.lt
    replace x1_3 := x1_3.below q31 x1_3.lt
    have lw31 : w24.heap.size ≤ w31.heap.size := q31.size
    obtain ⟨cx1_0_0, cx1_0_1⟩ := x1_0.c2
    obtain ⟨lx1_0_0, lx1_0_1, lx1_0_2, lx1_0_3⟩ := lts0 x1_0.lt
    obtain ⟨cx1_1_0, cx1_1_1⟩ := x1_1.c2
    obtain ⟨lx1_1_0, lx1_1_1, lx1_1_2, lx1_1_3⟩ := lts1 x1_1.lt
    go_wp2_with fail
    (with_reducible refine (i_mul _ b A n c (z) (30) ?_ b' A' n' c' (z') (30) ?_ ?_).mono ?_); (exact H); (exact H'); (first | omega | decide | assumption); rintro e w32 ⟨b32, A32, n32, c32, rfl, h32, hb32⟩
    clear cx1_0_0 cx1_0_1 lx1_0_0 lx1_0_1 lx1_0_2 lx1_0_3 cx1_1_0 cx1_1_1 lx1_1_0 lx1_1_1 lx1_1_2 lx1_1_3
    have q32 : Below w31.heap.size w31 w32 := hb32
    replace H := H.belw q32
    replace H' := H'.belw q32
    replace H2 := H2.belw q32
    replace h3 := h3.belw q32
    replace h4 := h4.belw q32
    replace h6 := h6.belw q32
    replace h7 := h7.belw q32
    replace h8 := h8.belw q32
    replace h9 := h9.belw q32
    replace h11 := h11.belw q32
    replace h12 := h12.belw q32
    replace h14 := h14.belw q32
    replace h15 := h15.belw q32
    replace h16 := h16.belw q32
    replace h17 := h17.belw q32
    replace h19 := h19.belw q32
    replace h20 := h20.belw q32
    replace h21 := h21.belw q32
    replace h22 := h22.belw q32
    replace h23 := h23.belw q32
    replace h25 := h25.belw q32
    replace h26 := h26.belw q32
    replace h27 := h27.belw q32
    replace h29 := h29.belw q32
    replace h30 := h30.belw q32
    replace x1_0 := x1_0.below q32 x1_0.lt
    replace x1_1 := x1_1.below q32 x1_1.lt
    replace x1_2 := x1_2.below q32 x1_2.lt
    replace x1_3 := x1_3.below q32 x1_3.lt
    have bw32 : Below w.heap.size w w32 := bw31.trans (q32.mono bw31.size)
    have lw32 : w31.heap.size ≤ w32.heap.size := q32.size
    clear hb32 q32 bw31
    go_wp2_with fail
    (with_reducible refine (i_valid _ b32 A32 n32 c32 ((z) * (z')) ((30) + (30)) ?_ ?_).mono ?_); (exact h32); (first | omega | decide | assumption); rintro e w33 ⟨rfl, hb33⟩
    have q33 : Below w32.heap.size w32 w33 := hb33
    replace H := H.belw q33
    replace H' := H'.belw q33
    replace H2 := H2.belw q33
    replace h3 := h3.belw q33
    replace h4 := h4.belw q33
    replace h6 := h6.belw q33
    replace h7 := h7.belw q33
    replace h8 := h8.belw q33
    replace h9 := h9.belw q33
    replace h11 := h11.belw q33
    replace h12 := h12.belw q33
    replace h14 := h14.belw q33
    replace h15 := h15.belw q33
    replace h16 := h16.belw q33
    replace h17 := h17.belw q33
    replace h19 := h19.belw q33
    replace h20 := h20.belw q33
    replace h21 := h21.belw q33
    replace h22 := h22.belw q33
    replace h23 := h23.belw q33
    replace h25 := h25.belw q33
    replace h26 := h26.belw q33
    replace h27 := h27.belw q33
    replace h29 := h29.belw q33
    replace h30 := h30.belw q33
    replace h32 := h32.belw q33
    replace x1_0 := x1_0.below q33 x1_0.lt
    replace x1_1 := x1_1.below q33 x1_1.lt
    replace x1_2 := x1_2.below q33 x1_2.lt
    replace x1_3 := x1_3.below q33 x1_3.lt
    have bw33 : Below w.heap.size w w33 := bw32.trans (q33.mono bw32.size)
    have lw33 : w32.heap.size ≤ w33.heap.size := q33.size
    clear hb33 q33 bw32
    obtain ⟨cx1_0_0, cx1_0_1⟩ := x1_0.c2
    obtain ⟨lx1_0_0, lx1_0_1, lx1_0_2, lx1_0_3⟩ := lts0 x1_0.lt
    obtain ⟨cx1_1_0, cx1_1_1⟩ := x1_1.c2
    obtain ⟨lx1_1_0, lx1_1_1, lx1_1_2, lx1_1_3⟩ := lts1 x1_1.lt
    go_wp2_with fail
    (with_reducible refine (i_add _ b A n c (z) (30) ?_ b' A' n' c' (z') (30) ?_ ?_).mono ?_); (exact H); (exact H'); (first | omega | decide | assumption); rintro e w34 ⟨b34, A34, n34, c34, rfl, h34, hb34⟩
    clear cx1_0_0 cx1_0_1 lx1_0_0 lx1_0_1 lx1_0_2 lx1_0_3 cx1_1_0 cx1_1_1 lx1_1_0 lx1_1_1 lx1_1_2 lx1_1_3
    have q34 : Below w33.heap.size w33 w34 := hb34
    replace H := H.belw q34
    replace H' := H'.belw q34
    replace H2 := H2.belw q34
    replace h3 := h3.belw q34
    replace h4 := h4.belw q34
    replace h6 := h6.belw q34
    replace h7 := h7.belw q34
    replace h8 := h8.belw q34
    replace h9 := h9.belw q34
    replace h11 := h11.belw q34
    replace h12 := h12.belw q34
    replace h14 := h14.belw q34
    replace h15 := h15.belw q34
    replace h16 := h16.belw q34
    replace h17 := h17.belw q34
    replace h19 := h19.belw q34
    replace h20 := h20.belw q34
    replace h21 := h21.belw q34
    replace h22 := h22.belw q34
    replace h23 := h23.belw q34
    replace h25 := h25.belw q34
    replace h26 := h26.belw q34
    replace h27 := h27.belw q34
    replace h29 := h29.belw q34
    replace h30 := h30.belw q34
    replace h32 := h32.belw q34
    replace x1_0 := x1_0.below q34 x1_0.lt
    replace x1_1 := x1_1.below q34 x1_1.lt
    replace x1_2 := x1_2.below q34 x1_2.lt
    replace x1_3 := x1_3.below q34 x1_3.lt
    have bw34 : Below w.heap.size w w34 := bw33.trans (q34.mono bw33.size)
    have lw34 : w33.heap.size ≤ w34.heap.size := q34.size
    clear hb34 q34 bw33
    go_wp2_with fail
    (with_reducible refine (i_valid _ b34 A34 n34 c34 ((z) + (z')) ((30) + (30) + 1) ?_ ?_).mono ?_); (exact h34); (first | omega | decide | assumption); rintro e w35 ⟨rfl, hb35⟩
    have q35 : Below w34.heap.size w34 w35 := hb35
    replace H := H.belw q35
    replace H' := H'.belw q35
    replace H2 := H2.belw q35
    replace h3 := h3.belw q35
    replace h4 := h4.belw q35
    replace h6 := h6.belw q35
    replace h7 := h7.belw q35
    replace h8 := h8.belw q35
    replace h9 := h9.belw q35
    replace h11 := h11.belw q35
    replace h12 := h12.belw q35
    replace h14 := h14.belw q35
    replace h15 := h15.belw q35
    replace h16 := h16.belw q35
    replace h17 := h17.belw q35
    replace h19 := h19.belw q35
    replace h20 := h20.belw q35
    replace h21 := h21.belw q35
    replace h22 := h22.belw q35
    replace h23 := h23.belw q35
    replace h25 := h25.belw q35
    replace h26 := h26.belw q35
    replace h27 := h27.belw q35
    replace h29 := h29.belw q35
    replace h30 := h30.belw q35
    replace h32 := h32.belw q35
    replace h34 := h34.belw q35
    replace x1_0 := x1_0.below q35 x1_0.lt
    replace x1_1 := x1_1.below q35 x1_1.lt
    replace x1_2 := x1_2.below q35 x1_2.lt
    replace x1_3 := x1_3.below q35 x1_3.lt
    have bw35 : Below w.heap.size w w35 := bw34.trans (q35.mono bw34.size)
    have lw35 : w34.heap.size ≤ w35.heap.size := q35.size
    clear hb35 q35 bw34
    go_wp2_with fail
    go_ret
    exact retB rfl bw35
end Go.Proofs.YtkehcfclggmblaaDoor

namespace Go.Proofs.YtkehcfclggmblaaDoor
open Go Go.RowKit Bn Go.ChangeShapes Go.WideShapes Go.ChangeAt
set_option maxRecDepth 100000 in
theorem ring_contract (H : Type) (enc : TypeId × Value → H) (W : World) (base : Nat) (args : Array Value) (ds gs : List (DataW H)) (before : List MemPlace)
    (hval0 : ∀ (j : Nat) t v, Tryd.f5.params[j]? = some t → args[j]? = some v → Value.okWide Tryd.prog W .any base t v)
    (hW : DataW.Whole enc Tryd.prog Tryd.f5.params.toList Rows.integerRingSpec.vars false W args.toList ds gs before) (hL : laidMetH Tryd.prog Rows.integerRingRow.laid W) :
    Calls Tryd.prog 5 args W fun e W' => ∃ v, e = .returned v ∧ Rows.integerRingSpec.post enc Tryd.prog Tryd.f5 false true false false W args v W' := by
  have hval : ∀ (j : Nat) t v, Tryd.f5.params[j]? = some t → args[j]? = some v → Value.okWide Tryd.prog W .any base t v := hval0
  have htab : Tab W := tab_of_laid hL
  have hW' := hW
  obtain ⟨p, q, hA0, hV, rfl, hfz, hnd⟩ := hW
  have hA : DataW.TrodAll enc Tryd.prog W 0 (fun _ => true) true Tryd.f5.params.toList args.toList ds p := hA0
  rw [Tryd.params5] at hA hval
  obtain ⟨v0, v1, v2, d0, d1, d2, p0, p1, p2, rfl, rfl, rfl, h0, h1, h2⟩ := trodAll_three hA
  obtain ⟨rfl, rfl⟩ := trodVars_none hV
  obtain ⟨b, A, n, c, z, k, rfl, H⟩ := whole_open (hval 0 _ v0 rfl rfl) h0
  obtain ⟨b', A', n', c', z', k', rfl, H'⟩ := whole_open (hval 1 _ v1 rfl rfl) h1
  obtain ⟨b2, A2, n2, c2, z2, k2, rfl, H2⟩ := whole_open (hval 2 _ v2 rfl rfl) h2
  refine (l_IntegerRing W b A n c z k H b' A' n' c' z' k' H' b2 A2 n2 c2 z2 k2 H2 htab).mono fun e W' ⟨he, hb⟩ => ?_
  subst he
  exact ⟨_, rfl, law_post laid_out Tryd.underlying4 hW' rfl rfl (by kernel_rfl) rfl rfl rfl hb⟩
set_option maxRecDepth 100000 in
theorem ring_lifted (os : Os) (started : os.Started) (H : Type) (enc : TypeId × Value → H) (F : Stop.Interp) :
    ReturnsInHanded {} Tryd.checked os 5 .any ((OpenSpec.ofChange Rows.integerRingSpec).preRow enc Tryd.prog Tryd.f5 Rows.integerRingRow.domain false Rows.integerRingRow.laid) (((OpenSpec.ofChange Rows.integerRingSpec).at F).post enc Tryd.prog Tryd.f5 false true false false) := by
  have hx : DataW.whole enc Tryd.prog ((laidWorld os).forCall (fun _ _ => 0) ⟨#[], #[.agg #[.bool false, .slice none 0 0], .agg #[.bool false, .slice none 0 0], .agg #[.bool false, .slice none 0 0]], []⟩).memory Tryd.f5.params.toList Rows.integerRingSpec.vars false (#[.agg #[.bool false, .slice none 0 0], .agg #[.bool false, .slice none 0 0], .agg #[.bool false, .slice none 0 0]] : Array Value).toList 8 = some ([.agg [.lit (.bool false), .nil], .agg [.lit (.bool false), .nil], .agg [.lit (.bool false), .nil]], [], []) := by kernel_rfl
  have hl : laidMet Tryd.prog Rows.integerRingRow.laid ((laidWorld os).forCall (fun _ _ => 0) ⟨#[], #[.agg #[.bool false, .slice none 0 0], .agg #[.bool false, .slice none 0 0], .agg #[.bool false, .slice none 0 0]], []⟩).memory := laidMet_of_run' 8 (by kernel_rfl) (by kernel_rfl)
  refine returnsInHanded_of_row (C := Tryd.checked) (s := OpenSpec.ofChange Rows.integerRingSpec) own_knob started (by kernel_rfl) Tryd.func5
    (witness_row_at (enc := enc) (C := Tryd.checked) false (laidWorld os) #[.agg #[.bool false, .slice none 0 0], .agg #[.bool false, .slice none 0 0], .agg #[.bool false, .slice none 0 0]] rfl (by kernel_rfl) (by kernel_rfl) (by kernel_rfl)
      (OpenSpec.preRow_of_cond 8 hx (by kernel_rfl) (fun k hk => by cases hk) (by kernel_rfl) hl)) ?_
  intro W base args ds gs before hval hW _ _ _ hL _ _
  exact ring_contract H enc W base args ds gs before hval hW hL
theorem ring_said : Rows.IntegerRingSaid :=
  OpenClaim.holds_of_cond 5 Tryd.f5 rfl rfl rfl rfl rfl rfl rfl ⟨rfl, rfl, rfl, rfl, rfl⟩ rfl rfl rfl rfl rfl (by kernel_rfl) Tryd.func5 (by kernel_rfl)
    (of_decide_eq_true (by kernel_rfl)) (by unfold Func.isWrapper; first | (rw [if_pos (by decide +kernel)]; kernel_rfl) | (rw [if_neg (by decide +kernel)]; exact ⟨rfl, rfl⟩))
    (fun os started H enc _ F => by rw [OpenClaim.pre_eq_preRow]; exact ring_lifted os started H enc F)
theorem ring_plain (f : FuncId) (fn : Func) (hf : Tryd.pinned.checked.prog.funcNamed "linkwork/linkworklaw01.IntegerRing" = some f) (hfn : Tryd.pinned.checked.prog.funcs[f]? = some fn) :
    true = Tryd.pinned.checked.prog.looks [] ∧ ∀ (j : Nat) t, fn.params[j]? = some t → Tryd.pinned.checked.prog.wantsStandIn t = false := by
  obtain rfl : f = 5 := Option.some.inj ((show Tryd.prog.funcNamed "linkwork/linkworklaw01.IntegerRing" = some 5 by kernel_rfl).symm.trans hf) |>.symm
  obtain rfl : fn = Tryd.f5 := (Option.some.inj (Tryd.func5.symm.trans hfn)).symm
  refine ⟨by kernel_rfl, fun j t ht => ?_⟩
  rw [Tryd.params5] at ht
  have hm : t ∈ [24, 3] := by
    have := Array.mem_of_getElem? ht
    simp at this ⊢
    first
      | exact this
      | exact .inl this
  have hall : ([24, 3].all fun u => !Tryd.prog.wantsStandIn u) = true := by kernel_rfl
  exact (show Tryd.prog.wantsStandIn t = false by simpa using List.all_eq_true.1 hall t hm)
theorem ring_holds : Rows.IntegerRingCardSaid :=
  Claim7.holds_tied_plain_at .later [] _ _ _ _ ring_said (fun _ h => by cases h) (by kernel_rfl) (fun _ h => by cases h) integerRing_row_tie rfl ⟨rfl, rfl⟩ (by kernel_rfl) rfl ring_plain (by kernel_rfl)
end Go.Proofs.YtkehcfclggmblaaDoor
