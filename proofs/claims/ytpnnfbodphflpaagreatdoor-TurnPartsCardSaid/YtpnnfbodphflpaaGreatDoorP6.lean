/- Part P6: lemmas and walks that the claim rests on. No claim is made here. -/
import Derived.Deep.RegionHeld3
import Derived.Deep.DrawnRows
import Derived.Deep.DeepCutAuto
import Derived.Lib.ItoaNum
import Derived.BigQuiet
import Derived.Test.YtpnnfbodphflpaaGreatDoorP5
set_option linter.unusedVariables false
/- Walks: the laws: part, awake. -/
namespace Go.Proofs.YtpnnfbodphflpaaGreatDoor
open Go Go.RowKit Bn
attribute [local go_sem ↓] Go.wp_at_zero Go.wp_at_succ
set_option maxRecDepth 100000 in
set_option maxHeartbeats 2000000 in
/-- linkworklaw12.part -/
theorem l_part (w : World) (i j : Int) (hi : -4294967296 < i) (hi2 : i < 4294967296) (hj : -4294967296 < j) (hj2 : j < 4294967296) (q : Rat) (K : Nat) (hd : j ≠ 0) (hq : Rat.divInt i j = q) (hs : Sz q K) :
    Calls Tryz.prog 32 #[.int .i64 i, .int .i64 j] w (RetF w q K) := by
  have HD := Lib.hid hd
  have HQ := Lib.hid hq
  have HS := Lib.hid hs
  clear hd hq hs
  go_enter Tryz.func32, Tryz.ntmps32
  go_wp2_with fail
  (with_reducible refine (g_make _ (i) (j) hi hi2 hj hj2 q K ?_ ?_ ?_).mono ?_); (exact HD.out); (exact HQ.out); (exact HS.out); rintro e w1 ⟨b1, A1, n1, c1, A'1, n'1, c'1, rfl, h1, hb1⟩
  have q1 : Below w.heap.size w w1 := ((Below.refl _ _).alloc (Nat.le_refl _) _).trans (hb1.mono (by simp))
  have x1_0 : Blk w1 (w.heap.size) 24 #[.bool false, .slice none 0 0, .slice none 0 0] := (blkAt _ _ _ (by simp)).below hb1 (by simp)
  have bw1 : Below w.heap.size w w1 := (brefl w).trans (q1.mono (brefl w).size)
  have lw1 : w.heap.size + 1 ≤ w1.heap.size := by have := hb1.size; simp at this; omega
  clear hb1 q1
  obtain ⟨cx1_0_0, cx1_0_1, cx1_0_2⟩ := x1_0.c3
  obtain ⟨fx1_0_0, fx1_0_1, fx1_0_2⟩ := x1_0.f3
  obtain ⟨lx1_0_0, lx1_0_1, lx1_0_2, lx1_0_3⟩ := lts0 x1_0.lt
  go_wp2_with fail
  refine bodyPost_ret (v := .agg #[.bool b1, .slice A1 n1 c1, .slice A'1 n'1 c'1]) (by simp [results, Tryz.results32, go_sem, *] <;> first | rfl | exact ⟨rfl, rfl⟩) rfl ?_
  exact ⟨b1, A1, n1, c1, A'1, n'1, c'1, rfl, h1.keep (((((Kp.refl w1).setB (p := ⟨w.heap.size, 0, none⟩) x1_0.box (by decide) (.bool b1)).setB (p := ⟨w.heap.size, 1, none⟩) (x1_0.box.set ⟨w.heap.size, 0, none⟩ (.bool b1)) (by decide) (.slice A1 n1 c1)).setB (p := ⟨w.heap.size, 2, none⟩) ((x1_0.box.set ⟨w.heap.size, 0, none⟩ (.bool b1)).set ⟨w.heap.size, 1, none⟩ (.slice A1 n1 c1)) (by decide) (.slice A'1 n'1 c'1)).alloc (.cells #[.bool b1, .slice A1 n1 c1, .slice A'1 n'1 c'1] 24)), ((((bw1.setCell (p := ⟨w.heap.size, 0, none⟩) (by dsimp only; omega) (.bool b1)).setCell (p := ⟨w.heap.size, 1, none⟩) (by dsimp only; omega) (.slice A1 n1 c1)).setCell (p := ⟨w.heap.size, 2, none⟩) (by dsimp only; omega) (.slice A'1 n'1 c'1)).alloc (by first | omega | (simp <;> omega)) (.cells #[.bool b1, .slice A1 n1 c1, .slice A'1 n'1 c'1] 24))⟩
theorem sz_dec {q : Rat} (h : (decide (q.num.natAbs < 4294967296) && decide (q.den < 4294967296)) = true) : Sz q 1 := by
  simp only [Bool.and_eq_true, decide_eq_true_eq] at h
  exact ⟨by rw [Nat.pow_one]; exact h.1, by rw [Nat.pow_one]; exact h.2⟩
theorem aw_cos : tcos ⟨Rat.divInt 1 2, false⟩ = Rat.divInt 3 5 := by kernel_rfl
theorem aw_sin : tsin ⟨Rat.divInt 1 2, false⟩ = Rat.divInt 4 5 := by kernel_rfl
theorem aw_half : (tadd ⟨Rat.divInt 1 1, false⟩ ⟨Rat.divInt 1 1, false⟩).h = true := by kernel_rfl
theorem b_rat_e (w : World) (b : Bool) (A : Option Addr) (n c : Nat) (D : Option Addr) (m e : Nat) (q : Rat) (k : Nat) (h : QV w b A n c D m e q k) (b' : Bool) (A' : Option Addr) (n' c' : Nat) (D' : Option Addr) (m' e' : Nat) (q' : Rat) (k' : Nat) (h' : QV w b' A' n' c' D' m' e' q' k') (hq : q = q') (hk : k ≤ 1000000) :
    Calls Tryz.prog 15 #[.agg #[.bool b, .slice A n c, .slice D m e], .agg #[.bool b', .slice A' n' c', .slice D' m' e']] w (RetV w (.bool true)) := by
  subst hq; exact b_rat w b A n c D m e b' A' n' c' D' m' e' q k k' h h' hk
set_option maxRecDepth 100000 in
set_option maxHeartbeats 4000000 in
/-- linkworklaw12.awake -/
theorem l_awake (w : World)  :
    Calls Tryz.prog 6 #[] w (RetV w (.bool true)) := by
  go_enter Tryz.func6, Tryz.ntmps6
  go_wp2_with fail
  (with_reducible refine (l_part _ (1) (2) (by decide) (by decide) (by decide) (by decide) (Rat.divInt 1 2) 1 ?_ ?_ ?_).mono ?_); (decide); (rfl); (exact sz_dec (by kernel_rfl)); rintro e w1 ⟨b1, A1, n1, c1, A'1, n'1, c'1, rfl, h1, hb1⟩
  have q1 : Below w.heap.size w w1 := hb1
  have bw1 : Below w.heap.size w w1 := (brefl w).trans (q1.mono (brefl w).size)
  have lw1 : w.heap.size ≤ w1.heap.size := q1.size
  clear hb1 q1
  go_wp2_with fail
  have hF1 := TV.frac h1
  (with_reducible refine (t_cos _ b1 A1 n1 c1 A'1 n'1 c'1 false (⟨(Rat.divInt 1 2), false⟩) (1) ?_ ?_ ?_).mono ?_); (exact hF1.tk); (first | omega | decide | assumption); (first | omega | decide | assumption); rintro e w2 ⟨b2, A2, n2, c2, A'2, n'2, c'2, rfl, h2, hb2⟩
  have q2 : Below w1.heap.size w1 w2 := hb2
  replace h1 := h1.belw q2
  replace hF1 := hF1.belw q2
  have bw2 : Below w.heap.size w w2 := bw1.trans (q2.mono bw1.size)
  have lw2 : w1.heap.size ≤ w2.heap.size := q2.size
  clear hb2 q2 bw1
  go_wp2_with fail
  (with_reducible refine (l_part _ (1) (2) (by decide) (by decide) (by decide) (by decide) (Rat.divInt 1 2) 1 ?_ ?_ ?_).mono ?_); (decide); (rfl); (exact sz_dec (by kernel_rfl)); rintro e w3 ⟨b3, A3, n3, c3, A'3, n'3, c'3, rfl, h3, hb3⟩
  have q3 : Below w2.heap.size w2 w3 := ((Below.refl _ _).alloc (Nat.le_refl _) _).trans (hb3.mono (by simp))
  replace h1 := h1.belw q3
  replace hF1 := hF1.belw q3
  replace h2 := h2.belw q3
  have x3_0 : Blk w3 (w2.heap.size) 24 #[.bool b2, .slice A2 n2 c2, .slice A'2 n'2 c'2] := (blkAt _ _ _ (by simp)).below hb3 (by simp)
  have bw3 : Below w.heap.size w w3 := bw2.trans (q3.mono bw2.size)
  have lw3 : w2.heap.size + 1 ≤ w3.heap.size := by have := hb3.size; simp at this; omega
  clear hb3 q3 bw2
  go_wp2_with fail
  have hF2 := TV.frac h3
  (with_reducible refine (t_sin _ b3 A3 n3 c3 A'3 n'3 c'3 false (⟨(Rat.divInt 1 2), false⟩) (1) ?_ ?_ ?_).mono ?_); (exact hF2.tk); (first | omega | decide | assumption); (first | omega | decide | assumption); rintro e w4 ⟨b4, A4, n4, c4, A'4, n'4, c'4, rfl, h4, hb4⟩
  have q4 : Below w3.heap.size w3 w4 := hb4
  replace h1 := h1.belw q4
  replace hF1 := hF1.belw q4
  replace h2 := h2.belw q4
  replace h3 := h3.belw q4
  replace hF2 := hF2.belw q4
  replace x3_0 := x3_0.below q4 x3_0.lt
  have bw4 : Below w.heap.size w w4 := bw3.trans (q4.mono bw3.size)
  have lw4 : w3.heap.size ≤ w4.heap.size := q4.size
  clear hb4 q4 bw3
  go_wp2_with fail
  (with_reducible refine (l_part _ (1) (1) (by decide) (by decide) (by decide) (by decide) (Rat.divInt 1 1) 1 ?_ ?_ ?_).mono ?_); (decide); (rfl); (exact sz_dec (by kernel_rfl)); rintro e w5 ⟨b5, A5, n5, c5, A'5, n'5, c'5, rfl, h5, hb5⟩
  have q5 : Below w4.heap.size w4 w5 := ((Below.refl _ _).alloc (Nat.le_refl _) _).trans (hb5.mono (by simp))
  replace h1 := h1.belw q5
  replace hF1 := hF1.belw q5
  replace h2 := h2.belw q5
  replace h3 := h3.belw q5
  replace hF2 := hF2.belw q5
  replace h4 := h4.belw q5
  replace x3_0 := x3_0.below q5 x3_0.lt
  have x5_0 : Blk w5 (w4.heap.size) 24 #[.bool b4, .slice A4 n4 c4, .slice A'4 n'4 c'4] := (blkAt _ _ _ (by simp)).below hb5 (by simp)
  have bw5 : Below w.heap.size w w5 := bw4.trans (q5.mono bw4.size)
  have lw5 : w4.heap.size + 1 ≤ w5.heap.size := by have := hb5.size; simp at this; omega
  clear hb5 q5 bw4
  go_wp2_with fail
  have hF3 := TV.frac h5
  (with_reducible refine (l_part _ (1) (1) (by decide) (by decide) (by decide) (by decide) (Rat.divInt 1 1) 1 ?_ ?_ ?_).mono ?_); (decide); (rfl); (exact sz_dec (by kernel_rfl)); rintro e w6 ⟨b6, A6, n6, c6, A'6, n'6, c'6, rfl, h6, hb6⟩
  have q6 : Below w5.heap.size w5 w6 := hb6
  replace h1 := h1.belw q6
  replace hF1 := hF1.belw q6
  replace h2 := h2.belw q6
  replace h3 := h3.belw q6
  replace hF2 := hF2.belw q6
  replace h4 := h4.belw q6
  replace h5 := h5.belw q6
  replace hF3 := hF3.belw q6
  replace x3_0 := x3_0.below q6 x3_0.lt
  replace x5_0 := x5_0.below q6 x5_0.lt
  have bw6 : Below w.heap.size w w6 := bw5.trans (q6.mono bw5.size)
  have lw6 : w5.heap.size ≤ w6.heap.size := q6.size
  clear hb6 q6 bw5
  go_wp2_with fail
  have hF4 := TV.frac h6
  (with_reducible refine (t_Add _ b5 A5 n5 c5 A'5 n'5 c'5 false (⟨(Rat.divInt 1 1), false⟩) (1) ?_ b6 A6 n6 c6 A'6 n'6 c'6 false (⟨(Rat.divInt 1 1), false⟩) (1) ?_ ?_ ?_ ?_ ?_).mono ?_); (exact hF3.tk); (exact hF4.tk); (first | omega | decide | assumption); (first | omega | decide | assumption); (first | omega | decide | assumption); (first | omega | decide | assumption); rintro e w7 ⟨b7, A7, n7, c7, A'7, n'7, c'7, x7, rfl, h7, hb7⟩
  have q7 : Below w6.heap.size w6 w7 := hb7
  replace h1 := h1.belw q7
  replace hF1 := hF1.belw q7
  replace h2 := h2.belw q7
  replace h3 := h3.belw q7
  replace hF2 := hF2.belw q7
  replace h4 := h4.belw q7
  replace h5 := h5.belw q7
  replace hF3 := hF3.belw q7
  replace h6 := h6.belw q7
  replace hF4 := hF4.belw q7
  replace x3_0 := x3_0.below q7 x3_0.lt
  replace x5_0 := x5_0.below q7 x5_0.lt
  have bw7 : Below w.heap.size w w7 := bw6.trans (q7.mono bw6.size)
  have lw7 : w6.heap.size ≤ w7.heap.size := q7.size
  clear hb7 q7 bw6
  go_wp2_with fail
  obtain rfl : x7 = true := h7.2.1.trans aw_half
  rw [aw_cos] at h2
  rw [aw_sin] at h4
  have p8 : Kp w7 (w7.alloc (.cells #[.bool b7, .slice A7 n7 c7, .slice A'7 n'7 c'7, .bool true] 26)) := ((Kp.refl w7).alloc (.cells #[.bool b7, .slice A7 n7 c7, .slice A'7 n'7 c'7, .bool true] 26))
  have bw8 : Below w.heap.size w (w7.alloc (.cells #[.bool b7, .slice A7 n7 c7, .slice A'7 n'7 c'7, .bool true] 26)) := (bw7.alloc (by first | omega | (simp <;> omega)) (.cells #[.bool b7, .slice A7 n7 c7, .slice A'7 n'7 c'7, .bool true] 26))
  have x8_0 : Blk (w7.alloc (.cells #[.bool b7, .slice A7 n7 c7, .slice A'7 n'7 c'7, .bool true] 26)) (w7.heap.size) 26 #[.bool b7, .slice A7 n7 c7, .slice A'7 n'7 c'7, .bool true] := (blkAt _ _ _ (by simp))
  replace x3_0 : Blk (w7.alloc (.cells #[.bool b7, .slice A7 n7 c7, .slice A'7 n'7 c'7, .bool true] 26)) (w2.heap.size) 24 #[.bool b2, .slice A2 n2 c2, .slice A'2 n'2 c'2] := (x3_0.alloc (.cells #[.bool b7, .slice A7 n7 c7, .slice A'7 n'7 c'7, .bool true] 26))
  replace x5_0 : Blk (w7.alloc (.cells #[.bool b7, .slice A7 n7 c7, .slice A'7 n'7 c'7, .bool true] 26)) (w4.heap.size) 24 #[.bool b4, .slice A4 n4 c4, .slice A'4 n'4 c'4] := (x5_0.alloc (.cells #[.bool b7, .slice A7 n7 c7, .slice A'7 n'7 c'7, .bool true] 26))
  have lw8 : w7.heap.size + 1 ≤ (w7.alloc (.cells #[.bool b7, .slice A7 n7 c7, .slice A'7 n'7 c'7, .bool true] 26)).heap.size := by simp
  generalize hE8 : (w7.alloc (.cells #[.bool b7, .slice A7 n7 c7, .slice A'7 n'7 c'7, .bool true] 26)) = w8 at p8 bw8 lw8 x8_0 x3_0 x5_0 ⊢
  clear hE8
  replace h1 := h1.keep p8
  replace hF1 := hF1.keep p8
  replace h2 := h2.keep p8
  replace h3 := h3.keep p8
  replace hF2 := hF2.keep p8
  replace h4 := h4.keep p8
  replace h5 := h5.keep p8
  replace hF3 := hF3.keep p8
  replace h6 := h6.keep p8
  replace hF4 := hF4.keep p8
  replace h7 := h7.keep p8
  clear bw7
  have cx3_0_0 : w8.cell? ⟨w2.heap.size, 0, none⟩ = some (.bool b2) := x3_0.cell 0
  have cx3_0_1 : w8.cell? ⟨w2.heap.size, 1, none⟩ = some (.slice A2 n2 c2) := x3_0.cell 1
  have cx3_0_2 : w8.cell? ⟨w2.heap.size, 2, none⟩ = some (.slice A'2 n'2 c'2) := x3_0.cell 2
  obtain ⟨lx3_0_0, lx3_0_1, lx3_0_2, lx3_0_3⟩ := lts0 x3_0.lt
  have cx5_0_0 : w8.cell? ⟨w4.heap.size, 0, none⟩ = some (.bool b4) := x5_0.cell 0
  have cx5_0_1 : w8.cell? ⟨w4.heap.size, 1, none⟩ = some (.slice A4 n4 c4) := x5_0.cell 1
  have cx5_0_2 : w8.cell? ⟨w4.heap.size, 2, none⟩ = some (.slice A'4 n'4 c'4) := x5_0.cell 2
  obtain ⟨lx5_0_0, lx5_0_1, lx5_0_2, lx5_0_3⟩ := lts0 x5_0.lt
  obtain ⟨cx8_0_0, cx8_0_1, cx8_0_2, cx8_0_3⟩ := x8_0.c4
  obtain ⟨lx8_0_0, lx8_0_1, lx8_0_2, lx8_0_3⟩ := lts0 x8_0.lt
  go_region_held3 (fun w' => Sees w8.heap.size w8 w') (first | with_reducible exact Sees.of (Nat.le_refl _) (by assumption) | with_reducible exact Sees.of (Nat.le_refl _) (brefl _).drew | exact Sees.of (Nat.le_refl _) (below_drewN (brefl _) 1) | exact Sees.of (Nat.le_refl _) (below_drewN (by assumption) _))
    (first
      | (go_at_call 32; (with_reducible refine (l_part _ (3) (5) (by decide) (by decide) (by decide) (by decide) (Rat.divInt 3 5) 1 ?_ ?_ ?_).mono ?_); (decide); (rfl); (exact sz_dec (by kernel_rfl)); rintro e w9 ⟨b9, A9, n9, c9, A'9, n'9, c'9, rfl, h9, hb9⟩; replace hb9 := bnext (below_drewN (brefl _) 1) hb9; have q9 : Below w8.heap.size w8 w9 := bnext (brefl w8) hb9; replace h1 := h1.belw hb9; replace hF1 := hF1.belw hb9; replace h2 := h2.belw hb9; replace h3 := h3.belw hb9; replace hF2 := hF2.belw hb9; replace h4 := h4.belw hb9; replace h5 := h5.belw hb9; replace hF3 := hF3.belw hb9; replace h6 := h6.belw hb9; replace hF4 := hF4.belw hb9; replace h7 := h7.belw hb9)
      | (go_at_call 15; (with_reducible refine (b_rat_e _ b2 A2 n2 c2 A'2 n'2 c'2 ((Rat.divInt 3 5)) (4 * (1) + 4) ?_ b9 A9 n9 c9 A'9 n'9 c'9 ((Rat.divInt 3 5)) (1) ?_  ?_ ?_).mono ?_); (exact h2); (exact h9); (rfl); (decide); rintro e w10 ⟨rfl, hb10⟩; have q10 : Below w8.heap.size w8 w10 := bnext q9 hb10; replace h1 := h1.belw hb10; replace hF1 := hF1.belw hb10; replace h2 := h2.belw hb10; replace h3 := h3.belw hb10; replace hF2 := hF2.belw hb10; replace h4 := h4.belw hb10; replace h5 := h5.belw hb10; replace hF3 := hF3.belw hb10; replace h6 := h6.belw hb10; replace hF4 := hF4.belw hb10; replace h7 := h7.belw hb10; replace h9 := h9.belw hb10)
      | (go_at_call 32; (with_reducible refine (l_part _ (4) (5) (by decide) (by decide) (by decide) (by decide) (Rat.divInt 4 5) 1 ?_ ?_ ?_).mono ?_); (decide); (rfl); (exact sz_dec (by kernel_rfl)); rintro e w11 ⟨b11, A11, n11, c11, A'11, n'11, c'11, rfl, h11, hb11⟩; have q11 : Below w8.heap.size w8 w11 := bnext q10 hb11; replace h1 := h1.belw hb11; replace hF1 := hF1.belw hb11; replace h2 := h2.belw hb11; replace h3 := h3.belw hb11; replace hF2 := hF2.belw hb11; replace h4 := h4.belw hb11; replace h5 := h5.belw hb11; replace hF3 := hF3.belw hb11; replace h6 := h6.belw hb11; replace hF4 := hF4.belw hb11; replace h7 := h7.belw hb11; replace h9 := h9.belw hb11)
      | (go_at_call 15; (with_reducible refine (b_rat_e _ b4 A4 n4 c4 A'4 n'4 c'4 ((Rat.divInt 4 5)) (4 * (1) + 4) ?_ b11 A11 n11 c11 A'11 n'11 c'11 ((Rat.divInt 4 5)) (1) ?_  ?_ ?_).mono ?_); (exact h4); (exact h11); (rfl); (decide); rintro e w12 ⟨rfl, hb12⟩; have q12 : Below w8.heap.size w8 w12 := bnext q11 hb12; replace h1 := h1.belw hb12; replace hF1 := hF1.belw hb12; replace h2 := h2.belw hb12; replace h3 := h3.belw hb12; replace hF2 := hF2.belw hb12; replace h4 := h4.belw hb12; replace h5 := h5.belw hb12; replace hF3 := hF3.belw hb12; replace h6 := h6.belw hb12; replace hF4 := hF4.belw hb12; replace h7 := h7.belw hb12; replace h9 := h9.belw hb12; replace h11 := h11.belw hb12))
  have bw12 : Below w.heap.size w w12 := bw8.trans (q12.mono bw8.size)
  clear cx3_0_0 cx3_0_1 cx3_0_2 lx3_0_0 lx3_0_1 lx3_0_2 lx3_0_3 cx5_0_0 cx5_0_1 cx5_0_2 lx5_0_0 lx5_0_1 lx5_0_2 lx5_0_3 cx8_0_0 cx8_0_1 cx8_0_2 cx8_0_3 lx8_0_0 lx8_0_1 lx8_0_2 lx8_0_3
  replace x3_0 := x3_0.below q12 x3_0.lt
  replace x5_0 := x5_0.below q12 x5_0.lt
  replace x8_0 := x8_0.below q12 x8_0.lt
  have lw12 : w8.heap.size ≤ w12.heap.size := q12.size
  go_wp2_with fail
  go_ret
  exact retB rfl bw12
end Go.Proofs.YtpnnfbodphflpaaGreatDoor

/- The laws: rows of fractions and of turns. -/
namespace Go.Proofs.YtpnnfbodphflpaaGreatDoor
open Go Go.RowKit Bn
attribute [local go_sem ↓] Go.wp_at_zero Go.wp_at_succ
theorem cmpI_refl (x : Int) : cmpI x x = 0 := by unfold cmpI; simp
theorem rs4 {w : World} {g : Nat} {T : TypeId} {b : Bool} {A : Option Addr} {n c : Nat} {D : Option Addr} {m e : Nat} {b1 : Bool} {A1 : Option Addr} {n1 c1 : Nat} {D1 : Option Addr} {m1 e1 : Nat} {b2 : Bool} {A2 : Option Addr} {n2 c2 : Nat} {D2 : Option Addr} {m2 e2 : Nat} {b3 : Bool} {A3 : Option Addr} {n3 c3 : Nat} {D3 : Option Addr} {m3 e3 : Nat}
    (hb : Blk w g T #[.bool b, .slice A n c, .slice D m e, .bool b1, .slice A1 n1 c1, .slice D1 m1 e1, .bool b2, .slice A2 n2 c2, .slice D2 m2 e2, .bool b3, .slice A3 n3 c3, .slice D3 m3 e3]) : Rs w g 4 (fun i : Nat => if i = 0 then n else if i = 1 then n1 else if i = 2 then n2 else n3) (fun i : Nat => if i = 0 then m else if i = 1 then m1 else if i = 2 then m2 else m3) := by
  refine ⟨hb.lt, fun i hi => ?_⟩
  match i, hi with
  | 0, _ => exact ⟨_, _, _, _, _, hb.cell 0, hb.cell 1, hb.cell 2⟩
  | 1, _ => exact ⟨_, _, _, _, _, hb.cell 3, hb.cell 4, hb.cell 5⟩
  | 2, _ => exact ⟨_, _, _, _, _, hb.cell 6, hb.cell 7, hb.cell 8⟩
  | 3, _ => exact ⟨_, _, _, _, _, hb.cell 9, hb.cell 10, hb.cell 11⟩
theorem rs3 {w : World} {g : Nat} {T : TypeId} {b : Bool} {A : Option Addr} {n c : Nat} {D : Option Addr} {m e : Nat} {b1 : Bool} {A1 : Option Addr} {n1 c1 : Nat} {D1 : Option Addr} {m1 e1 : Nat} {b2 : Bool} {A2 : Option Addr} {n2 c2 : Nat} {D2 : Option Addr} {m2 e2 : Nat}
    (hb : Blk w g T #[.bool b, .slice A n c, .slice D m e, .bool b1, .slice A1 n1 c1, .slice D1 m1 e1, .bool b2, .slice A2 n2 c2, .slice D2 m2 e2]) : Rs w g 3 (fun i : Nat => if i = 0 then n else if i = 1 then n1 else n2) (fun i : Nat => if i = 0 then m else if i = 1 then m1 else m2) := by
  refine ⟨hb.lt, fun i hi => ?_⟩
  match i, hi with
  | 0, _ => exact ⟨_, _, _, _, _, hb.cell 0, hb.cell 1, hb.cell 2⟩
  | 1, _ => exact ⟨_, _, _, _, _, hb.cell 3, hb.cell 4, hb.cell 5⟩
  | 2, _ => exact ⟨_, _, _, _, _, hb.cell 6, hb.cell 7, hb.cell 8⟩
theorem gs2 {w : World} {g k : Nat} {T : TypeId} {b : Bool} {A : Option Addr} {n c : Nat} {D : Option Addr} {m e : Nat} {x : Bool} {r : RD} {b1 : Bool} {A1 : Option Addr} {n1 c1 : Nat} {D1 : Option Addr} {m1 e1 : Nat} {x1 : Bool} {r1 : RD}
    (hb : Blk w g T #[.bool b, .slice A n c, .slice D m e, .bool x, .bool b1, .slice A1 n1 c1, .slice D1 m1 e1, .bool x1]) (h : QD w b A n c D m e r k) (h1 : QD w b1 A1 n1 c1 D1 m1 e1 r1 k) : Gs w g 2 k (fun i : Nat => if i = 0 then r else r1) (fun i : Nat => if i = 0 then x else x1) := by
  refine ⟨hb.lt, fun i hi => ?_⟩
  match i, hi with
  | 0, _ => exact ⟨_, _, _, _, _, _, _, hb.cell 0, hb.cell 1, hb.cell 2, hb.cell 3, h⟩
  | 1, _ => exact ⟨_, _, _, _, _, _, _, hb.cell 4, hb.cell 5, hb.cell 6, hb.cell 7, h1⟩
theorem gs3 {w : World} {g k : Nat} {T : TypeId} {b : Bool} {A : Option Addr} {n c : Nat} {D : Option Addr} {m e : Nat} {x : Bool} {r : RD} {b1 : Bool} {A1 : Option Addr} {n1 c1 : Nat} {D1 : Option Addr} {m1 e1 : Nat} {x1 : Bool} {r1 : RD} {b2 : Bool} {A2 : Option Addr} {n2 c2 : Nat} {D2 : Option Addr} {m2 e2 : Nat} {x2 : Bool} {r2 : RD}
    (hb : Blk w g T #[.bool b, .slice A n c, .slice D m e, .bool x, .bool b1, .slice A1 n1 c1, .slice D1 m1 e1, .bool x1, .bool b2, .slice A2 n2 c2, .slice D2 m2 e2, .bool x2]) (h : QD w b A n c D m e r k) (h1 : QD w b1 A1 n1 c1 D1 m1 e1 r1 k) (h2 : QD w b2 A2 n2 c2 D2 m2 e2 r2 k) : Gs w g 3 k (fun i : Nat => if i = 0 then r else if i = 1 then r1 else r2) (fun i : Nat => if i = 0 then x else if i = 1 then x1 else x2) := by
  refine ⟨hb.lt, fun i hi => ?_⟩
  match i, hi with
  | 0, _ => exact ⟨_, _, _, _, _, _, _, hb.cell 0, hb.cell 1, hb.cell 2, hb.cell 3, h⟩
  | 1, _ => exact ⟨_, _, _, _, _, _, _, hb.cell 4, hb.cell 5, hb.cell 6, hb.cell 7, h1⟩
  | 2, _ => exact ⟨_, _, _, _, _, _, _, hb.cell 8, hb.cell 9, hb.cell 10, hb.cell 11, h2⟩
theorem QD.short {w : World} {b : Bool} {A D : Option Addr} {n c m e k : Nat} {r : RD} (h : QD w b A n c D m e r k) (hs : n ≤ 6 ∧ m ≤ 6) : QD w b A n c D m e r 6 := ⟨h.1, h.2.1, h.2.2.1, hs.1, hs.2⟩
end Go.Proofs.YtpnnfbodphflpaaGreatDoor

/- Walks: turns that are not accepted. -/
namespace Go.Proofs.YtpnnfbodphflpaaGreatDoor
open Go Go.RowKit Bn
attribute [local go_sem ↓] Go.wp_at_zero Go.wp_at_succ
set_option maxRecDepth 100000 in
set_option maxHeartbeats 2000000 in
/-- turn.Check -/
theorem t_chk_1 (w : World) (b : Bool) (A : Option Addr) (n c : Nat) (D : Option Addr) (m e : Nat) (a : RD) (k : Nat) (h : QD w b A n c D m e a k) (h0 : 0 < k) (hk : k ≤ 30000000) (x : Bool) (ho : a.ok = false) :
    Calls Tryz.prog 14 #[.agg #[.bool b, .slice A n c, .slice D m e, .bool x]] w (RetV w (.iface 71 (.int .i64 2))) := by
  have HO := Lib.hid ho
  have hq : QZ w b A n c D m e a.q k := ⟨a, h, rfl⟩
  clear ho
  go_enter Tryz.func14, Tryz.ntmps14
  go_wp2_with fail
  (with_reducible refine (f_valid_e _ b A n c D m e a k false ?_ ?_ ?_).mono ?_); (exact h.belw ((Below.refl _ _).alloc (Nat.le_refl _) _)); (omega); (exact HO.out); rintro e w1 ⟨rfl, hb1⟩
  have q1 : Below w.heap.size w w1 := ((Below.refl _ _).alloc (Nat.le_refl _) _).trans (hb1.mono (by simp))
  replace h := h.belw q1
  replace hq := hq.belw q1
  have x1_0 : Blk w1 (w.heap.size) 26 #[.bool b, .slice A n c, .slice D m e, .bool x] := (blkAt _ _ _ (by simp)).below hb1 (by simp)
  have bw1 : Below w.heap.size w w1 := (brefl w).trans (q1.mono (brefl w).size)
  have lw1 : w.heap.size + 1 ≤ w1.heap.size := by have := hb1.size; simp at this; omega
  clear hb1 q1
  obtain ⟨cx1_0_0, cx1_0_1, cx1_0_2, cx1_0_3⟩ := x1_0.c4
  obtain ⟨lx1_0_0, lx1_0_1, lx1_0_2, lx1_0_3⟩ := lts0 x1_0.lt
  go_wp2_with fail
  go_ret
  exact ⟨rfl, bw1⟩
set_option maxRecDepth 100000 in
set_option maxHeartbeats 2000000 in
/-- turn.Check -/
theorem t_chk_2 (w : World) (b : Bool) (A : Option Addr) (n c : Nat) (D : Option Addr) (m e : Nat) (a : RD) (k : Nat) (h : QD w b A n c D m e a k) (h0 : 0 < k) (hk : k ≤ 30000000) (ho : a.ok = true) :
    Calls Tryz.prog 14 #[.agg #[.bool b, .slice A n c, .slice D m e, .bool false]] w (RetV w (.nilIface)) := by
  have HO := Lib.hid ho
  have hq : QZ w b A n c D m e a.q k := ⟨a, h, rfl⟩
  clear ho
  go_enter Tryz.func14, Tryz.ntmps14
  go_wp2_with fail
  (with_reducible refine (f_valid_e _ b A n c D m e a k true ?_ ?_ ?_).mono ?_); (exact h.belw ((Below.refl _ _).alloc (Nat.le_refl _) _)); (omega); (exact HO.out); rintro e w1 ⟨rfl, hb1⟩
  have q1 : Below w.heap.size w w1 := ((Below.refl _ _).alloc (Nat.le_refl _) _).trans (hb1.mono (by simp))
  replace h := h.belw q1
  replace hq := hq.belw q1
  have x1_0 : Blk w1 (w.heap.size) 26 #[.bool b, .slice A n c, .slice D m e, .bool false] := (blkAt _ _ _ (by simp)).below hb1 (by simp)
  have bw1 : Below w.heap.size w w1 := (brefl w).trans (q1.mono (brefl w).size)
  have lw1 : w.heap.size + 1 ≤ w1.heap.size := by have := hb1.size; simp at this; omega
  clear hb1 q1
  obtain ⟨cx1_0_0, cx1_0_1, cx1_0_2, cx1_0_3⟩ := x1_0.c4
  obtain ⟨lx1_0_0, lx1_0_1, lx1_0_2, lx1_0_3⟩ := lts0 x1_0.lt
  go_wp2_with fail
  go_ret
  exact ⟨rfl, bw1⟩
set_option maxRecDepth 100000 in
set_option maxHeartbeats 2000000 in
/-- turn.Check -/
theorem t_chk_3 (w : World) (b : Bool) (A : Option Addr) (n c : Nat) (D : Option Addr) (m e : Nat) (a : RD) (k : Nat) (h : QD w b A n c D m e a k) (h0 : 0 < k) (hk : k ≤ 30000000) (ho : a.ok = true) (hs : a.q.num.sign = 0) :
    Calls Tryz.prog 14 #[.agg #[.bool b, .slice A n c, .slice D m e, .bool true]] w (RetV w (.nilIface)) := by
  have HO := Lib.hid ho
  have hq : QZ w b A n c D m e a.q k := ⟨a, h, rfl⟩
  clear ho
  have HS := Lib.hid hs
  clear hs
  go_enter Tryz.func14, Tryz.ntmps14
  go_wp2_with fail
  (with_reducible refine (f_valid_e _ b A n c D m e a k true ?_ ?_ ?_).mono ?_); (exact h.belw ((Below.refl _ _).alloc (Nat.le_refl _) _)); (omega); (exact HO.out); rintro e w1 ⟨rfl, hb1⟩
  have q1 : Below w.heap.size w w1 := ((Below.refl _ _).alloc (Nat.le_refl _) _).trans (hb1.mono (by simp))
  replace h := h.belw q1
  replace hq := hq.belw q1
  have x1_0 : Blk w1 (w.heap.size) 26 #[.bool b, .slice A n c, .slice D m e, .bool true] := (blkAt _ _ _ (by simp)).below hb1 (by simp)
  have bw1 : Below w.heap.size w w1 := (brefl w).trans (q1.mono (brefl w).size)
  have lw1 : w.heap.size + 1 ≤ w1.heap.size := by have := hb1.size; simp at this; omega
  clear hb1 q1
  obtain ⟨cx1_0_0, cx1_0_1, cx1_0_2, cx1_0_3⟩ := x1_0.c4
  obtain ⟨lx1_0_0, lx1_0_1, lx1_0_2, lx1_0_3⟩ := lts0 x1_0.lt
  go_wp2_with fail
  (with_reducible refine (f_sign_e _ b A n c D m e (a.q) (k) ?_ 0 ?_ ?_ ?_).mono ?_); (exact hq); (exact HS.out); (omega); (omega); rintro e w2 ⟨rfl, hb2⟩
  clear cx1_0_0 cx1_0_1 cx1_0_2 cx1_0_3 lx1_0_0 lx1_0_1 lx1_0_2 lx1_0_3
  have q2 : Below w1.heap.size w1 w2 := hb2
  replace h := h.belw q2
  replace hq := hq.belw q2
  replace x1_0 := x1_0.below q2 x1_0.lt
  have bw2 : Below w.heap.size w w2 := bw1.trans (q2.mono bw1.size)
  have lw2 : w1.heap.size ≤ w2.heap.size := q2.size
  clear hb2 q2 bw1
  go_wp2_with fail
  go_ret
  exact ⟨rfl, bw2⟩
set_option maxRecDepth 100000 in
set_option maxHeartbeats 2000000 in
/-- turn.Check -/
theorem t_chk_4 (w : World) (b : Bool) (A : Option Addr) (n c : Nat) (D : Option Addr) (m e : Nat) (a : RD) (k : Nat) (h : QD w b A n c D m e a k) (h0 : 0 < k) (hk : k ≤ 30000000) (ho : a.ok = true) (hs : a.q.num.sign ≠ 0) :
    Calls Tryz.prog 14 #[.agg #[.bool b, .slice A n c, .slice D m e, .bool true]] w (RetV w (.iface 71 (.int .i64 2))) := by
  have HO := Lib.hid ho
  have hq : QZ w b A n c D m e a.q k := ⟨a, h, rfl⟩
  clear ho
  obtain ⟨s, hs1⟩ : ∃ s, a.q.num.sign = s := ⟨_, rfl⟩
  rw [hs1] at hs
  have e0 : ((s : Int) == 0) = false := by simpa using hs
  have e1 : ((s : Int) != 0) = true := bne_iff_ne.2 hs
  have HS := Lib.hid hs1
  clear hs hs1
  go_enter Tryz.func14, Tryz.ntmps14
  go_wp2_with fail
  (with_reducible refine (f_valid_e _ b A n c D m e a k true ?_ ?_ ?_).mono ?_); (exact h.belw ((Below.refl _ _).alloc (Nat.le_refl _) _)); (omega); (exact HO.out); rintro e w1 ⟨rfl, hb1⟩
  have q1 : Below w.heap.size w w1 := ((Below.refl _ _).alloc (Nat.le_refl _) _).trans (hb1.mono (by simp))
  replace h := h.belw q1
  replace hq := hq.belw q1
  have x1_0 : Blk w1 (w.heap.size) 26 #[.bool b, .slice A n c, .slice D m e, .bool true] := (blkAt _ _ _ (by simp)).below hb1 (by simp)
  have bw1 : Below w.heap.size w w1 := (brefl w).trans (q1.mono (brefl w).size)
  have lw1 : w.heap.size + 1 ≤ w1.heap.size := by have := hb1.size; simp at this; omega
  clear hb1 q1
  obtain ⟨cx1_0_0, cx1_0_1, cx1_0_2, cx1_0_3⟩ := x1_0.c4
  obtain ⟨lx1_0_0, lx1_0_1, lx1_0_2, lx1_0_3⟩ := lts0 x1_0.lt
  go_wp2_with fail
  (with_reducible refine (f_sign_e _ b A n c D m e (a.q) (k) ?_ s ?_ ?_ ?_).mono ?_); (exact hq); (exact HS.out); (omega); (omega); rintro e w2 ⟨rfl, hb2⟩
  clear cx1_0_0 cx1_0_1 cx1_0_2 cx1_0_3 lx1_0_0 lx1_0_1 lx1_0_2 lx1_0_3
  have q2 : Below w1.heap.size w1 w2 := hb2
  replace h := h.belw q2
  replace hq := hq.belw q2
  replace x1_0 := x1_0.below q2 x1_0.lt
  have bw2 : Below w.heap.size w w2 := bw1.trans (q2.mono bw1.size)
  have lw2 : w1.heap.size ≤ w2.heap.size := q2.size
  clear hb2 q2 bw1
  go_wp2_with fail
  go_ret
  exact ⟨rfl, bw2⟩
theorem t_chk (w : World) (b : Bool) (A : Option Addr) (n c : Nat) (D : Option Addr) (m e : Nat) (a : RD) (k : Nat) (h : QD w b A n c D m e a k) (h0 : 0 < k) (hk : k ≤ 30000000) (x : Bool) : Calls Tryz.prog 14 #[.agg #[.bool b, .slice A n c, .slice D m e, .bool x]] w (RetV w (if accT a x then .nilIface else .iface 71 (.int .i64 2))) := by
  cases ho : a.ok
  · have : accT a x = false := by unfold accT; rw [ho]; rfl
    rw [this]; exact t_chk_1 w b A n c D m e a k h h0 hk x ho
  · cases x
    · have : accT a false = true := by unfold accT; rw [ho]; rfl
      rw [this]; exact t_chk_2 w b A n c D m e a k h h0 hk ho
    · by_cases hs : a.q.num.sign = 0
      · have : accT a true = true := by unfold accT; rw [ho, hs]; rfl
        rw [this]; exact t_chk_3 w b A n c D m e a k h h0 hk ho hs
      · have : accT a true = false := by unfold accT; rw [ho]; simpa using hs
        rw [this]; exact t_chk_4 w b A n c D m e a k h h0 hk ho hs
theorem g_chk_v (w : World) (b : Bool) (A : Option Addr) (n c : Nat) (D : Option Addr) (m e : Nat) (a : RD) (k : Nat) (h : QD w b A n c D m e a k) (x : Bool) (v : Int) (hv : (if accT a x then 0 else 2) = v) (h0 : 0 < k) (hk : k ≤ 30000000) : Calls Tryz.prog 12 #[.agg #[.bool b, .slice A n c, .slice D m e, .bool x]] w (RetV w (.int .i64 v)) := by
  have := g_check w b A n c D m e a k h h0 hk x
  rw [← hv]; exact this
theorem t_chk_bad (w : World) (b : Bool) (A : Option Addr) (n c : Nat) (D : Option Addr) (m e : Nat) (a : RD) (k : Nat) (h : QD w b A n c D m e a k) (h0 : 0 < k) (hk : k ≤ 30000000) (x : Bool) (ha : accT a x = false) : Calls Tryz.prog 14 #[.agg #[.bool b, .slice A n c, .slice D m e, .bool x]] w (RetV w (.iface 71 (.int .i64 2))) := by
  have := t_chk w b A n c D m e a k h h0 hk x
  rwa [ha] at this
theorem g_chk_bad (w : World) (b : Bool) (A : Option Addr) (n c : Nat) (D : Option Addr) (m e : Nat) (a : RD) (k : Nat) (h : QD w b A n c D m e a k) (h0 : 0 < k) (hk : k ≤ 30000000) (x : Bool) (ha : accT a x = false) : Calls Tryz.prog 12 #[.agg #[.bool b, .slice A n c, .slice D m e, .bool x]] w (RetV w (.int .i64 2)) := by
  have := g_check w b A n c D m e a k h h0 hk x
  rwa [ha] at this
theorem g_chk_good (w : World) (b : Bool) (A : Option Addr) (n c : Nat) (D : Option Addr) (m e : Nat) (a : RD) (k : Nat) (h : QD w b A n c D m e a k) (h0 : 0 < k) (hk : k ≤ 30000000) (x : Bool) (ha : accT a x = true) : Calls Tryz.prog 12 #[.agg #[.bool b, .slice A n c, .slice D m e, .bool x]] w (RetV w (.int .i64 0)) := by
  have := g_check w b A n c D m e a k h h0 hk x
  rwa [ha] at this
set_option maxRecDepth 100000 in
set_option maxHeartbeats 2000000 in
theorem t_checkAll_bad (w : World) (g N k : Nat) (rs : Nat → RD) (xs : Nat → Bool) (h : Gs w g N k rs xs) (hN : N ≤ 1000) (h0 : 0 < k) (hk : k ≤ 30000000) (hbad : ∃ i, i < N ∧ accT (rs i) (xs i) = false) :
    Calls Tryz.prog 79 #[.slice (some ⟨g, 0, none⟩) N N] w (RetV w (.iface 71 (.int .i64 2))) := by
  have HBAD := Lib.hid hbad
  clear hbad
  go_enter Tryz.func79, Tryz.ntmps79
  go_wp2_with fail
  go_loopw [8] (fun iv wr => ∃ i : Nat, i ≤ N ∧ iv = .int .i64 (i : Nat) ∧ (∀ j, j < i → accT (rs j) (xs j) = true) ∧ Below w.heap.size w wr) (fun iv _ => N - (intOf iv).toNat)
  case atStart => exact ⟨0, Nat.zero_le _, rfl, fun j hj => absurd hj (by omega), brefl w⟩
  case round =>
    obtain ⟨i, hi, rfl, hall, hb⟩ := hrel
    have HA := Lib.hid hall
    have HB := Lib.hid hb
    by_cases hlt : i < N
    · have hw := h.belw hb
      obtain ⟨b, A, m, c, D, m', e, c0, c1, c2, c3, h5⟩ := hw.2 i hlt
      have hgl := hw.1
      obtain ⟨x, hx⟩ : ∃ x, xs i = x := ⟨_, rfl⟩
      rw [hx] at c3
      have HX := Lib.hid hx
      have H := Lib.hid h
      clear h hw hall hb hx
      go_wp2_with fail
      (with_reducible refine (t_chk _ b A m c D m' e (rs i) k ?_ ?_ ?_ x).mono ?_); (exact h5.belw ((Below.refl _ _).alloc (Nat.le_refl _) _)); (exact h0); (exact hk); rintro e w1 ⟨rfl, hb1⟩
      have HB1 := Lib.hid (HB.out.trans ((((Below.refl _ _).alloc (Nat.le_refl _) _).trans (hb1.mono (by simp))).mono HB.out.size))
      clear hb1
      by_cases hacc : accT (rs i) x = true
      · rw [if_pos hacc]
        have HC := Lib.hid hacc
        clear hacc
        go_wp2_with fail
        go_roundw
        case rel => exact ⟨i + 1, by omega, by go_num, fun j hj => by
          by_cases hji : j = i
          · subst hji; rw [HX.out]; exact HC.out
          · exact HA.out j (by omega), HB1.out⟩
        case measure => simp [intOf]; omega
      · rw [if_neg hacc]
        clear hacc
        go_wp2_with fail
        go_ret
        exact ⟨rfl, HB1.out⟩
    · exfalso
      obtain ⟨j, hj, hf⟩ := HBAD.out
      rw [hall j (by omega)] at hf
      cases hf
set_option maxRecDepth 100000 in
set_option maxHeartbeats 2000000 in
/-- turn.Add -/
theorem t_Add_bad (w : World) (k : Nat) (b : Bool) (A : Option Addr) (n c : Nat) (D : Option Addr) (m e : Nat) (ra : RD) (Hra : QD w b A n c D m e ra k) (b' : Bool) (A' : Option Addr) (n' c' : Nat) (D' : Option Addr) (m' e' : Nat) (rb : RD) (Hrb : QD w b' A' n' c' D' m' e' rb k) (x x' : Bool) (h0 : 0 < k) (hk : k ≤ 30000000) (hbad : accT ra x = false ∨ accT rb x' = false) :
    Calls Tryz.prog 33 #[.agg #[.bool b, .slice A n c, .slice D m e, .bool x], .agg #[.bool b', .slice A' n' c', .slice D' m' e', .bool x']] w (RetV w (.tuple #[.agg #[.bool false, .slice none 0 0, .slice none 0 0, .bool false], .iface 71 (.int .i64 2)])) := by
  have HBAD := Lib.hid (show ∃ i, i < 2 ∧ accT ((fun i : Nat => if i = 0 then ra else rb) i) ((fun i : Nat => if i = 0 then x else x') i) = false by
    rcases hbad with h | h
    · exact ⟨0, by decide, h⟩
    · exact ⟨1, by decide, h⟩
    )
  clear hbad
  go_enter Tryz.func33, Tryz.ntmps33
  go_wp2_with fail
  (with_reducible refine (t_checkAll_bad _ (w.heap.size + 1 + 1 + 1) 2 (k) (fun i : Nat => if i = 0 then (ra) else (rb)) (fun i : Nat => if i = 0 then x else x') ?_ ?_ ?_ ?_ ?_).mono ?_); (exact gs2 (blkAt _ _ _ (by simp)) ((Hra.belw (((((Below.refl _ _).alloc (Nat.le_refl _) _).alloc (by simp) _).alloc (by simp <;> omega) _).alloc (by simp <;> omega) _))) ((Hrb.belw (((((Below.refl _ _).alloc (Nat.le_refl _) _).alloc (by simp) _).alloc (by simp <;> omega) _).alloc (by simp <;> omega) _)))); (first | omega | decide | assumption); (first | omega | decide | assumption); (first | omega | decide | assumption); (exact HBAD.out); rintro e w1 ⟨rfl, hb1⟩
  have q1 : Below w.heap.size w w1 := (((((Below.refl _ _).alloc (Nat.le_refl _) _).alloc (by simp) _).alloc (by simp <;> omega) _).alloc (by simp <;> omega) _).trans (hb1.mono (by simp <;> omega))
  replace Hra := Hra.belw q1
  replace Hrb := Hrb.belw q1
  have x1_0 : Blk w1 (w.heap.size) 26 #[.bool b, .slice A n c, .slice D m e, .bool x] := ((((blkAt _ _ _ (by simp)).alloc _).alloc _).alloc _).below hb1 (by simp <;> omega)
  have x1_1 : Blk w1 (w.heap.size + 1) 26 #[.bool b', .slice A' n' c', .slice D' m' e', .bool x'] := (((blkAt _ _ _ (by simp)).alloc _).alloc _).below hb1 (by simp <;> omega)
  have x1_2 : Blk w1 (w.heap.size + 1 + 1) 26 #[.bool false, .slice none 0 0, .slice none 0 0, .bool false] := ((blkAt _ _ _ (by simp)).alloc _).below hb1 (by simp <;> omega)
  have x1_3 : Blk w1 (w.heap.size + 1 + 1 + 1) 26 #[.bool b, .slice A n c, .slice D m e, .bool x, .bool b', .slice A' n' c', .slice D' m' e', .bool x'] := (blkAt _ _ _ (by simp)).below hb1 (by simp)
  have bw1 : Below w.heap.size w w1 := (brefl w).trans (q1.mono (brefl w).size)
  have lw1 : w.heap.size + 4 ≤ w1.heap.size := by have := hb1.size; simp at this; omega
  clear hb1 q1
  obtain ⟨cx1_2_0, cx1_2_1, cx1_2_2, cx1_2_3⟩ := x1_2.c4
  obtain ⟨fx1_2_0, fx1_2_1, fx1_2_2, fx1_2_3⟩ := x1_2.f4
  obtain ⟨lx1_2_0, lx1_2_1, lx1_2_2, lx1_2_3⟩ := lts2 x1_2.lt
  go_wp2_with fail
  refine bodyPost_ret (v := .tuple #[.agg #[.bool false, .slice none 0 0, .slice none 0 0, .bool false], .iface 71 (.int .i64 2)]) (by simp [results, Tryz.results33, go_sem, *] <;> first | rfl | exact ⟨rfl, rfl⟩) rfl ?_
  exact ⟨rfl, ((((bw1.setCell (p := ⟨w.heap.size + 1 + 1, 0, none⟩) (by dsimp only; omega) (.bool false)).setCell (p := ⟨w.heap.size + 1 + 1, 1, none⟩) (by dsimp only; omega) (.slice none 0 0)).setCell (p := ⟨w.heap.size + 1 + 1, 2, none⟩) (by dsimp only; omega) (.slice none 0 0)).setCell (p := ⟨w.heap.size + 1 + 1, 3, none⟩) (by dsimp only; omega) (.bool false))⟩
set_option maxHeartbeats 1000000 in
theorem b_nil2 (w : World) : Calls Tryz.prog 13 #[.nilIface] w (RetV w (.int .i64 0)) := by
  go_enter Tryz.func13, Tryz.ntmps13
  go_wp2
  go_ret
  exact ⟨rfl, brefl w⟩
theorem run_as_err2 (w : World) : (Instr.typeAssert (.iface 71 (.int .i64 2)) 30 71 true).run Tryz.prog w = .ok (.tuple #[.int .i64 2, .bool true]) w := by
  simp [Instr.typeAssert, run_underlying Tryz.underlying71]
set_option maxRecDepth 100000 in
set_option maxHeartbeats 1000000 in
theorem b_err2 (w : World) : Calls Tryz.prog 13 #[.iface 71 (.int .i64 2)] w (RetV w (.int .i64 2)) := by
  go_enter Tryz.func13, Tryz.ntmps13
  have hr := run_as_err2
  go_wp2
  go_ret
  exact ⟨rfl, brefl w⟩
end Go.Proofs.YtpnnfbodphflpaaGreatDoor

/- Walks: the texts of turns; turns that are not accepted. -/
namespace Go.Proofs.YtpnnfbodphflpaaGreatDoor
open Go Go.RowKit Bn
attribute [local go_sem ↓] Go.wp_at_zero Go.wp_at_succ
/-- The text of a turn. -/
def turnText (t : TN) : List UInt8 := if t.h then [104, 97, 108, 102] else ratText t.t
set_option maxRecDepth 100000 in
set_option maxHeartbeats 2000000 in
/-- turn.Text -/
theorem t_Text_t (w : World) (b : Bool) (A : Option Addr) (n c : Nat) (D : Option Addr) (m e : Nat) (t : TN) (k : Nat) (h : TK w b A n c D m e true t k) (h0 : 0 < k) (hk : k ≤ 1000000) (htab : Tab w) :
    Calls Tryz.prog 11 #[.agg #[.bool b, .slice A n c, .slice D m e, .bool true]] w (RetV w (.tuple #[.string ⟨#[104, 97, 108, 102]⟩, .nilIface])) := by
  go_enter Tryz.func11, Tryz.ntmps11
  go_wp2_with fail
  (with_reducible refine (t_check _ b A n c D m e true (t) (k) ?_ ?_ ?_).mono ?_); (exact (h.belw ((Below.refl _ _).alloc (Nat.le_refl _) _))); (first | omega | decide | assumption); (first | omega | decide | assumption); rintro e w1 ⟨rfl, hb1⟩
  have q1 : Below w.heap.size w w1 := ((Below.refl _ _).alloc (Nat.le_refl _) _).trans (hb1.mono (by simp))
  replace h := h.belw q1
  have x1_0 : Blk w1 (w.heap.size) 26 #[.bool b, .slice A n c, .slice D m e, .bool true] := (blkAt _ _ _ (by simp)).below hb1 (by simp)
  have bw1 : Below w.heap.size w w1 := (brefl w).trans (q1.mono (brefl w).size)
  have lw1 : w.heap.size + 1 ≤ w1.heap.size := by have := hb1.size; simp at this; omega
  clear hb1 q1
  obtain ⟨cx1_0_0, cx1_0_1, cx1_0_2, cx1_0_3⟩ := x1_0.c4
  obtain ⟨lx1_0_0, lx1_0_1, lx1_0_2, lx1_0_3⟩ := lts0 x1_0.lt
  go_wp2_with fail
  go_ret2
  exact ⟨rfl, bw1⟩
set_option maxRecDepth 100000 in
set_option maxHeartbeats 2000000 in
/-- turn.Text -/
theorem t_Text_f (w : World) (b : Bool) (A : Option Addr) (n c : Nat) (D : Option Addr) (m e : Nat) (t : TN) (k : Nat) (h : TK w b A n c D m e false t k) (h0 : 0 < k) (hk : k ≤ 1000000) (htab : Tab w) (T : List UInt8) (hT : ratText t.t = T) :
    Calls Tryz.prog 11 #[.agg #[.bool b, .slice A n c, .slice D m e, .bool false]] w (RetV w (.tuple #[strV T, .nilIface])) := by
  have HT := Lib.hid hT
  clear hT
  go_enter Tryz.func11, Tryz.ntmps11
  go_wp2_with fail
  (with_reducible refine (t_check _ b A n c D m e false (t) (k) ?_ ?_ ?_).mono ?_); (exact (h.belw ((Below.refl _ _).alloc (Nat.le_refl _) _))); (first | omega | decide | assumption); (first | omega | decide | assumption); rintro e w1 ⟨rfl, hb1⟩
  have q1 : Below w.heap.size w w1 := ((Below.refl _ _).alloc (Nat.le_refl _) _).trans (hb1.mono (by simp))
  replace h := h.belw q1
  have x1_0 : Blk w1 (w.heap.size) 26 #[.bool b, .slice A n c, .slice D m e, .bool false] := (blkAt _ _ _ (by simp)).below hb1 (by simp)
  have bw1 : Below w.heap.size w w1 := (brefl w).trans (q1.mono (brefl w).size)
  have lw1 : w.heap.size + 1 ≤ w1.heap.size := by have := hb1.size; simp at this; omega
  clear hb1 q1
  obtain ⟨cx1_0_0, cx1_0_1, cx1_0_2, cx1_0_3⟩ := x1_0.c4
  obtain ⟨lx1_0_0, lx1_0_1, lx1_0_2, lx1_0_3⟩ := lts0 x1_0.lt
  go_wp2_with fail
  (with_reducible refine (f_text _ b A n c D m e ((t).t) (k) ?_ (by omega) (by omega) (htab.belw bw1) T HT.out).mono ?_); (exact h.qz); rintro e w2 ⟨rfl, hb2⟩
  clear cx1_0_0 cx1_0_1 cx1_0_2 cx1_0_3 lx1_0_0 lx1_0_1 lx1_0_2 lx1_0_3
  have q2 : Below w1.heap.size w1 w2 := hb2
  replace h := h.belw q2
  replace x1_0 := x1_0.below q2 x1_0.lt
  have bw2 : Below w.heap.size w w2 := bw1.trans (q2.mono bw1.size)
  have lw2 : w1.heap.size ≤ w2.heap.size := q2.size
  clear hb2 q2 bw1
  go_wp2_with fail
  go_ret2
  exact ⟨rfl, bw2⟩
theorem t_Text (w : World) (b : Bool) (A : Option Addr) (n c : Nat) (D : Option Addr) (m e : Nat) (x : Bool) (t : TN) (k : Nat) (h : TK w b A n c D m e x t k) (h0 : 0 < k) (hk : k ≤ 1000000) (htab : Tab w) (T : List UInt8) (hT : turnText t = T) : Calls Tryz.prog 11 #[.agg #[.bool b, .slice A n c, .slice D m e, .bool x]] w (RetV w (.tuple #[strV T, .nilIface])) := by
  subst hT
  cases x
  · have : turnText t = ratText t.t := if_neg (by rw [← h.2.1]; simp)
    rw [this]; exact t_Text_f w b A n c D m e t k h h0 hk htab _ rfl
  · have : turnText t = [104, 97, 108, 102] := if_pos h.2.1.symm
    rw [this]; exact t_Text_t w b A n c D m e t k h h0 hk htab
set_option maxRecDepth 100000 in
set_option maxHeartbeats 2000000 in
/-- linkworkref12.Text -/
theorem u_Text_t (w : World) (b : Bool) (A : Option Addr) (n c : Nat) (D : Option Addr) (m e : Nat) (t : TN) (k : Nat) (h : TK w b A n c D m e true t k) (h0 : 0 < k) (hk : k ≤ 1000000) :
    Calls Tryz.prog 20 #[.agg #[.bool b, .slice A n c, .slice D m e, .bool true]] w (RetV w (.string ⟨#[104, 97, 108, 102]⟩)) := by
  go_enter Tryz.func20, Tryz.ntmps20
  go_wp2_with fail
  go_ret
  exact ⟨rfl, ((brefl w).alloc (by first | omega | (simp <;> omega)) (.cells #[.bool b, .slice A n c, .slice D m e, .bool true] 26))⟩
set_option maxRecDepth 100000 in
set_option maxHeartbeats 2000000 in
/-- linkworkref12.Text -/
theorem u_Text_f (w : World) (b : Bool) (A : Option Addr) (n c : Nat) (D : Option Addr) (m e : Nat) (t : TN) (k : Nat) (h : TK w b A n c D m e false t k) (h0 : 0 < k) (hk : k ≤ 1000000) (T : List UInt8) (hT : ratText t.t = T) :
    Calls Tryz.prog 20 #[.agg #[.bool b, .slice A n c, .slice D m e, .bool false]] w (RetV w (strV T)) := by
  have HT := Lib.hid hT
  clear hT
  go_enter Tryz.func20, Tryz.ntmps20
  go_wp2_with fail
  (with_reducible refine (g_text _ b A n c D m e ((t).t) (k) ?_ (by omega) (by omega) T HT.out).mono ?_); (exact (h.belw ((Below.refl _ _).alloc (Nat.le_refl _) _)).qz); rintro e w1 ⟨rfl, hb1⟩
  have q1 : Below w.heap.size w w1 := ((Below.refl _ _).alloc (Nat.le_refl _) _).trans (hb1.mono (by simp))
  replace h := h.belw q1
  have x1_0 : Blk w1 (w.heap.size) 26 #[.bool b, .slice A n c, .slice D m e, .bool false] := (blkAt _ _ _ (by simp)).below hb1 (by simp)
  have bw1 : Below w.heap.size w w1 := (brefl w).trans (q1.mono (brefl w).size)
  have lw1 : w.heap.size + 1 ≤ w1.heap.size := by have := hb1.size; simp at this; omega
  clear hb1 q1
  go_wp2_with fail
  go_ret
  exact ⟨rfl, bw1⟩
theorem u_Text (w : World) (b : Bool) (A : Option Addr) (n c : Nat) (D : Option Addr) (m e : Nat) (x : Bool) (t : TN) (k : Nat) (h : TK w b A n c D m e x t k) (h0 : 0 < k) (hk : k ≤ 1000000) (T : List UInt8) (hT : turnText t = T) : Calls Tryz.prog 20 #[.agg #[.bool b, .slice A n c, .slice D m e, .bool x]] w (RetV w (strV T)) := by
  subst hT
  cases x
  · have : turnText t = ratText t.t := if_neg (by rw [← h.2.1]; simp)
    rw [this]; exact u_Text_f w b A n c D m e t k h h0 hk _ rfl
  · have : turnText t = [104, 97, 108, 102] := if_pos h.2.1.symm
    rw [this]; exact u_Text_t w b A n c D m e t k h h0 hk
set_option maxRecDepth 100000 in
set_option maxHeartbeats 2000000 in
/-- turn.Cos -/
theorem t_Cos_bad (w : World) (k : Nat) (b : Bool) (A : Option Addr) (n c : Nat) (D : Option Addr) (m e : Nat) (ra : RD) (Hra : QD w b A n c D m e ra k) (x : Bool) (h0 : 0 < k) (hk : k ≤ 30000000) (hbad : accT ra x = false) :
    Calls Tryz.prog 8 #[.agg #[.bool b, .slice A n c, .slice D m e, .bool x]] w (RetV w (.tuple #[.agg #[.bool false, .slice none 0 0, .slice none 0 0], .iface 71 (.int .i64 2)])) := by
  have HBAD := Lib.hid hbad
  clear hbad
  go_enter Tryz.func8, Tryz.ntmps8
  go_wp2_with fail
  (with_reducible refine (t_chk_bad _ b A n c D m e ra k ?_ ?_ ?_ x ?_).mono ?_); (exact Hra.belw (((Below.refl _ _).alloc (Nat.le_refl _) _).alloc (by simp) _)); (exact h0); (exact hk); (exact HBAD.out); rintro e w1 ⟨rfl, hb1⟩
  have q1 : Below w.heap.size w w1 := (((Below.refl _ _).alloc (Nat.le_refl _) _).alloc (by simp) _).trans (hb1.mono (by simp <;> omega))
  replace Hra := Hra.belw q1
  have x1_0 : Blk w1 (w.heap.size) 26 #[.bool b, .slice A n c, .slice D m e, .bool x] := ((blkAt _ _ _ (by simp)).alloc _).below hb1 (by simp <;> omega)
  have x1_1 : Blk w1 (w.heap.size + 1) 24 #[.bool false, .slice none 0 0, .slice none 0 0] := (blkAt _ _ _ (by simp)).below hb1 (by simp)
  have bw1 : Below w.heap.size w w1 := (brefl w).trans (q1.mono (brefl w).size)
  have lw1 : w.heap.size + 2 ≤ w1.heap.size := by have := hb1.size; simp at this; omega
  clear hb1 q1
  obtain ⟨cx1_1_0, cx1_1_1, cx1_1_2⟩ := x1_1.c3
  obtain ⟨fx1_1_0, fx1_1_1, fx1_1_2⟩ := x1_1.f3
  obtain ⟨lx1_1_0, lx1_1_1, lx1_1_2, lx1_1_3⟩ := lts1 x1_1.lt
  go_wp2_with fail
  refine bodyPost_ret (v := .tuple #[.agg #[.bool false, .slice none 0 0, .slice none 0 0], .iface 71 (.int .i64 2)]) (by simp [results, Tryz.results8, go_sem, *] <;> first | rfl | exact ⟨rfl, rfl⟩) rfl ?_
  exact ⟨rfl, (((bw1.setCell (p := ⟨w.heap.size + 1, 0, none⟩) (by dsimp only; omega) (.bool false)).setCell (p := ⟨w.heap.size + 1, 1, none⟩) (by dsimp only; omega) (.slice none 0 0)).setCell (p := ⟨w.heap.size + 1, 2, none⟩) (by dsimp only; omega) (.slice none 0 0))⟩
set_option maxRecDepth 100000 in
set_option maxHeartbeats 2000000 in
/-- turn.Sin -/
theorem t_Sin_bad (w : World) (k : Nat) (b : Bool) (A : Option Addr) (n c : Nat) (D : Option Addr) (m e : Nat) (ra : RD) (Hra : QD w b A n c D m e ra k) (x : Bool) (h0 : 0 < k) (hk : k ≤ 30000000) (hbad : accT ra x = false) :
    Calls Tryz.prog 9 #[.agg #[.bool b, .slice A n c, .slice D m e, .bool x]] w (RetV w (.tuple #[.agg #[.bool false, .slice none 0 0, .slice none 0 0], .iface 71 (.int .i64 2)])) := by
  have HBAD := Lib.hid hbad
  clear hbad
  go_enter Tryz.func9, Tryz.ntmps9
  go_wp2_with fail
  (with_reducible refine (t_chk_bad _ b A n c D m e ra k ?_ ?_ ?_ x ?_).mono ?_); (exact Hra.belw (((Below.refl _ _).alloc (Nat.le_refl _) _).alloc (by simp) _)); (exact h0); (exact hk); (exact HBAD.out); rintro e w1 ⟨rfl, hb1⟩
  have q1 : Below w.heap.size w w1 := (((Below.refl _ _).alloc (Nat.le_refl _) _).alloc (by simp) _).trans (hb1.mono (by simp <;> omega))
  replace Hra := Hra.belw q1
  have x1_0 : Blk w1 (w.heap.size) 26 #[.bool b, .slice A n c, .slice D m e, .bool x] := ((blkAt _ _ _ (by simp)).alloc _).below hb1 (by simp <;> omega)
  have x1_1 : Blk w1 (w.heap.size + 1) 24 #[.bool false, .slice none 0 0, .slice none 0 0] := (blkAt _ _ _ (by simp)).below hb1 (by simp)
  have bw1 : Below w.heap.size w w1 := (brefl w).trans (q1.mono (brefl w).size)
  have lw1 : w.heap.size + 2 ≤ w1.heap.size := by have := hb1.size; simp at this; omega
  clear hb1 q1
  obtain ⟨cx1_1_0, cx1_1_1, cx1_1_2⟩ := x1_1.c3
  obtain ⟨fx1_1_0, fx1_1_1, fx1_1_2⟩ := x1_1.f3
  obtain ⟨lx1_1_0, lx1_1_1, lx1_1_2, lx1_1_3⟩ := lts1 x1_1.lt
  go_wp2_with fail
  refine bodyPost_ret (v := .tuple #[.agg #[.bool false, .slice none 0 0, .slice none 0 0], .iface 71 (.int .i64 2)]) (by simp [results, Tryz.results9, go_sem, *] <;> first | rfl | exact ⟨rfl, rfl⟩) rfl ?_
  exact ⟨rfl, (((bw1.setCell (p := ⟨w.heap.size + 1, 0, none⟩) (by dsimp only; omega) (.bool false)).setCell (p := ⟨w.heap.size + 1, 1, none⟩) (by dsimp only; omega) (.slice none 0 0)).setCell (p := ⟨w.heap.size + 1, 2, none⟩) (by dsimp only; omega) (.slice none 0 0))⟩
set_option maxRecDepth 100000 in
set_option maxHeartbeats 2000000 in
/-- turn.Neg -/
theorem t_Neg_bad (w : World) (k : Nat) (b : Bool) (A : Option Addr) (n c : Nat) (D : Option Addr) (m e : Nat) (ra : RD) (Hra : QD w b A n c D m e ra k) (x : Bool) (h0 : 0 < k) (hk : k ≤ 30000000) (hbad : accT ra x = false) :
    Calls Tryz.prog 10 #[.agg #[.bool b, .slice A n c, .slice D m e, .bool x]] w (RetV w (.tuple #[.agg #[.bool false, .slice none 0 0, .slice none 0 0, .bool false], .iface 71 (.int .i64 2)])) := by
  have HBAD := Lib.hid hbad
  clear hbad
  go_enter Tryz.func10, Tryz.ntmps10
  go_wp2_with fail
  (with_reducible refine (t_chk_bad _ b A n c D m e ra k ?_ ?_ ?_ x ?_).mono ?_); (exact Hra.belw (((Below.refl _ _).alloc (Nat.le_refl _) _).alloc (by simp) _)); (exact h0); (exact hk); (exact HBAD.out); rintro e w1 ⟨rfl, hb1⟩
  have q1 : Below w.heap.size w w1 := (((Below.refl _ _).alloc (Nat.le_refl _) _).alloc (by simp) _).trans (hb1.mono (by simp <;> omega))
  replace Hra := Hra.belw q1
  have x1_0 : Blk w1 (w.heap.size) 26 #[.bool b, .slice A n c, .slice D m e, .bool x] := ((blkAt _ _ _ (by simp)).alloc _).below hb1 (by simp <;> omega)
  have x1_1 : Blk w1 (w.heap.size + 1) 26 #[.bool false, .slice none 0 0, .slice none 0 0, .bool false] := (blkAt _ _ _ (by simp)).below hb1 (by simp)
  have bw1 : Below w.heap.size w w1 := (brefl w).trans (q1.mono (brefl w).size)
  have lw1 : w.heap.size + 2 ≤ w1.heap.size := by have := hb1.size; simp at this; omega
  clear hb1 q1
  obtain ⟨cx1_1_0, cx1_1_1, cx1_1_2, cx1_1_3⟩ := x1_1.c4
  obtain ⟨fx1_1_0, fx1_1_1, fx1_1_2, fx1_1_3⟩ := x1_1.f4
  obtain ⟨lx1_1_0, lx1_1_1, lx1_1_2, lx1_1_3⟩ := lts1 x1_1.lt
  go_wp2_with fail
  refine bodyPost_ret (v := .tuple #[.agg #[.bool false, .slice none 0 0, .slice none 0 0, .bool false], .iface 71 (.int .i64 2)]) (by simp [results, Tryz.results10, go_sem, *] <;> first | rfl | exact ⟨rfl, rfl⟩) rfl ?_
  exact ⟨rfl, ((((bw1.setCell (p := ⟨w.heap.size + 1, 0, none⟩) (by dsimp only; omega) (.bool false)).setCell (p := ⟨w.heap.size + 1, 1, none⟩) (by dsimp only; omega) (.slice none 0 0)).setCell (p := ⟨w.heap.size + 1, 2, none⟩) (by dsimp only; omega) (.slice none 0 0)).setCell (p := ⟨w.heap.size + 1, 3, none⟩) (by dsimp only; omega) (.bool false))⟩
set_option maxRecDepth 100000 in
set_option maxHeartbeats 2000000 in
/-- turn.Text -/
theorem t_Text_bad (w : World) (k : Nat) (b : Bool) (A : Option Addr) (n c : Nat) (D : Option Addr) (m e : Nat) (ra : RD) (Hra : QD w b A n c D m e ra k) (x : Bool) (h0 : 0 < k) (hk : k ≤ 30000000) (hbad : accT ra x = false) :
    Calls Tryz.prog 11 #[.agg #[.bool b, .slice A n c, .slice D m e, .bool x]] w (RetV w (.tuple #[.string ⟨#[]⟩, .iface 71 (.int .i64 2)])) := by
  have HBAD := Lib.hid hbad
  clear hbad
  go_enter Tryz.func11, Tryz.ntmps11
  go_wp2_with fail
  (with_reducible refine (t_chk_bad _ b A n c D m e ra k ?_ ?_ ?_ x ?_).mono ?_); (exact Hra.belw ((Below.refl _ _).alloc (Nat.le_refl _) _)); (exact h0); (exact hk); (exact HBAD.out); rintro e w1 ⟨rfl, hb1⟩
  have q1 : Below w.heap.size w w1 := ((Below.refl _ _).alloc (Nat.le_refl _) _).trans (hb1.mono (by simp))
  replace Hra := Hra.belw q1
  have x1_0 : Blk w1 (w.heap.size) 26 #[.bool b, .slice A n c, .slice D m e, .bool x] := (blkAt _ _ _ (by simp)).below hb1 (by simp)
  have bw1 : Below w.heap.size w w1 := (brefl w).trans (q1.mono (brefl w).size)
  have lw1 : w.heap.size + 1 ≤ w1.heap.size := by have := hb1.size; simp at this; omega
  clear hb1 q1
  go_wp2_with fail
  go_ret2
  exact ⟨rfl, bw1⟩
end Go.Proofs.YtpnnfbodphflpaaGreatDoor

/- Walks: the reference: whether two accepted turns are the same. -/
namespace Go.Proofs.YtpnnfbodphflpaaGreatDoor
open Go Go.RowKit Bn
attribute [local go_sem ↓] Go.wp_at_zero Go.wp_at_succ
theorem g_cmp_e (w : World) (b : Bool) (A : Option Addr) (n c : Nat) (D : Option Addr) (m e : Nat) (q : Rat) (k : Nat) (h : QZ w b A n c D m e q k) (b' : Bool) (A' : Option Addr) (n' c' : Nat) (D' : Option Addr) (m' e' : Nat) (q' : Rat) (k' : Nat) (h' : QZ w b' A' n' c' D' m' e' q' k') (s : Int) (hs : (q - q').num.sign = s) (h0 : 0 < k) (hk : k ≤ 10000000) (h0' : 0 < k') (hk' : k' ≤ 10000000) : Calls Tryz.prog 48 #[.agg #[.bool b, .slice A n c, .slice D m e], .agg #[.bool b', .slice A' n' c', .slice D' m' e']] w (RetV w (.int .i64 s)) := by
  subst hs; exact g_cmp w b A n c D m e q k h b' A' n' c' D' m' e' q' k' h' h0 hk h0' hk'
theorem sub_sign {q q' : Rat} : (q - q').num.sign = 0 ↔ q = q' := by
  rw [Int.sign_eq_zero_iff_zero, Rat.num_eq_zero]
  constructor
  · intro h; have h2 := Rat.sub_add_cancel (a := q) (b := q'); rw [h, Rat.zero_add] at h2; exact h2.symm
  · intro h; rw [h]; exact Rat.sub_self
set_option maxRecDepth 100000 in
set_option maxHeartbeats 2000000 in
/-- linkworkref12.Same -/
theorem g_same_tt0 (w : World) (b : Bool) (A : Option Addr) (n c : Nat) (D : Option Addr) (m e : Nat) (t : TN) (k : Nat) (h : TK w b A n c D m e true t k) (b' : Bool) (A' : Option Addr) (n' c' : Nat) (D' : Option Addr) (m' e' : Nat) (t' : TN) (k' : Nat) (h' : TK w b' A' n' c' D' m' e' true t' k') (h0 : 0 < k) (hk : k ≤ 1000000) (h0' : 0 < k') (hk' : k' ≤ 1000000) (hs : (t.t - t'.t).num.sign = 0) :
    Calls Tryz.prog 18 #[.agg #[.bool b, .slice A n c, .slice D m e, .bool true], .agg #[.bool b', .slice A' n' c', .slice D' m' e', .bool true]] w (RetV w (.bool true)) := by
  have HS := Lib.hid hs
  clear hs
  go_enter Tryz.func18, Tryz.ntmps18
  go_wp2_with fail
  (with_reducible refine (g_cmp_e _ b A n c D m e ((t).t) (k) ?_ b' A' n' c' D' m' e' ((t').t) (k') ?_ (0) ?_ ?_ ?_ ?_ ?_).mono ?_); (exact (h.belw (((Below.refl _ _).alloc (Nat.le_refl _) _).alloc (by simp) _)).qz); (exact (h'.belw (((Below.refl _ _).alloc (Nat.le_refl _) _).alloc (by simp) _)).qz); (exact HS.out); (first | omega | decide | assumption); (first | omega | decide | assumption); (first | omega | decide | assumption); (first | omega | decide | assumption); rintro e w1 ⟨rfl, hb1⟩
  have q1 : Below w.heap.size w w1 := (((Below.refl _ _).alloc (Nat.le_refl _) _).alloc (by simp) _).trans (hb1.mono (by simp <;> omega))
  replace h := h.belw q1
  replace h' := h'.belw q1
  have x1_0 : Blk w1 (w.heap.size) 26 #[.bool b, .slice A n c, .slice D m e, .bool true] := ((blkAt _ _ _ (by simp)).alloc _).below hb1 (by simp <;> omega)
  have x1_1 : Blk w1 (w.heap.size + 1) 26 #[.bool b', .slice A' n' c', .slice D' m' e', .bool true] := (blkAt _ _ _ (by simp)).below hb1 (by simp)
  have bw1 : Below w.heap.size w w1 := (brefl w).trans (q1.mono (brefl w).size)
  have lw1 : w.heap.size + 2 ≤ w1.heap.size := by have := hb1.size; simp at this; omega
  clear hb1 q1
  go_wp2_with fail
  go_ret
  exact retB rfl bw1
set_option maxRecDepth 100000 in
set_option maxHeartbeats 2000000 in
/-- linkworkref12.Same -/
theorem g_same_tts (w : World) (b : Bool) (A : Option Addr) (n c : Nat) (D : Option Addr) (m e : Nat) (t : TN) (k : Nat) (h : TK w b A n c D m e true t k) (b' : Bool) (A' : Option Addr) (n' c' : Nat) (D' : Option Addr) (m' e' : Nat) (t' : TN) (k' : Nat) (h' : TK w b' A' n' c' D' m' e' true t' k') (h0 : 0 < k) (hk : k ≤ 1000000) (h0' : 0 < k') (hk' : k' ≤ 1000000) (s : Int) (hs : (t.t - t'.t).num.sign = s) (hne : s ≠ 0) :
    Calls Tryz.prog 18 #[.agg #[.bool b, .slice A n c, .slice D m e, .bool true], .agg #[.bool b', .slice A' n' c', .slice D' m' e', .bool true]] w (RetV w (.bool false)) := by
  have HS := Lib.hid hs
  have e0 : ((s : Int) == 0) = false := by simp; exact hne
  clear hs hne
  go_enter Tryz.func18, Tryz.ntmps18
  go_wp2_with fail
  (with_reducible refine (g_cmp_e _ b A n c D m e ((t).t) (k) ?_ b' A' n' c' D' m' e' ((t').t) (k') ?_ (s) ?_ ?_ ?_ ?_ ?_).mono ?_); (exact (h.belw (((Below.refl _ _).alloc (Nat.le_refl _) _).alloc (by simp) _)).qz); (exact (h'.belw (((Below.refl _ _).alloc (Nat.le_refl _) _).alloc (by simp) _)).qz); (exact HS.out); (first | omega | decide | assumption); (first | omega | decide | assumption); (first | omega | decide | assumption); (first | omega | decide | assumption); rintro e w1 ⟨rfl, hb1⟩
  have q1 : Below w.heap.size w w1 := (((Below.refl _ _).alloc (Nat.le_refl _) _).alloc (by simp) _).trans (hb1.mono (by simp <;> omega))
  replace h := h.belw q1
  replace h' := h'.belw q1
  have x1_0 : Blk w1 (w.heap.size) 26 #[.bool b, .slice A n c, .slice D m e, .bool true] := ((blkAt _ _ _ (by simp)).alloc _).below hb1 (by simp <;> omega)
  have x1_1 : Blk w1 (w.heap.size + 1) 26 #[.bool b', .slice A' n' c', .slice D' m' e', .bool true] := (blkAt _ _ _ (by simp)).below hb1 (by simp)
  have bw1 : Below w.heap.size w w1 := (brefl w).trans (q1.mono (brefl w).size)
  have lw1 : w.heap.size + 2 ≤ w1.heap.size := by have := hb1.size; simp at this; omega
  clear hb1 q1
  go_wp2_with fail
  go_ret
  exact retB rfl bw1
set_option maxRecDepth 100000 in
set_option maxHeartbeats 2000000 in
/-- linkworkref12.Same -/
theorem g_same_tf (w : World) (b : Bool) (A : Option Addr) (n c : Nat) (D : Option Addr) (m e : Nat) (t : TN) (k : Nat) (h : TK w b A n c D m e true t k) (b' : Bool) (A' : Option Addr) (n' c' : Nat) (D' : Option Addr) (m' e' : Nat) (t' : TN) (k' : Nat) (h' : TK w b' A' n' c' D' m' e' false t' k') (h0 : 0 < k) (hk : k ≤ 1000000) (h0' : 0 < k') (hk' : k' ≤ 1000000)  :
    Calls Tryz.prog 18 #[.agg #[.bool b, .slice A n c, .slice D m e, .bool true], .agg #[.bool b', .slice A' n' c', .slice D' m' e', .bool false]] w (RetV w (.bool false)) := by
  go_enter Tryz.func18, Tryz.ntmps18
  go_wp2_with fail
  go_ret
  exact retB rfl (((brefl w).alloc (by first | omega | (simp <;> omega)) (.cells #[.bool b, .slice A n c, .slice D m e, .bool true] 26)).alloc (by first | omega | (simp <;> omega)) (.cells #[.bool b', .slice A' n' c', .slice D' m' e', .bool false] 26))
set_option maxRecDepth 100000 in
set_option maxHeartbeats 2000000 in
/-- linkworkref12.Same -/
theorem g_same_ft (w : World) (b : Bool) (A : Option Addr) (n c : Nat) (D : Option Addr) (m e : Nat) (t : TN) (k : Nat) (h : TK w b A n c D m e false t k) (b' : Bool) (A' : Option Addr) (n' c' : Nat) (D' : Option Addr) (m' e' : Nat) (t' : TN) (k' : Nat) (h' : TK w b' A' n' c' D' m' e' true t' k') (h0 : 0 < k) (hk : k ≤ 1000000) (h0' : 0 < k') (hk' : k' ≤ 1000000)  :
    Calls Tryz.prog 18 #[.agg #[.bool b, .slice A n c, .slice D m e, .bool false], .agg #[.bool b', .slice A' n' c', .slice D' m' e', .bool true]] w (RetV w (.bool false)) := by
  go_enter Tryz.func18, Tryz.ntmps18
  go_wp2_with fail
  go_ret
  exact retB rfl (((brefl w).alloc (by first | omega | (simp <;> omega)) (.cells #[.bool b, .slice A n c, .slice D m e, .bool false] 26)).alloc (by first | omega | (simp <;> omega)) (.cells #[.bool b', .slice A' n' c', .slice D' m' e', .bool true] 26))
set_option maxRecDepth 100000 in
set_option maxHeartbeats 2000000 in
/-- linkworkref12.Same -/
theorem g_same_ff0 (w : World) (b : Bool) (A : Option Addr) (n c : Nat) (D : Option Addr) (m e : Nat) (t : TN) (k : Nat) (h : TK w b A n c D m e false t k) (b' : Bool) (A' : Option Addr) (n' c' : Nat) (D' : Option Addr) (m' e' : Nat) (t' : TN) (k' : Nat) (h' : TK w b' A' n' c' D' m' e' false t' k') (h0 : 0 < k) (hk : k ≤ 1000000) (h0' : 0 < k') (hk' : k' ≤ 1000000) (hs : (t.t - t'.t).num.sign = 0) :
    Calls Tryz.prog 18 #[.agg #[.bool b, .slice A n c, .slice D m e, .bool false], .agg #[.bool b', .slice A' n' c', .slice D' m' e', .bool false]] w (RetV w (.bool true)) := by
  have HS := Lib.hid hs
  clear hs
  go_enter Tryz.func18, Tryz.ntmps18
  go_wp2_with fail
  (with_reducible refine (g_cmp_e _ b A n c D m e ((t).t) (k) ?_ b' A' n' c' D' m' e' ((t').t) (k') ?_ (0) ?_ ?_ ?_ ?_ ?_).mono ?_); (exact (h.belw (((Below.refl _ _).alloc (Nat.le_refl _) _).alloc (by simp) _)).qz); (exact (h'.belw (((Below.refl _ _).alloc (Nat.le_refl _) _).alloc (by simp) _)).qz); (exact HS.out); (first | omega | decide | assumption); (first | omega | decide | assumption); (first | omega | decide | assumption); (first | omega | decide | assumption); rintro e w1 ⟨rfl, hb1⟩
  have q1 : Below w.heap.size w w1 := (((Below.refl _ _).alloc (Nat.le_refl _) _).alloc (by simp) _).trans (hb1.mono (by simp <;> omega))
  replace h := h.belw q1
  replace h' := h'.belw q1
  have x1_0 : Blk w1 (w.heap.size) 26 #[.bool b, .slice A n c, .slice D m e, .bool false] := ((blkAt _ _ _ (by simp)).alloc _).below hb1 (by simp <;> omega)
  have x1_1 : Blk w1 (w.heap.size + 1) 26 #[.bool b', .slice A' n' c', .slice D' m' e', .bool false] := (blkAt _ _ _ (by simp)).below hb1 (by simp)
  have bw1 : Below w.heap.size w w1 := (brefl w).trans (q1.mono (brefl w).size)
  have lw1 : w.heap.size + 2 ≤ w1.heap.size := by have := hb1.size; simp at this; omega
  clear hb1 q1
  go_wp2_with fail
  go_ret
  exact retB rfl bw1
set_option maxRecDepth 100000 in
set_option maxHeartbeats 2000000 in
/-- linkworkref12.Same -/
theorem g_same_ffs (w : World) (b : Bool) (A : Option Addr) (n c : Nat) (D : Option Addr) (m e : Nat) (t : TN) (k : Nat) (h : TK w b A n c D m e false t k) (b' : Bool) (A' : Option Addr) (n' c' : Nat) (D' : Option Addr) (m' e' : Nat) (t' : TN) (k' : Nat) (h' : TK w b' A' n' c' D' m' e' false t' k') (h0 : 0 < k) (hk : k ≤ 1000000) (h0' : 0 < k') (hk' : k' ≤ 1000000) (s : Int) (hs : (t.t - t'.t).num.sign = s) (hne : s ≠ 0) :
    Calls Tryz.prog 18 #[.agg #[.bool b, .slice A n c, .slice D m e, .bool false], .agg #[.bool b', .slice A' n' c', .slice D' m' e', .bool false]] w (RetV w (.bool false)) := by
  have HS := Lib.hid hs
  have e0 : ((s : Int) == 0) = false := by simp; exact hne
  clear hs hne
  go_enter Tryz.func18, Tryz.ntmps18
  go_wp2_with fail
  (with_reducible refine (g_cmp_e _ b A n c D m e ((t).t) (k) ?_ b' A' n' c' D' m' e' ((t').t) (k') ?_ (s) ?_ ?_ ?_ ?_ ?_).mono ?_); (exact (h.belw (((Below.refl _ _).alloc (Nat.le_refl _) _).alloc (by simp) _)).qz); (exact (h'.belw (((Below.refl _ _).alloc (Nat.le_refl _) _).alloc (by simp) _)).qz); (exact HS.out); (first | omega | decide | assumption); (first | omega | decide | assumption); (first | omega | decide | assumption); (first | omega | decide | assumption); rintro e w1 ⟨rfl, hb1⟩
  have q1 : Below w.heap.size w w1 := (((Below.refl _ _).alloc (Nat.le_refl _) _).alloc (by simp) _).trans (hb1.mono (by simp <;> omega))
  replace h := h.belw q1
  replace h' := h'.belw q1
  have x1_0 : Blk w1 (w.heap.size) 26 #[.bool b, .slice A n c, .slice D m e, .bool false] := ((blkAt _ _ _ (by simp)).alloc _).below hb1 (by simp <;> omega)
  have x1_1 : Blk w1 (w.heap.size + 1) 26 #[.bool b', .slice A' n' c', .slice D' m' e', .bool false] := (blkAt _ _ _ (by simp)).below hb1 (by simp)
  have bw1 : Below w.heap.size w w1 := (brefl w).trans (q1.mono (brefl w).size)
  have lw1 : w.heap.size + 2 ≤ w1.heap.size := by have := hb1.size; simp at this; omega
  clear hb1 q1
  go_wp2_with fail
  go_ret
  exact retB rfl bw1
theorem g_same (w : World) (b : Bool) (A : Option Addr) (n c : Nat) (D : Option Addr) (m e : Nat) (x : Bool) (t : TN) (k : Nat) (h : TK w b A n c D m e x t k) (b' : Bool) (A' : Option Addr) (n' c' : Nat) (D' : Option Addr) (m' e' : Nat) (x' : Bool) (t' : TN) (k' : Nat) (h' : TK w b' A' n' c' D' m' e' x' t' k') (h0 : 0 < k) (hk : k ≤ 1000000) (h0' : 0 < k') (hk' : k' ≤ 1000000) (v : Bool) (hv : v = true ↔ t = t') : Calls Tryz.prog 18 #[.agg #[.bool b, .slice A n c, .slice D m e, .bool x], .agg #[.bool b', .slice A' n' c', .slice D' m' e', .bool x']] w (RetV w (.bool v)) := by
  have h1 := h.2.1
  have h2 := h'.2.1
  by_cases he : t = t'
  · have hs : (t.t - t'.t).num.sign = 0 := sub_sign.2 (by rw [he])
    obtain rfl : v = true := hv.2 he
    have hx : x = x' := by rw [h1, h2, he]
    subst hx
    cases x
    · exact g_same_ff0 w b A n c D m e t k h b' A' n' c' D' m' e' t' k' h' h0 hk h0' hk' hs
    · exact g_same_tt0 w b A n c D m e t k h b' A' n' c' D' m' e' t' k' h' h0 hk h0' hk' hs
  · obtain rfl : v = false := by cases v; rfl; exact absurd (hv.1 rfl) he
    by_cases hx : x = x'
    · subst hx
      have hne : (t.t - t'.t).num.sign ≠ 0 := fun z => he (by
        obtain ⟨a, ah⟩ := t
        obtain ⟨a', ah'⟩ := t'
        have := sub_sign.1 z
        simp only at this h1 h2
        rw [this, ← h1, ← h2])
      cases x
      · exact g_same_ffs w b A n c D m e t k h b' A' n' c' D' m' e' t' k' h' h0 hk h0' hk' _ rfl hne
      · exact g_same_tts w b A n c D m e t k h b' A' n' c' D' m' e' t' k' h' h0 hk h0' hk' _ rfl hne
    · cases x <;> cases x'
      · exact absurd rfl hx
      · exact g_same_ft w b A n c D m e t k h b' A' n' c' D' m' e' t' k' h' h0 hk h0' hk'
      · exact g_same_tf w b A n c D m e t k h b' A' n' c' D' m' e' t' k' h' h0 hk h0' hk'
      · exact absurd rfl hx
theorem g_same_e (w : World) (b : Bool) (A : Option Addr) (n c : Nat) (D : Option Addr) (m e : Nat) (x : Bool) (t : TN) (k : Nat) (h : TK w b A n c D m e x t k) (b' : Bool) (A' : Option Addr) (n' c' : Nat) (D' : Option Addr) (m' e' : Nat) (x' : Bool) (t' : TN) (k' : Nat) (h' : TK w b' A' n' c' D' m' e' x' t' k') (v : Bool) (hv : v = true ↔ t = t') (h0 : 0 < k) (hk : k ≤ 1000000) (h0' : 0 < k') (hk' : k' ≤ 1000000) : Calls Tryz.prog 18 #[.agg #[.bool b, .slice A n c, .slice D m e, .bool x], .agg #[.bool b', .slice A' n' c', .slice D' m' e', .bool x']] w (RetV w (.bool v)) := g_same w b A n c D m e x t k h b' A' n' c' D' m' e' x' t' k' h' h0 hk h0' hk' v hv
theorem TK.zero (w : World) : TK w false none 0 0 none 0 0 false tzero 1 := ⟨⟨⟨false, [], []⟩, ⟨rfl, Wd.nil_ w, Wd.nil_ w, Nat.zero_le _, Nat.zero_le _⟩, by rfl, by rfl⟩, rfl, tzero_ok⟩
end Go.Proofs.YtpnnfbodphflpaaGreatDoor

/- Walks: the reference: products and quotients of fractions. -/
namespace Go.Proofs.YtpnnfbodphflpaaGreatDoor
open Go Go.RowKit Bn
attribute [local go_sem ↓] Go.wp_at_zero Go.wp_at_succ
set_option maxRecDepth 100000 in
set_option maxHeartbeats 2000000 in
/-- linkworkref02.Of -/
theorem g_of (w : World) (i : Int) (hi : -4294967296 < i) (hi2 : i < 4294967296) :
    Calls Tryz.prog 42 #[.int .i64 i] w (RetF w (i : Rat) 1) := by
  go_enter Tryz.func42, Tryz.ntmps42
  go_wp2_with fail
  (with_reducible refine (r01_of1 _ (i) ?_ ?_).mono ?_); (first | omega | decide | assumption); (first | omega | decide | assumption); rintro e w1 ⟨b1, A1, n1, c1, rfl, h1, hb1⟩
  have q1 : Below w.heap.size w w1 := ((Below.refl _ _).alloc (Nat.le_refl _) _).trans (hb1.mono (by simp))
  have x1_0 : Blk w1 (w.heap.size) 24 #[.bool false, .slice none 0 0, .slice none 0 0] := (blkAt _ _ _ (by simp)).below hb1 (by simp)
  have bw1 : Below w.heap.size w w1 := (brefl w).trans (q1.mono (brefl w).size)
  have lw1 : w.heap.size + 1 ≤ w1.heap.size := by have := hb1.size; simp at this; omega
  clear hb1 q1
  go_wp2_with fail
  (with_reducible refine (g_one _).mono ?_); rintro e w2 ⟨b2, A2, n2, c2, rfl, h2, hb2⟩
  have q2 : Below w1.heap.size w1 w2 := hb2
  replace h1 := h1.belw q2
  replace x1_0 := x1_0.below q2 x1_0.lt
  have bw2 : Below w.heap.size w w2 := bw1.trans (q2.mono bw1.size)
  have lw2 : w1.heap.size ≤ w2.heap.size := q2.size
  clear hb2 q2 bw1
  go_wp2_with fail
  (with_reducible refine (g_form _ b1 A1 n1 c1 (i) (1) ?_ b2 A2 n2 c2 (1) (1) ?_ ((i : Rat)) (1) ?_ ?_ ?_ ?_).mono ?_); (exact h1.iz); (exact h2.iz); (decide); (exact int_q i); (exact Sz_int (by omega) (by decide)); (decide); rintro e w3 ⟨b3, A3, n3, c3, A'3, n'3, c'3, rfl, h3, hb3⟩
  have q3 : Below w2.heap.size w2 w3 := hb3
  replace h1 := h1.belw q3
  replace h2 := h2.belw q3
  replace x1_0 := x1_0.below q3 x1_0.lt
  have bw3 : Below w.heap.size w w3 := bw2.trans (q3.mono bw2.size)
  have lw3 : w2.heap.size ≤ w3.heap.size := q3.size
  clear hb3 q3 bw2
  obtain ⟨cx1_0_0, cx1_0_1, cx1_0_2⟩ := x1_0.c3
  obtain ⟨fx1_0_0, fx1_0_1, fx1_0_2⟩ := x1_0.f3
  obtain ⟨lx1_0_0, lx1_0_1, lx1_0_2, lx1_0_3⟩ := lts0 x1_0.lt
  go_wp2_with fail
  refine bodyPost_ret (v := .agg #[.bool b3, .slice A3 n3 c3, .slice A'3 n'3 c'3]) (by simp [results, Tryz.results42, go_sem, *] <;> first | rfl | exact ⟨rfl, rfl⟩) rfl ?_
  exact ⟨b3, A3, n3, c3, A'3, n'3, c'3, rfl, h3.keep ((((Kp.refl w3).setB (p := ⟨w.heap.size, 0, none⟩) x1_0.box (by decide) (.bool b3)).setB (p := ⟨w.heap.size, 1, none⟩) (x1_0.box.set ⟨w.heap.size, 0, none⟩ (.bool b3)) (by decide) (.slice A3 n3 c3)).setB (p := ⟨w.heap.size, 2, none⟩) ((x1_0.box.set ⟨w.heap.size, 0, none⟩ (.bool b3)).set ⟨w.heap.size, 1, none⟩ (.slice A3 n3 c3)) (by decide) (.slice A'3 n'3 c'3)), (((bw3.setCell (p := ⟨w.heap.size, 0, none⟩) (by dsimp only; omega) (.bool b3)).setCell (p := ⟨w.heap.size, 1, none⟩) (by dsimp only; omega) (.slice A3 n3 c3)).setCell (p := ⟨w.heap.size, 2, none⟩) (by dsimp only; omega) (.slice A'3 n'3 c'3))⟩
set_option maxRecDepth 100000 in
set_option maxHeartbeats 2000000 in
/-- linkworkref02.Mul -/
theorem g_mul (w : World) (b : Bool) (A : Option Addr) (n c : Nat) (D : Option Addr) (m e : Nat) (q : Rat) (k : Nat) (h : QZ w b A n c D m e q k) (b' : Bool) (A' : Option Addr) (n' c' : Nat) (D' : Option Addr) (m' e' : Nat) (q' : Rat) (k' : Nat) (h' : QZ w b' A' n' c' D' m' e' q' k') (h0 : 0 < k) (hk : k ≤ 40000000) (h0' : 0 < k') (hk' : k' ≤ 40000000) :
    Calls Tryz.prog 43 #[.agg #[.bool b, .slice A n c, .slice D m e], .agg #[.bool b', .slice A' n' c', .slice D' m' e']] w (RetF w (q * q') (k + k')) := by
  have HS := Lib.hid (h.sz h0)
  have HS' := Lib.hid (h'.sz h0')
  go_enter Tryz.func43, Tryz.ntmps43
  go_wp2_with fail
  (with_reducible refine (g_parts _ b A n c D m e (q) (k) ?_ ?_ ?_).mono ?_); (exact (h.belw ((((Below.refl _ _).alloc (Nat.le_refl _) _).alloc (by simp) _).alloc (by simp <;> omega) _))); (first | omega | decide | assumption); (first | omega | decide | assumption); rintro e w1 ⟨b1, A1, n1, c1, b'1, A'1, n'1, c'1, rfl, h1, h'1, hb1⟩
  have q1 : Below w.heap.size w w1 := ((((Below.refl _ _).alloc (Nat.le_refl _) _).alloc (by simp) _).alloc (by simp <;> omega) _).trans (hb1.mono (by simp <;> omega))
  replace h := h.belw q1
  replace h' := h'.belw q1
  have x1_0 : Blk w1 (w.heap.size) 24 #[.bool b, .slice A n c, .slice D m e] := (((blkAt _ _ _ (by simp)).alloc _).alloc _).below hb1 (by simp <;> omega)
  have x1_1 : Blk w1 (w.heap.size + 1) 24 #[.bool b', .slice A' n' c', .slice D' m' e'] := ((blkAt _ _ _ (by simp)).alloc _).below hb1 (by simp <;> omega)
  have x1_2 : Blk w1 (w.heap.size + 1 + 1) 24 #[.bool false, .slice none 0 0, .slice none 0 0] := (blkAt _ _ _ (by simp)).below hb1 (by simp)
  have bw1 : Below w.heap.size w w1 := (brefl w).trans (q1.mono (brefl w).size)
  have lw1 : w.heap.size + 3 ≤ w1.heap.size := by have := hb1.size; simp at this; omega
  clear hb1 q1
  obtain ⟨cx1_1_0, cx1_1_1, cx1_1_2⟩ := x1_1.c3
  obtain ⟨lx1_1_0, lx1_1_1, lx1_1_2, lx1_1_3⟩ := lts1 x1_1.lt
  go_wp2_with fail
  (with_reducible refine (g_parts _ b' A' n' c' D' m' e' (q') (k') ?_ ?_ ?_).mono ?_); (exact (h'.belw (((Below.refl _ _).alloc (Nat.le_refl _) _).alloc (by simp) _))); (first | omega | decide | assumption); (first | omega | decide | assumption); rintro e w2 ⟨b2, A2, n2, c2, b'2, A'2, n'2, c'2, rfl, h2, h'2, hb2⟩
  clear cx1_1_0 cx1_1_1 cx1_1_2 lx1_1_0 lx1_1_1 lx1_1_2 lx1_1_3
  have q2 : Below w1.heap.size w1 w2 := (((Below.refl _ _).alloc (Nat.le_refl _) _).alloc (by simp) _).trans (hb2.mono (by simp <;> omega))
  replace h := h.belw q2
  replace h' := h'.belw q2
  replace h1 := h1.belw q2
  replace h'1 := h'1.belw q2
  replace x1_0 := x1_0.below q2 x1_0.lt
  replace x1_1 := x1_1.below q2 x1_1.lt
  replace x1_2 := x1_2.below q2 x1_2.lt
  have x2_0 : Blk w2 (w1.heap.size) 48 #[.bool b1, .slice A1 n1 c1] := ((blkAt _ _ _ (by simp)).alloc _).below hb2 (by simp <;> omega)
  have x2_1 : Blk w2 (w1.heap.size + 1) 48 #[.bool b'1, .slice A'1 n'1 c'1] := (blkAt _ _ _ (by simp)).below hb2 (by simp)
  have bw2 : Below w.heap.size w w2 := bw1.trans (q2.mono bw1.size)
  have lw2 : w1.heap.size + 2 ≤ w2.heap.size := by have := hb2.size; simp at this; omega
  clear hb2 q2 bw1
  go_wp2_with fail
  have p3 : Kp w2 ((w2.alloc (.cells #[.bool b2, .slice A2 n2 c2] 48)).alloc (.cells #[.bool b'2, .slice A'2 n'2 c'2] 48)) := (((Kp.refl w2).alloc (.cells #[.bool b2, .slice A2 n2 c2] 48)).alloc (.cells #[.bool b'2, .slice A'2 n'2 c'2] 48))
  have bw3 : Below w.heap.size w ((w2.alloc (.cells #[.bool b2, .slice A2 n2 c2] 48)).alloc (.cells #[.bool b'2, .slice A'2 n'2 c'2] 48)) := ((bw2.alloc (by first | omega | (simp <;> omega)) (.cells #[.bool b2, .slice A2 n2 c2] 48)).alloc (by first | omega | (simp <;> omega)) (.cells #[.bool b'2, .slice A'2 n'2 c'2] 48))
  have x3_0 : Blk ((w2.alloc (.cells #[.bool b2, .slice A2 n2 c2] 48)).alloc (.cells #[.bool b'2, .slice A'2 n'2 c'2] 48)) (w2.heap.size) 48 #[.bool b2, .slice A2 n2 c2] := ((blkAt _ _ _ (by simp)).alloc (.cells #[.bool b'2, .slice A'2 n'2 c'2] 48))
  have x3_1 : Blk ((w2.alloc (.cells #[.bool b2, .slice A2 n2 c2] 48)).alloc (.cells #[.bool b'2, .slice A'2 n'2 c'2] 48)) (w2.heap.size + 1) 48 #[.bool b'2, .slice A'2 n'2 c'2] := (blkAt _ _ _ (by simp))
  replace x1_0 : Blk ((w2.alloc (.cells #[.bool b2, .slice A2 n2 c2] 48)).alloc (.cells #[.bool b'2, .slice A'2 n'2 c'2] 48)) (w.heap.size) 24 #[.bool b, .slice A n c, .slice D m e] := ((x1_0.alloc (.cells #[.bool b2, .slice A2 n2 c2] 48)).alloc (.cells #[.bool b'2, .slice A'2 n'2 c'2] 48))
  replace x1_1 : Blk ((w2.alloc (.cells #[.bool b2, .slice A2 n2 c2] 48)).alloc (.cells #[.bool b'2, .slice A'2 n'2 c'2] 48)) (w.heap.size + 1) 24 #[.bool b', .slice A' n' c', .slice D' m' e'] := ((x1_1.alloc (.cells #[.bool b2, .slice A2 n2 c2] 48)).alloc (.cells #[.bool b'2, .slice A'2 n'2 c'2] 48))
  replace x1_2 : Blk ((w2.alloc (.cells #[.bool b2, .slice A2 n2 c2] 48)).alloc (.cells #[.bool b'2, .slice A'2 n'2 c'2] 48)) (w.heap.size + 1 + 1) 24 #[.bool false, .slice none 0 0, .slice none 0 0] := ((x1_2.alloc (.cells #[.bool b2, .slice A2 n2 c2] 48)).alloc (.cells #[.bool b'2, .slice A'2 n'2 c'2] 48))
  replace x2_0 : Blk ((w2.alloc (.cells #[.bool b2, .slice A2 n2 c2] 48)).alloc (.cells #[.bool b'2, .slice A'2 n'2 c'2] 48)) (w1.heap.size) 48 #[.bool b1, .slice A1 n1 c1] := ((x2_0.alloc (.cells #[.bool b2, .slice A2 n2 c2] 48)).alloc (.cells #[.bool b'2, .slice A'2 n'2 c'2] 48))
  replace x2_1 : Blk ((w2.alloc (.cells #[.bool b2, .slice A2 n2 c2] 48)).alloc (.cells #[.bool b'2, .slice A'2 n'2 c'2] 48)) (w1.heap.size + 1) 48 #[.bool b'1, .slice A'1 n'1 c'1] := ((x2_1.alloc (.cells #[.bool b2, .slice A2 n2 c2] 48)).alloc (.cells #[.bool b'2, .slice A'2 n'2 c'2] 48))
  have lw3 : w2.heap.size + 2 ≤ ((w2.alloc (.cells #[.bool b2, .slice A2 n2 c2] 48)).alloc (.cells #[.bool b'2, .slice A'2 n'2 c'2] 48)).heap.size := by simp
  generalize hE3 : ((w2.alloc (.cells #[.bool b2, .slice A2 n2 c2] 48)).alloc (.cells #[.bool b'2, .slice A'2 n'2 c'2] 48)) = w3 at p3 bw3 lw3 x3_0 x3_1 x1_0 x1_1 x1_2 x2_0 x2_1 ⊢
  clear hE3
  replace h := h.keep p3
  replace h' := h'.keep p3
  replace h1 := h1.keep p3
  replace h'1 := h'1.keep p3
  replace h2 := h2.keep p3
  replace h'2 := h'2.keep p3
  clear bw2
  obtain ⟨lx1_0_0, lx1_0_1, lx1_0_2, lx1_0_3⟩ := lts0 x1_0.lt
  obtain ⟨lx1_1_0, lx1_1_1, lx1_1_2, lx1_1_3⟩ := lts1 x1_1.lt
  have cx1_2_0 : w3.cell? ⟨w.heap.size + 1 + 1, 0, none⟩ = some (.bool false) := x1_2.cell 0
  have fx1_2_0 : w3.frozen? ⟨w.heap.size + 1 + 1, 0, none⟩ = false := x1_2.frozen 0
  have cx1_2_1 : w3.cell? ⟨w.heap.size + 1 + 1, 1, none⟩ = some (.slice none 0 0) := x1_2.cell 1
  have fx1_2_1 : w3.frozen? ⟨w.heap.size + 1 + 1, 1, none⟩ = false := x1_2.frozen 1
  have cx1_2_2 : w3.cell? ⟨w.heap.size + 1 + 1, 2, none⟩ = some (.slice none 0 0) := x1_2.cell 2
  have fx1_2_2 : w3.frozen? ⟨w.heap.size + 1 + 1, 2, none⟩ = false := x1_2.frozen 2
  obtain ⟨lx1_2_0, lx1_2_1, lx1_2_2, lx1_2_3⟩ := lts2 x1_2.lt
  obtain ⟨cx2_0_0, cx2_0_1⟩ := x2_0.c2
  obtain ⟨lx2_0_0, lx2_0_1, lx2_0_2, lx2_0_3⟩ := lts0 x2_0.lt
  obtain ⟨cx2_1_0, cx2_1_1⟩ := x2_1.c2
  obtain ⟨lx2_1_0, lx2_1_1, lx2_1_2, lx2_1_3⟩ := lts1 x2_1.lt
  obtain ⟨cx3_0_0, cx3_0_1⟩ := x3_0.c2
  obtain ⟨lx3_0_0, lx3_0_1, lx3_0_2, lx3_0_3⟩ := lts0 x3_0.lt
  obtain ⟨cx3_1_0, cx3_1_1⟩ := x3_1.c2
  obtain ⟨lx3_1_0, lx3_1_1, lx3_1_2, lx3_1_3⟩ := lts1 x3_1.lt
  have nfx1_0_0 : ¬ w.heap.size = w.heap.size + 1 + 1 := by omega
  have nex1_0_0 : ¬ w.heap.size = w.heap.size + 2 := by omega
  have nfx1_1_0 : ¬ w.heap.size + 1 = w.heap.size + 1 + 1 := by omega
  have nex1_1_0 : ¬ w.heap.size = w.heap.size + 1 := by omega
  have nfx2_0_0 : ¬ w1.heap.size = w.heap.size + 1 + 1 := by omega
  have nex2_0_0 : ¬ w1.heap.size = w.heap.size + 2 := by omega
  have nfx2_1_0 : ¬ w1.heap.size + 1 = w.heap.size + 1 + 1 := by omega
  have nex2_1_0 : ¬ w1.heap.size = w.heap.size + 1 := by omega
  have nfx3_0_0 : ¬ w2.heap.size = w.heap.size + 1 + 1 := by omega
  have nex3_0_0 : ¬ w2.heap.size = w.heap.size + 2 := by omega
  have nfx3_1_0 : ¬ w2.heap.size + 1 = w.heap.size + 1 + 1 := by omega
  have nex3_1_0 : ¬ w2.heap.size = w.heap.size + 1 := by omega
  go_region_held3 (fun w' => SeesX w3.heap.size (w.heap.size + 1 + 1) w3 w') (first | with_reducible exact SeesX.of (Nat.le_refl _) (by assumption) | with_reducible exact SeesX.of (Nat.le_refl _) (brefl _).drew | with_reducible exact (SeesX.set (SeesX.set (SeesX.set (SeesX.of (Nat.le_refl _) (by assumption))))) | with_reducible exact (SeesX.set (SeesX.set (SeesX.of (Nat.le_refl _) (by assumption)))) | with_reducible exact (SeesX.set (SeesX.of (Nat.le_refl _) (by assumption))) | exact SeesX.of (Nat.le_refl _) (below_drewN (brefl _) 1) | exact SeesX.of (Nat.le_refl _) (below_drewN (by assumption) _))
    (first
      | (go_at_call 96; (with_reducible refine (r01_mul _ b1 A1 n1 c1 ((q).num) ((k)) ?_ b2 A2 n2 c2 ((q').num) ((k')) ?_ ?_).mono ?_); (exact h1.iz); (exact h2.iz); (first | omega | decide | assumption); rintro e w4 ⟨b4, A4, n4, c4, rfl, h4, hb4⟩; replace hb4 := bnext (below_drewN (brefl _) 1) hb4; have q4 : Below w3.heap.size w3 w4 := bnext (brefl w3) hb4; replace h := h.belw hb4; replace h' := h'.belw hb4; replace h1 := h1.belw hb4; replace h'1 := h'1.belw hb4; replace h2 := h2.belw hb4; replace h'2 := h'2.belw hb4)
      | (go_at_call 96; (with_reducible refine (r01_mul _ b'1 A'1 n'1 c'1 (((q).den : Int)) ((k)) ?_ b'2 A'2 n'2 c'2 (((q').den : Int)) ((k')) ?_ ?_).mono ?_); (exact h'1.iz); (exact h'2.iz); (first | omega | decide | assumption); rintro e w5 ⟨b5, A5, n5, c5, rfl, h5, hb5⟩; have q5 : Below w3.heap.size w3 w5 := bnext q4 hb5; replace h := h.belw hb5; replace h' := h'.belw hb5; replace h1 := h1.belw hb5; replace h'1 := h'1.belw hb5; replace h2 := h2.belw hb5; replace h'2 := h'2.belw hb5; replace h4 := h4.belw hb5)
      | (go_at_call 95; (with_reducible refine (g_form _ b4 A4 n4 c4 (((q).num) * ((q').num)) (((k)) + ((k'))) ?_ b5 A5 n5 c5 ((((q).den : Int)) * (((q').den : Int))) (((k)) + ((k'))) ?_ (q * q') (k + k') ?_ ?_ ?_ ?_).mono ?_); (exact h4.iz); (exact h5.iz); (exact Int.mul_ne_zero (den_ne _) (den_ne _)); (exact (mul_q _ _).symm); (exact Sz_mul HS.out HS'.out); (omega); rintro e w6 ⟨b6, A6, n6, c6, A'6, n'6, c'6, rfl, h6, hb6⟩; have q6 : Below w3.heap.size w3 w6 := bnext q5 hb6; replace h := h.belw hb6; replace h' := h'.belw hb6; replace h1 := h1.belw hb6; replace h'1 := h'1.belw hb6; replace h2 := h2.belw hb6; replace h'2 := h'2.belw hb6; replace h4 := h4.belw hb6; replace h5 := h5.belw hb6; have x1_2 : Blk w6 (w.heap.size + 1 + 1) 24 #[.bool false, .slice none 0 0, .slice none 0 0] := x1_2.below q6 x1_2.lt; obtain ⟨cx1_2_0, cx1_2_1, cx1_2_2⟩ := x1_2.c3; obtain ⟨fx1_2_0, fx1_2_1, fx1_2_2⟩ := x1_2.f3))
  have bw6 : Below w.heap.size w w6 := bw3.trans (q6.mono bw3.size)
  clear lx1_0_0 lx1_0_1 lx1_0_2 lx1_0_3 lx1_1_0 lx1_1_1 lx1_1_2 lx1_1_3 cx1_2_0 fx1_2_0 cx1_2_1 fx1_2_1 cx1_2_2 fx1_2_2 lx1_2_0 lx1_2_1 lx1_2_2 lx1_2_3 cx2_0_0 cx2_0_1 lx2_0_0 lx2_0_1 lx2_0_2 lx2_0_3 cx2_1_0 cx2_1_1 lx2_1_0 lx2_1_1 lx2_1_2 lx2_1_3 cx3_0_0 cx3_0_1 lx3_0_0 lx3_0_1 lx3_0_2 lx3_0_3 cx3_1_0 cx3_1_1 lx3_1_0 lx3_1_1 lx3_1_2 lx3_1_3
  replace x1_0 := x1_0.below q6 x1_0.lt
  replace x1_1 := x1_1.below q6 x1_1.lt
  replace x2_0 := x2_0.below q6 x2_0.lt
  replace x2_1 := x2_1.below q6 x2_1.lt
  replace x3_0 := x3_0.below q6 x3_0.lt
  replace x3_1 := x3_1.below q6 x3_1.lt
  have lw6 : w3.heap.size ≤ w6.heap.size := q6.size
  obtain ⟨cx1_2_0, cx1_2_1, cx1_2_2⟩ := x1_2.c3
  obtain ⟨fx1_2_0, fx1_2_1, fx1_2_2⟩ := x1_2.f3
  go_wp2_with fail
  refine bodyPost_ret (v := .agg #[.bool b6, .slice A6 n6 c6, .slice A'6 n'6 c'6]) (by simp [results, Tryz.results43, go_sem, *] <;> first | rfl | exact ⟨rfl, rfl⟩) rfl ?_
  exact ⟨b6, A6, n6, c6, A'6, n'6, c'6, rfl, h6.keep ((((Kp.refl w6).setB (p := ⟨w.heap.size + 1 + 1, 0, none⟩) x1_2.box (by decide) (.bool b6)).setB (p := ⟨w.heap.size + 1 + 1, 1, none⟩) (x1_2.box.set ⟨w.heap.size + 1 + 1, 0, none⟩ (.bool b6)) (by decide) (.slice A6 n6 c6)).setB (p := ⟨w.heap.size + 1 + 1, 2, none⟩) ((x1_2.box.set ⟨w.heap.size + 1 + 1, 0, none⟩ (.bool b6)).set ⟨w.heap.size + 1 + 1, 1, none⟩ (.slice A6 n6 c6)) (by decide) (.slice A'6 n'6 c'6)), (((bw6.setCell (p := ⟨w.heap.size + 1 + 1, 0, none⟩) (by dsimp only; omega) (.bool b6)).setCell (p := ⟨w.heap.size + 1 + 1, 1, none⟩) (by dsimp only; omega) (.slice A6 n6 c6)).setCell (p := ⟨w.heap.size + 1 + 1, 2, none⟩) (by dsimp only; omega) (.slice A'6 n'6 c'6))⟩
set_option maxRecDepth 100000 in
set_option maxHeartbeats 2000000 in
/-- linkworkref02.Div -/
theorem g_div (w : World) (b : Bool) (A : Option Addr) (n c : Nat) (D : Option Addr) (m e : Nat) (q : Rat) (k : Nat) (h : QZ w b A n c D m e q k) (b' : Bool) (A' : Option Addr) (n' c' : Nat) (D' : Option Addr) (m' e' : Nat) (q' : Rat) (k' : Nat) (h' : QZ w b' A' n' c' D' m' e' q' k') (h0 : 0 < k) (hk : k ≤ 40000000) (h0' : 0 < k') (hk' : k' ≤ 40000000) (hne : q' ≠ 0) :
    Calls Tryz.prog 97 #[.agg #[.bool b, .slice A n c, .slice D m e], .agg #[.bool b', .slice A' n' c', .slice D' m' e']] w (RetFe w (.int .i64 0) (q / q') (k + k')) := by
  have HS := Lib.hid (h.sz h0)
  have HS' := Lib.hid (h'.sz h0')
  have HN := Lib.hid hne
  clear hne
  go_enter Tryz.func97, Tryz.ntmps97
  go_wp2_with fail
  (with_reducible refine (g_parts _ b A n c D m e (q) (k) ?_ ?_ ?_).mono ?_); (exact (h.belw ((((Below.refl _ _).alloc (Nat.le_refl _) _).alloc (by simp) _).alloc (by simp <;> omega) _))); (first | omega | decide | assumption); (first | omega | decide | assumption); rintro e w1 ⟨b1, A1, n1, c1, b'1, A'1, n'1, c'1, rfl, h1, h'1, hb1⟩
  have q1 : Below w.heap.size w w1 := ((((Below.refl _ _).alloc (Nat.le_refl _) _).alloc (by simp) _).alloc (by simp <;> omega) _).trans (hb1.mono (by simp <;> omega))
  replace h := h.belw q1
  replace h' := h'.belw q1
  have x1_0 : Blk w1 (w.heap.size) 24 #[.bool b, .slice A n c, .slice D m e] := (((blkAt _ _ _ (by simp)).alloc _).alloc _).below hb1 (by simp <;> omega)
  have x1_1 : Blk w1 (w.heap.size + 1) 24 #[.bool b', .slice A' n' c', .slice D' m' e'] := ((blkAt _ _ _ (by simp)).alloc _).below hb1 (by simp <;> omega)
  have x1_2 : Blk w1 (w.heap.size + 1 + 1) 24 #[.bool false, .slice none 0 0, .slice none 0 0] := (blkAt _ _ _ (by simp)).below hb1 (by simp)
  have bw1 : Below w.heap.size w w1 := (brefl w).trans (q1.mono (brefl w).size)
  have lw1 : w.heap.size + 3 ≤ w1.heap.size := by have := hb1.size; simp at this; omega
  clear hb1 q1
  obtain ⟨cx1_1_0, cx1_1_1, cx1_1_2⟩ := x1_1.c3
  obtain ⟨lx1_1_0, lx1_1_1, lx1_1_2, lx1_1_3⟩ := lts1 x1_1.lt
  go_wp2_with fail
  (with_reducible refine (g_parts _ b' A' n' c' D' m' e' (q') (k') ?_ ?_ ?_).mono ?_); (exact (h'.belw (((Below.refl _ _).alloc (Nat.le_refl _) _).alloc (by simp) _))); (first | omega | decide | assumption); (first | omega | decide | assumption); rintro e w2 ⟨b2, A2, n2, c2, b'2, A'2, n'2, c'2, rfl, h2, h'2, hb2⟩
  clear cx1_1_0 cx1_1_1 cx1_1_2 lx1_1_0 lx1_1_1 lx1_1_2 lx1_1_3
  have q2 : Below w1.heap.size w1 w2 := (((Below.refl _ _).alloc (Nat.le_refl _) _).alloc (by simp) _).trans (hb2.mono (by simp <;> omega))
  replace h := h.belw q2
  replace h' := h'.belw q2
  replace h1 := h1.belw q2
  replace h'1 := h'1.belw q2
  replace x1_0 := x1_0.below q2 x1_0.lt
  replace x1_1 := x1_1.below q2 x1_1.lt
  replace x1_2 := x1_2.below q2 x1_2.lt
  have x2_0 : Blk w2 (w1.heap.size) 48 #[.bool b1, .slice A1 n1 c1] := ((blkAt _ _ _ (by simp)).alloc _).below hb2 (by simp <;> omega)
  have x2_1 : Blk w2 (w1.heap.size + 1) 48 #[.bool b'1, .slice A'1 n'1 c'1] := (blkAt _ _ _ (by simp)).below hb2 (by simp)
  have bw2 : Below w.heap.size w w2 := bw1.trans (q2.mono bw1.size)
  have lw2 : w1.heap.size + 2 ≤ w2.heap.size := by have := hb2.size; simp at this; omega
  clear hb2 q2 bw1
  go_wp2_with fail
  have p3 : Kp w2 ((w2.alloc (.cells #[.bool b2, .slice A2 n2 c2] 48)).alloc (.cells #[.bool b'2, .slice A'2 n'2 c'2] 48)) := (((Kp.refl w2).alloc (.cells #[.bool b2, .slice A2 n2 c2] 48)).alloc (.cells #[.bool b'2, .slice A'2 n'2 c'2] 48))
  have bw3 : Below w.heap.size w ((w2.alloc (.cells #[.bool b2, .slice A2 n2 c2] 48)).alloc (.cells #[.bool b'2, .slice A'2 n'2 c'2] 48)) := ((bw2.alloc (by first | omega | (simp <;> omega)) (.cells #[.bool b2, .slice A2 n2 c2] 48)).alloc (by first | omega | (simp <;> omega)) (.cells #[.bool b'2, .slice A'2 n'2 c'2] 48))
  have x3_0 : Blk ((w2.alloc (.cells #[.bool b2, .slice A2 n2 c2] 48)).alloc (.cells #[.bool b'2, .slice A'2 n'2 c'2] 48)) (w2.heap.size) 48 #[.bool b2, .slice A2 n2 c2] := ((blkAt _ _ _ (by simp)).alloc (.cells #[.bool b'2, .slice A'2 n'2 c'2] 48))
  have x3_1 : Blk ((w2.alloc (.cells #[.bool b2, .slice A2 n2 c2] 48)).alloc (.cells #[.bool b'2, .slice A'2 n'2 c'2] 48)) (w2.heap.size + 1) 48 #[.bool b'2, .slice A'2 n'2 c'2] := (blkAt _ _ _ (by simp))
  replace x1_0 : Blk ((w2.alloc (.cells #[.bool b2, .slice A2 n2 c2] 48)).alloc (.cells #[.bool b'2, .slice A'2 n'2 c'2] 48)) (w.heap.size) 24 #[.bool b, .slice A n c, .slice D m e] := ((x1_0.alloc (.cells #[.bool b2, .slice A2 n2 c2] 48)).alloc (.cells #[.bool b'2, .slice A'2 n'2 c'2] 48))
  replace x1_1 : Blk ((w2.alloc (.cells #[.bool b2, .slice A2 n2 c2] 48)).alloc (.cells #[.bool b'2, .slice A'2 n'2 c'2] 48)) (w.heap.size + 1) 24 #[.bool b', .slice A' n' c', .slice D' m' e'] := ((x1_1.alloc (.cells #[.bool b2, .slice A2 n2 c2] 48)).alloc (.cells #[.bool b'2, .slice A'2 n'2 c'2] 48))
  replace x1_2 : Blk ((w2.alloc (.cells #[.bool b2, .slice A2 n2 c2] 48)).alloc (.cells #[.bool b'2, .slice A'2 n'2 c'2] 48)) (w.heap.size + 1 + 1) 24 #[.bool false, .slice none 0 0, .slice none 0 0] := ((x1_2.alloc (.cells #[.bool b2, .slice A2 n2 c2] 48)).alloc (.cells #[.bool b'2, .slice A'2 n'2 c'2] 48))
  replace x2_0 : Blk ((w2.alloc (.cells #[.bool b2, .slice A2 n2 c2] 48)).alloc (.cells #[.bool b'2, .slice A'2 n'2 c'2] 48)) (w1.heap.size) 48 #[.bool b1, .slice A1 n1 c1] := ((x2_0.alloc (.cells #[.bool b2, .slice A2 n2 c2] 48)).alloc (.cells #[.bool b'2, .slice A'2 n'2 c'2] 48))
  replace x2_1 : Blk ((w2.alloc (.cells #[.bool b2, .slice A2 n2 c2] 48)).alloc (.cells #[.bool b'2, .slice A'2 n'2 c'2] 48)) (w1.heap.size + 1) 48 #[.bool b'1, .slice A'1 n'1 c'1] := ((x2_1.alloc (.cells #[.bool b2, .slice A2 n2 c2] 48)).alloc (.cells #[.bool b'2, .slice A'2 n'2 c'2] 48))
  have lw3 : w2.heap.size + 2 ≤ ((w2.alloc (.cells #[.bool b2, .slice A2 n2 c2] 48)).alloc (.cells #[.bool b'2, .slice A'2 n'2 c'2] 48)).heap.size := by simp
  generalize hE3 : ((w2.alloc (.cells #[.bool b2, .slice A2 n2 c2] 48)).alloc (.cells #[.bool b'2, .slice A'2 n'2 c'2] 48)) = w3 at p3 bw3 lw3 x3_0 x3_1 x1_0 x1_1 x1_2 x2_0 x2_1 ⊢
  clear hE3
  replace h := h.keep p3
  replace h' := h'.keep p3
  replace h1 := h1.keep p3
  replace h'1 := h'1.keep p3
  replace h2 := h2.keep p3
  replace h'2 := h'2.keep p3
  clear bw2
  obtain ⟨lx1_0_0, lx1_0_1, lx1_0_2, lx1_0_3⟩ := lts0 x1_0.lt
  obtain ⟨lx1_1_0, lx1_1_1, lx1_1_2, lx1_1_3⟩ := lts1 x1_1.lt
  have cx1_2_0 : w3.cell? ⟨w.heap.size + 1 + 1, 0, none⟩ = some (.bool false) := x1_2.cell 0
  have fx1_2_0 : w3.frozen? ⟨w.heap.size + 1 + 1, 0, none⟩ = false := x1_2.frozen 0
  have cx1_2_1 : w3.cell? ⟨w.heap.size + 1 + 1, 1, none⟩ = some (.slice none 0 0) := x1_2.cell 1
  have fx1_2_1 : w3.frozen? ⟨w.heap.size + 1 + 1, 1, none⟩ = false := x1_2.frozen 1
  have cx1_2_2 : w3.cell? ⟨w.heap.size + 1 + 1, 2, none⟩ = some (.slice none 0 0) := x1_2.cell 2
  have fx1_2_2 : w3.frozen? ⟨w.heap.size + 1 + 1, 2, none⟩ = false := x1_2.frozen 2
  obtain ⟨lx1_2_0, lx1_2_1, lx1_2_2, lx1_2_3⟩ := lts2 x1_2.lt
  obtain ⟨cx2_0_0, cx2_0_1⟩ := x2_0.c2
  obtain ⟨lx2_0_0, lx2_0_1, lx2_0_2, lx2_0_3⟩ := lts0 x2_0.lt
  obtain ⟨cx2_1_0, cx2_1_1⟩ := x2_1.c2
  obtain ⟨lx2_1_0, lx2_1_1, lx2_1_2, lx2_1_3⟩ := lts1 x2_1.lt
  obtain ⟨cx3_0_0, cx3_0_1⟩ := x3_0.c2
  obtain ⟨lx3_0_0, lx3_0_1, lx3_0_2, lx3_0_3⟩ := lts0 x3_0.lt
  obtain ⟨cx3_1_0, cx3_1_1⟩ := x3_1.c2
  obtain ⟨lx3_1_0, lx3_1_1, lx3_1_2, lx3_1_3⟩ := lts1 x3_1.lt
  have nfx1_0_0 : ¬ w.heap.size = w.heap.size + 1 + 1 := by omega
  have nex1_0_0 : ¬ w.heap.size = w.heap.size + 2 := by omega
  have nfx1_1_0 : ¬ w.heap.size + 1 = w.heap.size + 1 + 1 := by omega
  have nex1_1_0 : ¬ w.heap.size = w.heap.size + 1 := by omega
  have nfx2_0_0 : ¬ w1.heap.size = w.heap.size + 1 + 1 := by omega
  have nex2_0_0 : ¬ w1.heap.size = w.heap.size + 2 := by omega
  have nfx2_1_0 : ¬ w1.heap.size + 1 = w.heap.size + 1 + 1 := by omega
  have nex2_1_0 : ¬ w1.heap.size = w.heap.size + 1 := by omega
  have nfx3_0_0 : ¬ w2.heap.size = w.heap.size + 1 + 1 := by omega
  have nex3_0_0 : ¬ w2.heap.size = w.heap.size + 2 := by omega
  have nfx3_1_0 : ¬ w2.heap.size + 1 = w.heap.size + 1 + 1 := by omega
  have nex3_1_0 : ¬ w2.heap.size = w.heap.size + 1 := by omega
  go_region_held3 (fun w' => SeesX w3.heap.size (w.heap.size + 1 + 1) w3 w') (first | with_reducible exact SeesX.of (Nat.le_refl _) (by assumption) | with_reducible exact SeesX.of (Nat.le_refl _) (brefl _).drew | with_reducible exact (SeesX.set (SeesX.set (SeesX.set (SeesX.of (Nat.le_refl _) (by assumption))))) | with_reducible exact (SeesX.set (SeesX.set (SeesX.of (Nat.le_refl _) (by assumption)))) | with_reducible exact (SeesX.set (SeesX.of (Nat.le_refl _) (by assumption))) | exact SeesX.of (Nat.le_refl _) (below_drewN (brefl _) 1) | exact SeesX.of (Nat.le_refl _) (below_drewN (by assumption) _))
    (first
      | (go_at_call 96; (with_reducible refine (r01_mul _ b1 A1 n1 c1 ((q).num) ((k)) ?_ b'2 A'2 n'2 c'2 (((q').den : Int)) ((k')) ?_ ?_).mono ?_); (exact h1.iz); (exact h'2.iz); (first | omega | decide | assumption); rintro e w4 ⟨b4, A4, n4, c4, rfl, h4, hb4⟩; replace hb4 := bnext (below_drewN (brefl _) 1) hb4; have q4 : Below w3.heap.size w3 w4 := bnext (brefl w3) hb4; replace h := h.belw hb4; replace h' := h'.belw hb4; replace h1 := h1.belw hb4; replace h'1 := h'1.belw hb4; replace h2 := h2.belw hb4; replace h'2 := h'2.belw hb4)
      | (go_at_call 96; (with_reducible refine (r01_mul _ b'1 A'1 n'1 c'1 (((q).den : Int)) ((k)) ?_ b2 A2 n2 c2 ((q').num) ((k')) ?_ ?_).mono ?_); (exact h'1.iz); (exact h2.iz); (first | omega | decide | assumption); rintro e w5 ⟨b5, A5, n5, c5, rfl, h5, hb5⟩; have q5 : Below w3.heap.size w3 w5 := bnext q4 hb5; replace h := h.belw hb5; replace h' := h'.belw hb5; replace h1 := h1.belw hb5; replace h'1 := h'1.belw hb5; replace h2 := h2.belw hb5; replace h'2 := h'2.belw hb5; replace h4 := h4.belw hb5)
      | (go_at_call 123; (with_reducible refine (g_from _ b4 A4 n4 c4 (((q).num) * (((q').den : Int))) (((k)) + ((k'))) ?_ b5 A5 n5 c5 ((((q).den : Int)) * ((q').num)) (((k)) + ((k'))) ?_ (q / q') (k + k') ?_ ?_ ?_ ?_).mono ?_); (exact h4.iz); (exact h5.iz); (exact Int.mul_ne_zero (den_ne _) (fun x => HN.out (Rat.num_eq_zero.1 x))); (exact (div_q _ _ HN.out).symm); (exact Sz_div HS.out HS'.out HN.out); (omega); rintro e w6 ⟨b6, A6, n6, c6, A'6, n'6, c'6, rfl, h6, hb6⟩; have q6 : Below w3.heap.size w3 w6 := bnext q5 hb6; replace h := h.belw hb6; replace h' := h'.belw hb6; replace h1 := h1.belw hb6; replace h'1 := h'1.belw hb6; replace h2 := h2.belw hb6; replace h'2 := h'2.belw hb6; replace h4 := h4.belw hb6; replace h5 := h5.belw hb6; have x1_2 : Blk w6 (w.heap.size + 1 + 1) 24 #[.bool false, .slice none 0 0, .slice none 0 0] := x1_2.below q6 x1_2.lt; obtain ⟨cx1_2_0, cx1_2_1, cx1_2_2⟩ := x1_2.c3; obtain ⟨fx1_2_0, fx1_2_1, fx1_2_2⟩ := x1_2.f3))
  have bw6 : Below w.heap.size w w6 := bw3.trans (q6.mono bw3.size)
  clear lx1_0_0 lx1_0_1 lx1_0_2 lx1_0_3 lx1_1_0 lx1_1_1 lx1_1_2 lx1_1_3 cx1_2_0 fx1_2_0 cx1_2_1 fx1_2_1 cx1_2_2 fx1_2_2 lx1_2_0 lx1_2_1 lx1_2_2 lx1_2_3 cx2_0_0 cx2_0_1 lx2_0_0 lx2_0_1 lx2_0_2 lx2_0_3 cx2_1_0 cx2_1_1 lx2_1_0 lx2_1_1 lx2_1_2 lx2_1_3 cx3_0_0 cx3_0_1 lx3_0_0 lx3_0_1 lx3_0_2 lx3_0_3 cx3_1_0 cx3_1_1 lx3_1_0 lx3_1_1 lx3_1_2 lx3_1_3
  replace x1_0 := x1_0.below q6 x1_0.lt
  replace x1_1 := x1_1.below q6 x1_1.lt
  replace x2_0 := x2_0.below q6 x2_0.lt
  replace x2_1 := x2_1.below q6 x2_1.lt
  replace x3_0 := x3_0.below q6 x3_0.lt
  replace x3_1 := x3_1.below q6 x3_1.lt
  have lw6 : w3.heap.size ≤ w6.heap.size := q6.size
  obtain ⟨cx1_2_0, cx1_2_1, cx1_2_2⟩ := x1_2.c3
  obtain ⟨fx1_2_0, fx1_2_1, fx1_2_2⟩ := x1_2.f3
  go_wp2_with fail
  refine bodyPost_ret (v := .tuple #[.agg #[.bool b6, .slice A6 n6 c6, .slice A'6 n'6 c'6], .int .i64 0]) (by simp [results, Tryz.results97, go_sem, *] <;> first | rfl | exact ⟨rfl, rfl⟩) rfl ?_
  exact ⟨b6, A6, n6, c6, A'6, n'6, c'6, rfl, h6.keep ((((Kp.refl w6).setB (p := ⟨w.heap.size + 1 + 1, 0, none⟩) x1_2.box (by decide) (.bool b6)).setB (p := ⟨w.heap.size + 1 + 1, 1, none⟩) (x1_2.box.set ⟨w.heap.size + 1 + 1, 0, none⟩ (.bool b6)) (by decide) (.slice A6 n6 c6)).setB (p := ⟨w.heap.size + 1 + 1, 2, none⟩) ((x1_2.box.set ⟨w.heap.size + 1 + 1, 0, none⟩ (.bool b6)).set ⟨w.heap.size + 1 + 1, 1, none⟩ (.slice A6 n6 c6)) (by decide) (.slice A'6 n'6 c'6)), (((bw6.setCell (p := ⟨w.heap.size + 1 + 1, 0, none⟩) (by dsimp only; omega) (.bool b6)).setCell (p := ⟨w.heap.size + 1 + 1, 1, none⟩) (by dsimp only; omega) (.slice A6 n6 c6)).setCell (p := ⟨w.heap.size + 1 + 1, 2, none⟩) (by dsimp only; omega) (.slice A'6 n'6 c'6))⟩
end Go.Proofs.YtpnnfbodphflpaaGreatDoor

/- Walks: opposite turns, parts, comparison. -/
namespace Go.Proofs.YtpnnfbodphflpaaGreatDoor
open Go Go.RowKit Bn
attribute [local go_sem ↓] Go.wp_at_zero Go.wp_at_succ
set_option maxRecDepth 100000 in
set_option maxHeartbeats 2000000 in
/-- turn.neg -/
theorem t_neg (w : World) (b : Bool) (A : Option Addr) (n c : Nat) (D : Option Addr) (m e : Nat) (x : Bool) (t : TN) (k : Nat) (h : TK w b A n c D m e x t k) (h0 : 0 < k) (hk : k ≤ 1000000) :
    Calls Tryz.prog 35 #[.agg #[.bool b, .slice A n c, .slice D m e, .bool x]] w (RetT w (tneg t) k) := by
  go_enter Tryz.func35, Tryz.ntmps35
  go_wp2_with fail
  have p1 : Kp w ((w.alloc (.cells #[.bool b, .slice A n c, .slice D m e, .bool x] 26)).alloc (.cells #[.bool false, .slice none 0 0, .slice none 0 0, .bool false] 26)) := (((Kp.refl w).alloc (.cells #[.bool b, .slice A n c, .slice D m e, .bool x] 26)).alloc (.cells #[.bool false, .slice none 0 0, .slice none 0 0, .bool false] 26))
  have bw1 : Below w.heap.size w ((w.alloc (.cells #[.bool b, .slice A n c, .slice D m e, .bool x] 26)).alloc (.cells #[.bool false, .slice none 0 0, .slice none 0 0, .bool false] 26)) := (((brefl w).alloc (by first | omega | (simp <;> omega)) (.cells #[.bool b, .slice A n c, .slice D m e, .bool x] 26)).alloc (by first | omega | (simp <;> omega)) (.cells #[.bool false, .slice none 0 0, .slice none 0 0, .bool false] 26))
  have x1_0 : Blk ((w.alloc (.cells #[.bool b, .slice A n c, .slice D m e, .bool x] 26)).alloc (.cells #[.bool false, .slice none 0 0, .slice none 0 0, .bool false] 26)) (w.heap.size) 26 #[.bool b, .slice A n c, .slice D m e, .bool x] := ((blkAt _ _ _ (by simp)).alloc (.cells #[.bool false, .slice none 0 0, .slice none 0 0, .bool false] 26))
  have x1_1 : Blk ((w.alloc (.cells #[.bool b, .slice A n c, .slice D m e, .bool x] 26)).alloc (.cells #[.bool false, .slice none 0 0, .slice none 0 0, .bool false] 26)) (w.heap.size + 1) 26 #[.bool false, .slice none 0 0, .slice none 0 0, .bool false] := (blkAt _ _ _ (by simp))
  have lw1 : w.heap.size + 2 ≤ ((w.alloc (.cells #[.bool b, .slice A n c, .slice D m e, .bool x] 26)).alloc (.cells #[.bool false, .slice none 0 0, .slice none 0 0, .bool false] 26)).heap.size := by simp
  generalize hE1 : ((w.alloc (.cells #[.bool b, .slice A n c, .slice D m e, .bool x] 26)).alloc (.cells #[.bool false, .slice none 0 0, .slice none 0 0, .bool false] 26)) = w1 at p1 bw1 lw1 x1_0 x1_1 ⊢
  clear hE1
  replace h := h.keep p1
  obtain ⟨cx1_0_0, cx1_0_1, cx1_0_2, cx1_0_3⟩ := x1_0.c4
  obtain ⟨lx1_0_0, lx1_0_1, lx1_0_2, lx1_0_3⟩ := lts0 x1_0.lt
  obtain ⟨cx1_1_0, cx1_1_1, cx1_1_2, cx1_1_3⟩ := x1_1.c4
  obtain ⟨fx1_1_0, fx1_1_1, fx1_1_2, fx1_1_3⟩ := x1_1.f4
  obtain ⟨lx1_1_0, lx1_1_1, lx1_1_2, lx1_1_3⟩ := lts1 x1_1.lt
  have nfx1_0_0 : ¬ w.heap.size = w.heap.size + 1 := by omega
  have nex1_0_0 : ¬ w.heap.size = w.heap.size + 1 := by omega
  go_region_held3 (fun w' => SeesX w1.heap.size (w.heap.size + 1) w1 w') (first | with_reducible exact SeesX.of (Nat.le_refl _) (by assumption) | with_reducible exact SeesX.of (Nat.le_refl _) (brefl _).drew | with_reducible exact (SeesX.set (SeesX.set (SeesX.set (SeesX.set (SeesX.of (Nat.le_refl _) (by assumption)))))) | with_reducible exact (SeesX.set (SeesX.set (SeesX.set (SeesX.of (Nat.le_refl _) (by assumption))))) | with_reducible exact (SeesX.set (SeesX.set (SeesX.of (Nat.le_refl _) (by assumption)))) | with_reducible exact (SeesX.set (SeesX.of (Nat.le_refl _) (by assumption))) | exact SeesX.of (Nat.le_refl _) (below_drewN (brefl _) 1) | exact SeesX.of (Nat.le_refl _) (below_drewN (by assumption) _))
    (first
      | (go_at_call 86; (with_reducible refine (f_neg _ b A n c D m e ((t).t) (k) ?_ ?_ ?_).mono ?_); (exact h.qz); (first | omega | decide | assumption); (first | omega | decide | assumption); rintro e w2 ⟨b2, A2, n2, c2, A'2, n'2, c'2, rfl, h2, hb2⟩; replace hb2 := bnext (below_drewN (brefl _) 1) hb2; have q2 : Below w1.heap.size w1 w2 := bnext (brefl w1) hb2; replace h := h.belw hb2; have x1_1 : Blk w2 (w.heap.size + 1) 26 #[.bool false, .slice none 0 0, .slice none 0 0, .bool false] := x1_1.below q2 x1_1.lt; obtain ⟨cx1_1_0, cx1_1_1, cx1_1_2, cx1_1_3⟩ := x1_1.c4; obtain ⟨fx1_1_0, fx1_1_1, fx1_1_2, fx1_1_3⟩ := x1_1.f4))
  have bw2 : Below w.heap.size w w2 := bw1.trans (q2.mono bw1.size)
  clear cx1_0_0 cx1_0_1 cx1_0_2 cx1_0_3 lx1_0_0 lx1_0_1 lx1_0_2 lx1_0_3 cx1_1_0 fx1_1_0 cx1_1_1 fx1_1_1 cx1_1_2 fx1_1_2 cx1_1_3 fx1_1_3 lx1_1_0 lx1_1_1 lx1_1_2 lx1_1_3
  replace x1_0 := x1_0.below q2 x1_0.lt
  have lw2 : w1.heap.size ≤ w2.heap.size := q2.size
  obtain ⟨cx1_1_0, cx1_1_1, cx1_1_2, cx1_1_3⟩ := x1_1.c4
  obtain ⟨fx1_1_0, fx1_1_1, fx1_1_2, fx1_1_3⟩ := x1_1.f4
  go_wp2_with fail
  -- h2
  refine bodyPost_ret (v := .agg #[.bool b2, .slice A2 n2 c2, .slice A'2 n'2 c'2, .bool x]) (by simp [results, Tryz.results35, go_sem, *] <;> first | rfl | exact ⟨rfl, rfl⟩) rfl ?_
  have kp := (((((Kp.refl w2).setB (p := ⟨w.heap.size + 1, 0, none⟩) x1_1.box (by decide) (.bool b2)).setB (p := ⟨w.heap.size + 1, 1, none⟩) (x1_1.box.set ⟨w.heap.size + 1, 0, none⟩ (.bool b2)) (by decide) (.slice A2 n2 c2)).setB (p := ⟨w.heap.size + 1, 2, none⟩) ((x1_1.box.set ⟨w.heap.size + 1, 0, none⟩ (.bool b2)).set ⟨w.heap.size + 1, 1, none⟩ (.slice A2 n2 c2)) (by decide) (.slice A'2 n'2 c'2)).setB (p := ⟨w.heap.size + 1, 3, none⟩) (((x1_1.box.set ⟨w.heap.size + 1, 0, none⟩ (.bool b2)).set ⟨w.heap.size + 1, 1, none⟩ (.slice A2 n2 c2)).set ⟨w.heap.size + 1, 2, none⟩ (.slice A'2 n'2 c'2)) (by decide) (.bool x))
  exact ⟨b2, A2, n2, c2, A'2, n'2, c'2, x, rfl, ⟨h2.keep kp, h.2.1, tneg_ok h.2.2⟩, ((((bw2.setCell (p := ⟨w.heap.size + 1, 0, none⟩) (by dsimp only; omega) (.bool b2)).setCell (p := ⟨w.heap.size + 1, 1, none⟩) (by dsimp only; omega) (.slice A2 n2 c2)).setCell (p := ⟨w.heap.size + 1, 2, none⟩) (by dsimp only; omega) (.slice A'2 n'2 c'2)).setCell (p := ⟨w.heap.size + 1, 3, none⟩) (by dsimp only; omega) (.bool x))⟩
end Go.Proofs.YtpnnfbodphflpaaGreatDoor

/- Walks: the reference: turns. -/
namespace Go.Proofs.YtpnnfbodphflpaaGreatDoor
open Go Go.RowKit Bn
attribute [local go_sem ↓] Go.wp_at_zero Go.wp_at_succ
set_option maxRecDepth 100000 in
set_option maxHeartbeats 2000000 in
/-- linkworkref12.one -/
theorem u_one (w : World)  :
    Calls Tryz.prog 46 #[] w (RetF w ((1 : Int) : Rat) 1) := by
  go_enter Tryz.func46, Tryz.ntmps46
  go_wp2_with fail
  (with_reducible refine (g_of _ (1) ?_ ?_).mono ?_); (first | omega | decide | assumption); (first | omega | decide | assumption); rintro e w1 ⟨b1, A1, n1, c1, A'1, n'1, c'1, rfl, h1, hb1⟩
  have q1 : Below w.heap.size w w1 := ((Below.refl _ _).alloc (Nat.le_refl _) _).trans (hb1.mono (by simp))
  have x1_0 : Blk w1 (w.heap.size) 24 #[.bool false, .slice none 0 0, .slice none 0 0] := (blkAt _ _ _ (by simp)).below hb1 (by simp)
  have bw1 : Below w.heap.size w w1 := (brefl w).trans (q1.mono (brefl w).size)
  have lw1 : w.heap.size + 1 ≤ w1.heap.size := by have := hb1.size; simp at this; omega
  clear hb1 q1
  obtain ⟨cx1_0_0, cx1_0_1, cx1_0_2⟩ := x1_0.c3
  obtain ⟨fx1_0_0, fx1_0_1, fx1_0_2⟩ := x1_0.f3
  obtain ⟨lx1_0_0, lx1_0_1, lx1_0_2, lx1_0_3⟩ := lts0 x1_0.lt
  go_wp2_with fail
  refine bodyPost_ret (v := .agg #[.bool b1, .slice A1 n1 c1, .slice A'1 n'1 c'1]) (by simp [results, Tryz.results46, go_sem, *] <;> first | rfl | exact ⟨rfl, rfl⟩) rfl ?_
  have kp := ((((Kp.refl w1).setB (p := ⟨w.heap.size, 0, none⟩) x1_0.box (by decide) (.bool b1)).setB (p := ⟨w.heap.size, 1, none⟩) (x1_0.box.set ⟨w.heap.size, 0, none⟩ (.bool b1)) (by decide) (.slice A1 n1 c1)).setB (p := ⟨w.heap.size, 2, none⟩) ((x1_0.box.set ⟨w.heap.size, 0, none⟩ (.bool b1)).set ⟨w.heap.size, 1, none⟩ (.slice A1 n1 c1)) (by decide) (.slice A'1 n'1 c'1))
  exact ⟨b1, A1, n1, c1, A'1, n'1, c'1, rfl, h1.keep kp, (((bw1.setCell (p := ⟨w.heap.size, 0, none⟩) (by dsimp only; omega) (.bool b1)).setCell (p := ⟨w.heap.size, 1, none⟩) (by dsimp only; omega) (.slice A1 n1 c1)).setCell (p := ⟨w.heap.size, 2, none⟩) (by dsimp only; omega) (.slice A'1 n'1 c'1))⟩
set_option maxRecDepth 100000 in
set_option maxHeartbeats 2000000 in
/-- linkworkref12.over -/
theorem u_over (w : World) (b : Bool) (A : Option Addr) (n c : Nat) (D : Option Addr) (m e : Nat) (q : Rat) (k : Nat) (h : QZ w b A n c D m e q k) (b' : Bool) (A' : Option Addr) (n' c' : Nat) (D' : Option Addr) (m' e' : Nat) (q' : Rat) (k' : Nat) (h' : QZ w b' A' n' c' D' m' e' q' k') (h0 : 0 < k) (hk : k ≤ 40000000) (h0' : 0 < k') (hk' : k' ≤ 40000000) (hne : q' ≠ 0) :
    Calls Tryz.prog 44 #[.agg #[.bool b, .slice A n c, .slice D m e], .agg #[.bool b', .slice A' n' c', .slice D' m' e']] w (RetF w (q / q') (k + k')) := by
  have HN := Lib.hid hne
  clear hne
  go_enter Tryz.func44, Tryz.ntmps44
  go_wp2_with fail
  (with_reducible refine (g_div _ b A n c D m e (q) (k) ?_ b' A' n' c' D' m' e' (q') (k') ?_ ?_ ?_ ?_ ?_ ?_).mono ?_); (exact (h.belw ((((Below.refl _ _).alloc (Nat.le_refl _) _).alloc (by simp) _).alloc (by simp <;> omega) _))); (exact (h'.belw ((((Below.refl _ _).alloc (Nat.le_refl _) _).alloc (by simp) _).alloc (by simp <;> omega) _))); (first | omega | decide | assumption); (first | omega | decide | assumption); (first | omega | decide | assumption); (first | omega | decide | assumption); (exact HN.out); rintro e w1 ⟨b1, A1, n1, c1, A'1, n'1, c'1, rfl, h1, hb1⟩
  have q1 : Below w.heap.size w w1 := ((((Below.refl _ _).alloc (Nat.le_refl _) _).alloc (by simp) _).alloc (by simp <;> omega) _).trans (hb1.mono (by simp <;> omega))
  replace h := h.belw q1
  replace h' := h'.belw q1
  have x1_0 : Blk w1 (w.heap.size) 24 #[.bool b, .slice A n c, .slice D m e] := (((blkAt _ _ _ (by simp)).alloc _).alloc _).below hb1 (by simp <;> omega)
  have x1_1 : Blk w1 (w.heap.size + 1) 24 #[.bool b', .slice A' n' c', .slice D' m' e'] := ((blkAt _ _ _ (by simp)).alloc _).below hb1 (by simp <;> omega)
  have x1_2 : Blk w1 (w.heap.size + 1 + 1) 24 #[.bool false, .slice none 0 0, .slice none 0 0] := (blkAt _ _ _ (by simp)).below hb1 (by simp)
  have bw1 : Below w.heap.size w w1 := (brefl w).trans (q1.mono (brefl w).size)
  have lw1 : w.heap.size + 3 ≤ w1.heap.size := by have := hb1.size; simp at this; omega
  clear hb1 q1
  obtain ⟨cx1_2_0, cx1_2_1, cx1_2_2⟩ := x1_2.c3
  obtain ⟨fx1_2_0, fx1_2_1, fx1_2_2⟩ := x1_2.f3
  obtain ⟨lx1_2_0, lx1_2_1, lx1_2_2, lx1_2_3⟩ := lts2 x1_2.lt
  go_wp2_with fail
  refine bodyPost_ret (v := .agg #[.bool b1, .slice A1 n1 c1, .slice A'1 n'1 c'1]) (by simp [results, Tryz.results44, go_sem, *] <;> first | rfl | exact ⟨rfl, rfl⟩) rfl ?_
  have kp := (((((Kp.refl w1).setB (p := ⟨w.heap.size + 1 + 1, 0, none⟩) x1_2.box (by decide) (.bool b1)).setB (p := ⟨w.heap.size + 1 + 1, 1, none⟩) (x1_2.box.set ⟨w.heap.size + 1 + 1, 0, none⟩ (.bool b1)) (by decide) (.slice A1 n1 c1)).setB (p := ⟨w.heap.size + 1 + 1, 2, none⟩) ((x1_2.box.set ⟨w.heap.size + 1 + 1, 0, none⟩ (.bool b1)).set ⟨w.heap.size + 1 + 1, 1, none⟩ (.slice A1 n1 c1)) (by decide) (.slice A'1 n'1 c'1)).alloc (.cells #[.bool b1, .slice A1 n1 c1, .slice A'1 n'1 c'1] 24))
  exact ⟨b1, A1, n1, c1, A'1, n'1, c'1, rfl, h1.keep kp, ((((bw1.setCell (p := ⟨w.heap.size + 1 + 1, 0, none⟩) (by dsimp only; omega) (.bool b1)).setCell (p := ⟨w.heap.size + 1 + 1, 1, none⟩) (by dsimp only; omega) (.slice A1 n1 c1)).setCell (p := ⟨w.heap.size + 1 + 1, 2, none⟩) (by dsimp only; omega) (.slice A'1 n'1 c'1)).alloc (by first | omega | (simp <;> omega)) (.cells #[.bool b1, .slice A1 n1 c1, .slice A'1 n'1 c'1] 24))⟩
set_option maxRecDepth 100000 in
set_option maxHeartbeats 2000000 in
/-- linkworkref12.Neg -/
theorem u_Neg (w : World) (b : Bool) (A : Option Addr) (n c : Nat) (D : Option Addr) (m e : Nat) (x : Bool) (t : TN) (k : Nat) (h : TK w b A n c D m e x t k) (h0 : 0 < k) (hk : k ≤ 1000000) :
    Calls Tryz.prog 19 #[.agg #[.bool b, .slice A n c, .slice D m e, .bool x]] w (RetT w (tneg t) k) := by
  go_enter Tryz.func19, Tryz.ntmps19
  go_wp2_with fail
  have p1 : Kp w ((w.alloc (.cells #[.bool b, .slice A n c, .slice D m e, .bool x] 26)).alloc (.cells #[.bool false, .slice none 0 0, .slice none 0 0, .bool false] 26)) := (((Kp.refl w).alloc (.cells #[.bool b, .slice A n c, .slice D m e, .bool x] 26)).alloc (.cells #[.bool false, .slice none 0 0, .slice none 0 0, .bool false] 26))
  have bw1 : Below w.heap.size w ((w.alloc (.cells #[.bool b, .slice A n c, .slice D m e, .bool x] 26)).alloc (.cells #[.bool false, .slice none 0 0, .slice none 0 0, .bool false] 26)) := (((brefl w).alloc (by first | omega | (simp <;> omega)) (.cells #[.bool b, .slice A n c, .slice D m e, .bool x] 26)).alloc (by first | omega | (simp <;> omega)) (.cells #[.bool false, .slice none 0 0, .slice none 0 0, .bool false] 26))
  have x1_0 : Blk ((w.alloc (.cells #[.bool b, .slice A n c, .slice D m e, .bool x] 26)).alloc (.cells #[.bool false, .slice none 0 0, .slice none 0 0, .bool false] 26)) (w.heap.size) 26 #[.bool b, .slice A n c, .slice D m e, .bool x] := ((blkAt _ _ _ (by simp)).alloc (.cells #[.bool false, .slice none 0 0, .slice none 0 0, .bool false] 26))
  have x1_1 : Blk ((w.alloc (.cells #[.bool b, .slice A n c, .slice D m e, .bool x] 26)).alloc (.cells #[.bool false, .slice none 0 0, .slice none 0 0, .bool false] 26)) (w.heap.size + 1) 26 #[.bool false, .slice none 0 0, .slice none 0 0, .bool false] := (blkAt _ _ _ (by simp))
  have lw1 : w.heap.size + 2 ≤ ((w.alloc (.cells #[.bool b, .slice A n c, .slice D m e, .bool x] 26)).alloc (.cells #[.bool false, .slice none 0 0, .slice none 0 0, .bool false] 26)).heap.size := by simp
  generalize hE1 : ((w.alloc (.cells #[.bool b, .slice A n c, .slice D m e, .bool x] 26)).alloc (.cells #[.bool false, .slice none 0 0, .slice none 0 0, .bool false] 26)) = w1 at p1 bw1 lw1 x1_0 x1_1 ⊢
  clear hE1
  replace h := h.keep p1
  obtain ⟨cx1_0_0, cx1_0_1, cx1_0_2, cx1_0_3⟩ := x1_0.c4
  obtain ⟨lx1_0_0, lx1_0_1, lx1_0_2, lx1_0_3⟩ := lts0 x1_0.lt
  obtain ⟨cx1_1_0, cx1_1_1, cx1_1_2, cx1_1_3⟩ := x1_1.c4
  obtain ⟨fx1_1_0, fx1_1_1, fx1_1_2, fx1_1_3⟩ := x1_1.f4
  obtain ⟨lx1_1_0, lx1_1_1, lx1_1_2, lx1_1_3⟩ := lts1 x1_1.lt
  have nfx1_0_0 : ¬ w.heap.size = w.heap.size + 1 := by omega
  have nex1_0_0 : ¬ w.heap.size = w.heap.size + 1 := by omega
  go_region_held3 (fun w' => SeesX w1.heap.size (w.heap.size + 1) w1 w') (first | with_reducible exact SeesX.of (Nat.le_refl _) (by assumption) | with_reducible exact SeesX.of (Nat.le_refl _) (brefl _).drew | with_reducible exact (SeesX.set (SeesX.set (SeesX.set (SeesX.set (SeesX.of (Nat.le_refl _) (by assumption)))))) | with_reducible exact (SeesX.set (SeesX.set (SeesX.set (SeesX.of (Nat.le_refl _) (by assumption))))) | with_reducible exact (SeesX.set (SeesX.set (SeesX.of (Nat.le_refl _) (by assumption)))) | with_reducible exact (SeesX.set (SeesX.of (Nat.le_refl _) (by assumption))) | exact SeesX.of (Nat.le_refl _) (below_drewN (brefl _) 1) | exact SeesX.of (Nat.le_refl _) (below_drewN (by assumption) _))
    (first
      | (go_at_call 49; (with_reducible refine (g_neg _ b A n c D m e ((t).t) (k) ?_ ?_ ?_).mono ?_); (exact h.qz); (first | omega | decide | assumption); (first | omega | decide | assumption); rintro e w2 ⟨b2, A2, n2, c2, A'2, n'2, c'2, rfl, h2, hb2⟩; replace hb2 := bnext (below_drewN (brefl _) 1) hb2; have q2 : Below w1.heap.size w1 w2 := bnext (brefl w1) hb2; replace h := h.belw hb2; have x1_1 : Blk w2 (w.heap.size + 1) 26 #[.bool false, .slice none 0 0, .slice none 0 0, .bool false] := x1_1.below q2 x1_1.lt; obtain ⟨cx1_1_0, cx1_1_1, cx1_1_2, cx1_1_3⟩ := x1_1.c4; obtain ⟨fx1_1_0, fx1_1_1, fx1_1_2, fx1_1_3⟩ := x1_1.f4))
  have bw2 : Below w.heap.size w w2 := bw1.trans (q2.mono bw1.size)
  clear cx1_0_0 cx1_0_1 cx1_0_2 cx1_0_3 lx1_0_0 lx1_0_1 lx1_0_2 lx1_0_3 cx1_1_0 fx1_1_0 cx1_1_1 fx1_1_1 cx1_1_2 fx1_1_2 cx1_1_3 fx1_1_3 lx1_1_0 lx1_1_1 lx1_1_2 lx1_1_3
  replace x1_0 := x1_0.below q2 x1_0.lt
  have lw2 : w1.heap.size ≤ w2.heap.size := q2.size
  obtain ⟨cx1_1_0, cx1_1_1, cx1_1_2, cx1_1_3⟩ := x1_1.c4
  obtain ⟨fx1_1_0, fx1_1_1, fx1_1_2, fx1_1_3⟩ := x1_1.f4
  go_wp2_with fail
  refine bodyPost_ret (v := .agg #[.bool b2, .slice A2 n2 c2, .slice A'2 n'2 c'2, .bool x]) (by simp [results, Tryz.results19, go_sem, *] <;> first | rfl | exact ⟨rfl, rfl⟩) rfl ?_
  have kp := (((((Kp.refl w2).setB (p := ⟨w.heap.size + 1, 0, none⟩) x1_1.box (by decide) (.bool b2)).setB (p := ⟨w.heap.size + 1, 1, none⟩) (x1_1.box.set ⟨w.heap.size + 1, 0, none⟩ (.bool b2)) (by decide) (.slice A2 n2 c2)).setB (p := ⟨w.heap.size + 1, 2, none⟩) ((x1_1.box.set ⟨w.heap.size + 1, 0, none⟩ (.bool b2)).set ⟨w.heap.size + 1, 1, none⟩ (.slice A2 n2 c2)) (by decide) (.slice A'2 n'2 c'2)).setB (p := ⟨w.heap.size + 1, 3, none⟩) (((x1_1.box.set ⟨w.heap.size + 1, 0, none⟩ (.bool b2)).set ⟨w.heap.size + 1, 1, none⟩ (.slice A2 n2 c2)).set ⟨w.heap.size + 1, 2, none⟩ (.slice A'2 n'2 c'2)) (by decide) (.bool x))
  exact ⟨b2, A2, n2, c2, A'2, n'2, c'2, x, rfl, ⟨h2.keep kp, h.2.1, tneg_ok h.2.2⟩, ((((bw2.setCell (p := ⟨w.heap.size + 1, 0, none⟩) (by dsimp only; omega) (.bool b2)).setCell (p := ⟨w.heap.size + 1, 1, none⟩) (by dsimp only; omega) (.slice A2 n2 c2)).setCell (p := ⟨w.heap.size + 1, 2, none⟩) (by dsimp only; omega) (.slice A'2 n'2 c'2)).setCell (p := ⟨w.heap.size + 1, 3, none⟩) (by dsimp only; omega) (.bool x))⟩
theorem sub_rcmp (q q' : Rat) : (q - q').num.sign = rcmp q q' := by
  have h1 := sign_q (q - q')
  rw [h1]
  unfold rcmp
  have h2 : (q - q' < 0) ↔ q < q' := by constructor <;> intro h <;> grind
  have h3 : (q - q' = 0) ↔ q = q' := by constructor <;> intro h <;> grind
  by_cases h4 : q < q'
  · rw [if_pos h4, if_pos (h2.2 h4)]
  · rw [if_neg h4, if_neg (fun h => h4 (h2.1 h))]
    by_cases h5 : q = q'
    · rw [if_pos h5, if_pos (h3.2 h5)]
    · rw [if_neg h5, if_neg (fun h => h5 (h3.1 h))]
end Go.Proofs.YtpnnfbodphflpaaGreatDoor

/- Walks: the reference: cosine, sine, sums of turns. -/
namespace Go.Proofs.YtpnnfbodphflpaaGreatDoor
open Go Go.RowKit Bn
attribute [local go_sem ↓] Go.wp_at_zero Go.wp_at_succ
set_option maxRecDepth 100000 in
set_option maxHeartbeats 2000000 in
/-- linkworkref12.Cos -/
theorem u_Cos_true (w : World) (b : Bool) (A : Option Addr) (n c : Nat) (D : Option Addr) (m e : Nat) (t : TN) (k : Nat) (h : TK w b A n c D m e true t k) (h0 : 0 < k) (hk : k ≤ 1000000) :
    Calls Tryz.prog 16 #[.agg #[.bool b, .slice A n c, .slice D m e, .bool true]] w (RetF w (tcos t) (4 * k + 4)) := by
  have HC := Lib.hid (show ((-1 : Int) : Rat) = tcos t by unfold tcos; rw [if_pos h.2.1.symm]; rfl)
  go_enter Tryz.func16, Tryz.ntmps16
  go_wp2_with fail
  (with_reducible refine (g_of _ ((-1)) ?_ ?_).mono ?_); (first | omega | decide | assumption); (first | omega | decide | assumption); rintro e w1 ⟨b1, A1, n1, c1, A'1, n'1, c'1, rfl, h1, hb1⟩
  have q1 : Below w.heap.size w w1 := (((Below.refl _ _).alloc (Nat.le_refl _) _).alloc (by simp) _).trans (hb1.mono (by simp <;> omega))
  replace h := h.belw q1
  have x1_0 : Blk w1 (w.heap.size) 26 #[.bool b, .slice A n c, .slice D m e, .bool true] := ((blkAt _ _ _ (by simp)).alloc _).below hb1 (by simp <;> omega)
  have x1_1 : Blk w1 (w.heap.size + 1) 24 #[.bool false, .slice none 0 0, .slice none 0 0] := (blkAt _ _ _ (by simp)).below hb1 (by simp)
  have bw1 : Below w.heap.size w w1 := (brefl w).trans (q1.mono (brefl w).size)
  have lw1 : w.heap.size + 2 ≤ w1.heap.size := by have := hb1.size; simp at this; omega
  clear hb1 q1
  obtain ⟨cx1_1_0, cx1_1_1, cx1_1_2⟩ := x1_1.c3
  obtain ⟨fx1_1_0, fx1_1_1, fx1_1_2⟩ := x1_1.f3
  obtain ⟨lx1_1_0, lx1_1_1, lx1_1_2, lx1_1_3⟩ := lts1 x1_1.lt
  go_wp2_with fail
  rw [HC.out] at h1
  refine bodyPost_ret (v := .agg #[.bool b1, .slice A1 n1 c1, .slice A'1 n'1 c'1]) (by simp [results, Tryz.results16, go_sem, *] <;> first | rfl | exact ⟨rfl, rfl⟩) rfl ?_
  have kp := ((((Kp.refl w1).setB (p := ⟨w.heap.size + 1, 0, none⟩) x1_1.box (by decide) (.bool b1)).setB (p := ⟨w.heap.size + 1, 1, none⟩) (x1_1.box.set ⟨w.heap.size + 1, 0, none⟩ (.bool b1)) (by decide) (.slice A1 n1 c1)).setB (p := ⟨w.heap.size + 1, 2, none⟩) ((x1_1.box.set ⟨w.heap.size + 1, 0, none⟩ (.bool b1)).set ⟨w.heap.size + 1, 1, none⟩ (.slice A1 n1 c1)) (by decide) (.slice A'1 n'1 c'1))
  exact ⟨b1, A1, n1, c1, A'1, n'1, c'1, rfl, (h1.keep kp).mono (by omega), (((bw1.setCell (p := ⟨w.heap.size + 1, 0, none⟩) (by dsimp only; omega) (.bool b1)).setCell (p := ⟨w.heap.size + 1, 1, none⟩) (by dsimp only; omega) (.slice A1 n1 c1)).setCell (p := ⟨w.heap.size + 1, 2, none⟩) (by dsimp only; omega) (.slice A'1 n'1 c'1))⟩
set_option maxRecDepth 100000 in
set_option maxHeartbeats 4000000 in
/-- linkworkref12.Cos -/
theorem u_Cos_false (w : World) (b : Bool) (A : Option Addr) (n c : Nat) (D : Option Addr) (m e : Nat) (t : TN) (k : Nat) (h : TK w b A n c D m e false t k) (h0 : 0 < k) (hk : k ≤ 1000000) :
    Calls Tryz.prog 16 #[.agg #[.bool b, .slice A n c, .slice D m e, .bool false]] w (RetF w (tcos t) (4 * k + 4)) := by
  have HNE := Lib.hid (show ((1 : Int) : Rat) + t.t * t.t ≠ 0 from one_add_sq t.t)
  have HC := Lib.hid (show (((1 : Int) : Rat) - t.t * t.t) / (((1 : Int) : Rat) + t.t * t.t) = tcos t by unfold tcos; rw [if_neg (by rw [← h.2.1]; decide)]; rfl)
  go_enter Tryz.func16, Tryz.ntmps16
  go_wp2_with fail
  (with_reducible refine (g_mul _ b A n c D m e ((t).t) (k) ?_ b A n c D m e ((t).t) (k) ?_ ?_ ?_ ?_ ?_).mono ?_); (exact (h.belw (((Below.refl _ _).alloc (Nat.le_refl _) _).alloc (by simp) _)).qz); (exact (h.belw (((Below.refl _ _).alloc (Nat.le_refl _) _).alloc (by simp) _)).qz); (first | omega | decide | assumption); (first | omega | decide | assumption); (first | omega | decide | assumption); (first | omega | decide | assumption); rintro e w1 ⟨b1, A1, n1, c1, A'1, n'1, c'1, rfl, h1, hb1⟩
  have q1 : Below w.heap.size w w1 := (((Below.refl _ _).alloc (Nat.le_refl _) _).alloc (by simp) _).trans (hb1.mono (by simp <;> omega))
  replace h := h.belw q1
  have x1_0 : Blk w1 (w.heap.size) 26 #[.bool b, .slice A n c, .slice D m e, .bool false] := ((blkAt _ _ _ (by simp)).alloc _).below hb1 (by simp <;> omega)
  have x1_1 : Blk w1 (w.heap.size + 1) 24 #[.bool false, .slice none 0 0, .slice none 0 0] := (blkAt _ _ _ (by simp)).below hb1 (by simp)
  have bw1 : Below w.heap.size w w1 := (brefl w).trans (q1.mono (brefl w).size)
  have lw1 : w.heap.size + 2 ≤ w1.heap.size := by have := hb1.size; simp at this; omega
  clear hb1 q1
  go_wp2_with fail
  have p2 : Kp w1 (w1.alloc (.cells #[.bool b1, .slice A1 n1 c1, .slice A'1 n'1 c'1] 24)) := ((Kp.refl w1).alloc (.cells #[.bool b1, .slice A1 n1 c1, .slice A'1 n'1 c'1] 24))
  have bw2 : Below w.heap.size w (w1.alloc (.cells #[.bool b1, .slice A1 n1 c1, .slice A'1 n'1 c'1] 24)) := (bw1.alloc (by first | omega | (simp <;> omega)) (.cells #[.bool b1, .slice A1 n1 c1, .slice A'1 n'1 c'1] 24))
  have x2_0 : Blk (w1.alloc (.cells #[.bool b1, .slice A1 n1 c1, .slice A'1 n'1 c'1] 24)) (w1.heap.size) 24 #[.bool b1, .slice A1 n1 c1, .slice A'1 n'1 c'1] := (blkAt _ _ _ (by simp))
  replace x1_0 : Blk (w1.alloc (.cells #[.bool b1, .slice A1 n1 c1, .slice A'1 n'1 c'1] 24)) (w.heap.size) 26 #[.bool b, .slice A n c, .slice D m e, .bool false] := (x1_0.alloc (.cells #[.bool b1, .slice A1 n1 c1, .slice A'1 n'1 c'1] 24))
  replace x1_1 : Blk (w1.alloc (.cells #[.bool b1, .slice A1 n1 c1, .slice A'1 n'1 c'1] 24)) (w.heap.size + 1) 24 #[.bool false, .slice none 0 0, .slice none 0 0] := (x1_1.alloc (.cells #[.bool b1, .slice A1 n1 c1, .slice A'1 n'1 c'1] 24))
  have lw2 : w1.heap.size + 1 ≤ (w1.alloc (.cells #[.bool b1, .slice A1 n1 c1, .slice A'1 n'1 c'1] 24)).heap.size := by simp
  generalize hE2 : (w1.alloc (.cells #[.bool b1, .slice A1 n1 c1, .slice A'1 n'1 c'1] 24)) = w2 at p2 bw2 lw2 x2_0 x1_0 x1_1 ⊢
  clear hE2
  replace h := h.keep p2
  replace h1 := h1.keep p2
  clear bw1
  obtain ⟨cx2_0_0, cx2_0_1, cx2_0_2⟩ := x2_0.c3
  obtain ⟨lx2_0_0, lx2_0_1, lx2_0_2, lx2_0_3⟩ := lts0 x2_0.lt
  refine wp_region_lin (B := w.heap.size) (fr := fun xf => ⟨List.toArray (.agg #[.bool b, .slice A n c, .slice D m e, .bool false] :: .pointer (some ⟨w.heap.size, 0, none⟩) :: .pointer (some ⟨w.heap.size + 1, 0, none⟩) :: .pointer (some ⟨w1.heap.size, 0, none⟩) :: .pointer (some ⟨w.heap.size, 3, none⟩) :: .bool false :: undef :: .pointer (some ⟨w.heap.size, 0, none⟩) :: .agg #[.bool b, .slice A n c, .slice D m e] :: .pointer (some ⟨w.heap.size, 0, none⟩) :: .agg #[.bool b, .slice A n c, .slice D m e] :: .agg #[.bool b1, .slice A1 n1 c1, .slice A'1 n'1 c'1] :: xf 0 :: xf 1 :: xf 2 :: xf 3 :: xf 4 :: xf 5 :: xf 6 :: []), []⟩) (R := fun i => List.getD ((VQ (((1 : Int) : Rat)) (1)) :: (PEq (.agg #[.bool b1, .slice A1 n1 c1, .slice A'1 n'1 c'1])) :: (VQ ((((1 : Int) : Rat)) - (((t).t) * ((t).t))) ((1) + ((k) + (k)) + 1)) :: (VQ (((1 : Int) : Rat)) (1)) :: (PEq (.agg #[.bool b1, .slice A1 n1 c1, .slice A'1 n'1 c'1])) :: (VQ ((((1 : Int) : Rat)) + (((t).t) * ((t).t))) ((1) + ((k) + (k)) + 1)) :: (VQ (((((1 : Int) : Rat)) - (((t).t) * ((t).t))) / ((((1 : Int) : Rat)) + (((t).t) * ((t).t)))) (((1) + ((k) + (k)) + 1) + ((1) + ((k) + (k)) + 1))) :: PAny :: []) i (fun _ _ => True)) (es := []) (ow := [⟨w.heap.size, 8, 0, 26, #[.bool b, .slice A n c, .slice D m e, .bool false], CAny⟩, ⟨w.heap.size + 1, 7, 0, 24, #[.bool false, .slice none 0 0, .slice none 0 0], CQ (((((1 : Int) : Rat)) - (((t).t) * ((t).t))) / ((((1 : Int) : Rat)) + (((t).t) * ((t).t)))) (((1) + ((k) + (k)) + 1) + ((1) + ((k) + (k)) + 1))⟩, ⟨w1.heap.size, 8, 0, 24, #[.bool b1, .slice A1 n1 c1, .slice A'1 n'1 c'1], CAny⟩]) (x0 := (fun _ => undef)) (by kernel_rfl)
    (each_of ⟨fun _ _ => rfl, fun _ _ => rfl, fun _ _ => rfl, fun _ _ => rfl, fun _ _ => rfl, fun _ _ => rfl, fun _ _ => rfl, fun _ _ => rfl, trivial⟩) (each_of (acyc_from _ 0 (by kernel_rfl))) (AllStab.get _ ⟨stQ _ _, stEq _, stQ _ _, stQ _ _, stEq _, stQ _ _, stQ _ _, stAny, trivial⟩)
    (fun _ h => nomatch h) (List.forall_mem_cons.2 ⟨scAny, List.forall_mem_cons.2 ⟨scQ _ _, List.forall_mem_cons.2 ⟨scAny, fun _ h => nomatch h⟩⟩⟩) (fun _ h => nomatch h) bw2.size
    (List.forall_mem_cons.2 ⟨⟨x1_0, by show w.heap.size ≤ w.heap.size; omega⟩, List.forall_mem_cons.2 ⟨⟨x1_1, by show w.heap.size ≤ w.heap.size + 1; omega⟩, List.forall_mem_cons.2 ⟨⟨x2_0, by show w.heap.size ≤ w1.heap.size; omega⟩, fun _ h => nomatch h⟩⟩⟩) (ownDist (by simp <;> omega))
    (each_of ⟨?_, ?_, ?_, ?_, ?_, ?_, ?_, ?_, trivial⟩) ?_
  · exact .inl ⟨by simp, by simp, fun xf wq hk hbl hd K hK => by
      (try dsimp only)
      go_simp
      go_at_call 46
      (with_reducible refine (u_one _).mono ?_); rintro e wr ⟨b4, A4, n4, c4, A'4, n'4, c'4, rfl, h4, hbr⟩
      exact hK.out _ _ ⟨b4, A4, n4, c4, A'4, n'4, c'4, rfl, h4⟩ hbr⟩
  · exact .inl ⟨by simp, by simp, fun xf wq hk hbl hd K hK => by
      have y : Blk wq (w1.heap.size) 24 #[.bool b1, .slice A1 n1 c1, .slice A'1 n'1 c'1] := hbl _ (List.Mem.tail _ (List.Mem.tail _ (List.Mem.head _))) (by simp [Region.binds])
      obtain ⟨hcl0, hcl1, hcl2⟩ := y.c3
      (try dsimp only)
      go_simp
      exact hK.out (.agg #[.bool b1, .slice A1 n1 c1, .slice A'1 n'1 c'1]) _ rfl (brefl _)⟩
  · exact .inl ⟨by simp, by simp, fun xf wq hk hbl hd K hK => by
      obtain ⟨b4, A4, n4, c4, A'4, n'4, c'4, dq0, h4⟩ : VQ (((1 : Int) : Rat)) (1) (xf 0) wq := hd ⟨0, .data⟩ (by simp) rfl
      have dq1 : xf 1 = .agg #[.bool b1, .slice A1 n1 c1, .slice A'1 n'1 c'1] := hd ⟨1, .data⟩ (by simp) rfl
      (try dsimp only); (try simp only [dq0, dq1])
      go_simp
      go_at_call 45
      (with_reducible refine (g_sub _ b4 A4 n4 c4 A'4 n'4 c'4 (((1 : Int) : Rat)) (1) ?_ b1 A1 n1 c1 A'1 n'1 c'1 (((t).t) * ((t).t)) ((k) + (k)) ?_ ?_ ?_ ?_ ?_).mono ?_); (exact h4.qz); (exact (h1.keep hk).qz); (first | omega | decide | assumption); (first | omega | decide | assumption); (first | omega | decide | assumption); (first | omega | decide | assumption); rintro e wr ⟨b5, A5, n5, c5, A'5, n'5, c'5, rfl, h5, hbr⟩
      have hz := hK.out _ _ ⟨b5, A5, n5, c5, A'5, n'5, c'5, rfl, h5⟩ hbr
      simp only [dq0, dq1] at hz
      exact hz⟩
  · exact .inl ⟨by simp, by simp, fun xf wq hk hbl hd K hK => by
      (try dsimp only)
      go_simp
      go_at_call 46
      (with_reducible refine (u_one _).mono ?_); rintro e wr ⟨b6, A6, n6, c6, A'6, n'6, c'6, rfl, h6, hbr⟩
      exact hK.out _ _ ⟨b6, A6, n6, c6, A'6, n'6, c'6, rfl, h6⟩ hbr⟩
  · exact .inl ⟨by simp, by simp, fun xf wq hk hbl hd K hK => by
      have y : Blk wq (w1.heap.size) 24 #[.bool b1, .slice A1 n1 c1, .slice A'1 n'1 c'1] := hbl _ (List.Mem.tail _ (List.Mem.tail _ (List.Mem.head _))) (by simp [Region.binds])
      obtain ⟨hcl0, hcl1, hcl2⟩ := y.c3
      (try dsimp only)
      go_simp
      exact hK.out (.agg #[.bool b1, .slice A1 n1 c1, .slice A'1 n'1 c'1]) _ rfl (brefl _)⟩
  · exact .inl ⟨by simp, by simp, fun xf wq hk hbl hd K hK => by
      obtain ⟨b6, A6, n6, c6, A'6, n'6, c'6, dq3, h6⟩ : VQ (((1 : Int) : Rat)) (1) (xf 3) wq := hd ⟨3, .data⟩ (by simp) rfl
      have dq4 : xf 4 = .agg #[.bool b1, .slice A1 n1 c1, .slice A'1 n'1 c'1] := hd ⟨4, .data⟩ (by simp) rfl
      (try dsimp only); (try simp only [dq3, dq4])
      go_simp
      go_at_call 47
      (with_reducible refine (g_add _ b6 A6 n6 c6 A'6 n'6 c'6 (((1 : Int) : Rat)) (1) ?_ b1 A1 n1 c1 A'1 n'1 c'1 (((t).t) * ((t).t)) ((k) + (k)) ?_ ?_ ?_ ?_ ?_).mono ?_); (exact h6.qz); (exact (h1.keep hk).qz); (first | omega | decide | assumption); (first | omega | decide | assumption); (first | omega | decide | assumption); (first | omega | decide | assumption); rintro e wr ⟨b7, A7, n7, c7, A'7, n'7, c'7, rfl, h7, hbr⟩
      have hz := hK.out _ _ ⟨b7, A7, n7, c7, A'7, n'7, c'7, rfl, h7⟩ hbr
      simp only [dq3, dq4] at hz
      exact hz⟩
  · exact .inl ⟨by simp, by simp, fun xf wq hk hbl hd K hK => by
      obtain ⟨b5, A5, n5, c5, A'5, n'5, c'5, dq2, h5⟩ : VQ ((((1 : Int) : Rat)) - (((t).t) * ((t).t))) ((1) + ((k) + (k)) + 1) (xf 2) wq := hd ⟨2, .data⟩ (by simp) rfl
      obtain ⟨b7, A7, n7, c7, A'7, n'7, c'7, dq5, h7⟩ : VQ ((((1 : Int) : Rat)) + (((t).t) * ((t).t))) ((1) + ((k) + (k)) + 1) (xf 5) wq := hd ⟨5, .data⟩ (by simp) rfl
      (try dsimp only); (try simp only [dq2, dq5])
      go_simp
      go_at_call 44
      (with_reducible refine (u_over _ b5 A5 n5 c5 A'5 n'5 c'5 ((((1 : Int) : Rat)) - (((t).t) * ((t).t))) ((1) + ((k) + (k)) + 1) ?_ b7 A7 n7 c7 A'7 n'7 c'7 ((((1 : Int) : Rat)) + (((t).t) * ((t).t))) ((1) + ((k) + (k)) + 1) ?_ ?_ ?_ ?_ ?_ ?_).mono ?_); (exact h5.qz); (exact h7.qz); (first | omega | decide | assumption); (first | omega | decide | assumption); (first | omega | decide | assumption); (first | omega | decide | assumption); (exact HNE.out); rintro e wr ⟨b8, A8, n8, c8, A'8, n'8, c'8, rfl, h8, hbr⟩
      have hz := hK.out _ _ ⟨b8, A8, n8, c8, A'8, n'8, c'8, rfl, h8⟩ hbr
      simp only [dq2, dq5] at hz
      exact hz⟩
  · exact .inr (.inr (.inr ⟨⟨w.heap.size + 1, 7, 0, 24, #[.bool false, .slice none 0 0, .slice none 0 0], CQ (((((1 : Int) : Rat)) - (((t).t) * ((t).t))) / ((((1 : Int) : Rat)) + (((t).t) * ((t).t)))) (((1) + ((k) + (k)) + 1) + ((1) + ((k) + (k)) + 1))⟩, by simp, rfl, by simp, by simp, (show KT 24 = false by decide), fun _ _ => True.intro, fun xf wq hblk hd => by
      obtain ⟨b8, A8, n8, c8, A'8, n'8, c'8, dq6, h8⟩ : VQ (((((1 : Int) : Rat)) - (((t).t) * ((t).t))) / ((((1 : Int) : Rat)) + (((t).t) * ((t).t)))) (((1) + ((k) + (k)) + 1) + ((1) + ((k) + (k)) + 1)) (xf 6) wq := hd ⟨6, .data⟩ (by simp) rfl
      dsimp only at hblk
      refine ⟨[.bool b8, .slice A8 n8 c8, .slice A'8 n'8 c'8], fun w' hk => ⟨b8, A8, n8, c8, A'8, n'8, c'8, rfl, h8.keep hk⟩, fun K hK => ?_⟩
      have hc0 : wq.cell? ⟨w.heap.size + 1, 0, none⟩ = some (.bool false) := hblk.cell 0
      have hc1 : wq.cell? ⟨w.heap.size + 1, 1, none⟩ = some (.slice none 0 0) := hblk.cell 1
      have hc2 : wq.cell? ⟨w.heap.size + 1, 2, none⟩ = some (.slice none 0 0) := hblk.cell 2
      have hf0 : wq.frozen? ⟨w.heap.size + 1, 0, none⟩ = false := hblk.frozen 0
      have hf1 : wq.frozen? ⟨w.heap.size + 1, 1, none⟩ = false := hblk.frozen 1
      have hf2 : wq.frozen? ⟨w.heap.size + 1, 2, none⟩ = false := hblk.frozen 2
      (try dsimp only)
      simp only [dq6]
      go_simp
      have hz := hK.out undef
      simp only [dq6] at hz
      exact hz⟩))
  clear cx2_0_0 cx2_0_1 cx2_0_2 lx2_0_0 lx2_0_1 lx2_0_2 lx2_0_3
  intro y3 w3 kq3 hbl3 lw3 how hrr hfl hds
  replace h := h.keep kq3
  replace h1 := h1.keep kq3
  obtain ⟨_, z3_0, ez, _⟩ := how _ (List.Mem.head _)
  obtain rfl := ez (by simp)
  dsimp only at z3_0
  obtain ⟨_, z3_1, _, ez⟩ := how _ (List.Mem.tail _ (List.Mem.head _))
  obtain ⟨b8, A8, n8, c8, A'8, n'8, c'8, rfl, h8⟩ := ez (by simp)
  dsimp only at z3_1
  obtain ⟨_, z3_2, ez, _⟩ := how _ (List.Mem.tail _ (List.Mem.tail _ (List.Mem.head _)))
  obtain rfl := ez (by simp)
  dsimp only at z3_2
  (try dsimp only)
  clear hrr hfl how hds 
  clear x1_0 x1_1 x2_0
  have bw3 : Below w.heap.size w w3 := bw2.trans hbl3
  clear bw2
  have cz3_1_0 : w3.cell? ⟨w.heap.size + 1, 0, none⟩ = some (.bool b8) := z3_1.cell 0
  have cz3_1_1 : w3.cell? ⟨w.heap.size + 1, 1, none⟩ = some (.slice A8 n8 c8) := z3_1.cell 1
  have cz3_1_2 : w3.cell? ⟨w.heap.size + 1, 2, none⟩ = some (.slice A'8 n'8 c'8) := z3_1.cell 2
  obtain ⟨lz3_1_0, lz3_1_1, lz3_1_2, lz3_1_3⟩ := lts1 z3_1.lt
  go_wp2_with fail
  rw [HC.out] at h8
  refine bodyPost_ret (v := .agg #[.bool b8, .slice A8 n8 c8, .slice A'8 n'8 c'8]) (by simp [results, Tryz.results16, go_sem, *] <;> first | rfl | exact ⟨rfl, rfl⟩) rfl ?_
  have kp := (Kp.refl w3)
  exact ⟨b8, A8, n8, c8, A'8, n'8, c'8, rfl, (h8.keep kp).mono (by omega), bw3⟩
theorem u_Cos (w : World) (b : Bool) (A : Option Addr) (n c : Nat) (D : Option Addr) (m e : Nat) (x : Bool) (t : TN) (k : Nat) (h : TK w b A n c D m e x t k) (h0 : 0 < k) (hk : k ≤ 1000000) : Calls Tryz.prog 16 #[.agg #[.bool b, .slice A n c, .slice D m e, .bool x]] w (RetF w (tcos t) (4 * k + 4)) := by
  cases x
  · exact u_Cos_false w b A n c D m e t k h h0 hk
  · exact u_Cos_true w b A n c D m e t k h h0 hk
set_option maxRecDepth 100000 in
set_option maxHeartbeats 2000000 in
/-- linkworkref12.Sin -/
theorem u_Sin_true (w : World) (b : Bool) (A : Option Addr) (n c : Nat) (D : Option Addr) (m e : Nat) (t : TN) (k : Nat) (h : TK w b A n c D m e true t k) (h0 : 0 < k) (hk : k ≤ 1000000) :
    Calls Tryz.prog 17 #[.agg #[.bool b, .slice A n c, .slice D m e, .bool true]] w (RetF w (tsin t) (4 * k + 4)) := by
  have HS := Lib.hid (show 0 = tsin t by unfold tsin; rw [if_pos h.2.1.symm])
  go_enter Tryz.func17, Tryz.ntmps17
  go_wp2_with fail
  rw [← HS.out]
  refine bodyPost_ret (v := .agg #[.bool false, .slice none 0 0, .slice none 0 0]) (by simp [results, Tryz.results17, go_sem, *] <;> first | rfl | exact ⟨rfl, rfl⟩) rfl ?_
  exact ⟨false, none, 0, 0, none, 0, 0, rfl, QV.zero _ _, (((brefl w).alloc (by first | omega | (simp <;> omega)) (.cells #[.bool b, .slice A n c, .slice D m e, .bool true] 26)).alloc (by first | omega | (simp <;> omega)) (.cells #[.bool false, .slice none 0 0, .slice none 0 0] 24))⟩
set_option maxRecDepth 100000 in
set_option maxHeartbeats 4000000 in
/-- linkworkref12.Sin -/
theorem u_Sin_false (w : World) (b : Bool) (A : Option Addr) (n c : Nat) (D : Option Addr) (m e : Nat) (t : TN) (k : Nat) (h : TK w b A n c D m e false t k) (h0 : 0 < k) (hk : k ≤ 1000000) :
    Calls Tryz.prog 17 #[.agg #[.bool b, .slice A n c, .slice D m e, .bool false]] w (RetF w (tsin t) (4 * k + 4)) := by
  have HNE := Lib.hid (show ((1 : Int) : Rat) + t.t * t.t ≠ 0 from one_add_sq t.t)
  have HC := Lib.hid (show (t.t + t.t) / (((1 : Int) : Rat) + t.t * t.t) = tsin t by unfold tsin; rw [if_neg (by rw [← h.2.1]; decide)]; rfl)
  go_enter Tryz.func17, Tryz.ntmps17
  go_wp2_with fail
  have p1 : Kp w ((w.alloc (.cells #[.bool b, .slice A n c, .slice D m e, .bool false] 26)).alloc (.cells #[.bool false, .slice none 0 0, .slice none 0 0] 24)) := (((Kp.refl w).alloc (.cells #[.bool b, .slice A n c, .slice D m e, .bool false] 26)).alloc (.cells #[.bool false, .slice none 0 0, .slice none 0 0] 24))
  have bw1 : Below w.heap.size w ((w.alloc (.cells #[.bool b, .slice A n c, .slice D m e, .bool false] 26)).alloc (.cells #[.bool false, .slice none 0 0, .slice none 0 0] 24)) := (((brefl w).alloc (by first | omega | (simp <;> omega)) (.cells #[.bool b, .slice A n c, .slice D m e, .bool false] 26)).alloc (by first | omega | (simp <;> omega)) (.cells #[.bool false, .slice none 0 0, .slice none 0 0] 24))
  have x1_0 : Blk ((w.alloc (.cells #[.bool b, .slice A n c, .slice D m e, .bool false] 26)).alloc (.cells #[.bool false, .slice none 0 0, .slice none 0 0] 24)) (w.heap.size) 26 #[.bool b, .slice A n c, .slice D m e, .bool false] := ((blkAt _ _ _ (by simp)).alloc (.cells #[.bool false, .slice none 0 0, .slice none 0 0] 24))
  have x1_1 : Blk ((w.alloc (.cells #[.bool b, .slice A n c, .slice D m e, .bool false] 26)).alloc (.cells #[.bool false, .slice none 0 0, .slice none 0 0] 24)) (w.heap.size + 1) 24 #[.bool false, .slice none 0 0, .slice none 0 0] := (blkAt _ _ _ (by simp))
  have lw1 : w.heap.size + 2 ≤ ((w.alloc (.cells #[.bool b, .slice A n c, .slice D m e, .bool false] 26)).alloc (.cells #[.bool false, .slice none 0 0, .slice none 0 0] 24)).heap.size := by simp
  generalize hE1 : ((w.alloc (.cells #[.bool b, .slice A n c, .slice D m e, .bool false] 26)).alloc (.cells #[.bool false, .slice none 0 0, .slice none 0 0] 24)) = w1 at p1 bw1 lw1 x1_0 x1_1 ⊢
  clear hE1
  replace h := h.keep p1
  obtain ⟨cx1_0_0, cx1_0_1, cx1_0_2, cx1_0_3⟩ := x1_0.c4
  obtain ⟨lx1_0_0, lx1_0_1, lx1_0_2, lx1_0_3⟩ := lts0 x1_0.lt
  refine wp_region_lin (B := w.heap.size) (fr := fun xf => ⟨List.toArray (.agg #[.bool b, .slice A n c, .slice D m e, .bool false] :: .pointer (some ⟨w.heap.size, 0, none⟩) :: .pointer (some ⟨w.heap.size + 1, 0, none⟩) :: .pointer (some ⟨w.heap.size, 3, none⟩) :: .bool false :: undef :: xf 0 :: xf 1 :: xf 2 :: xf 3 :: xf 4 :: xf 5 :: xf 6 :: xf 7 :: xf 8 :: xf 9 :: xf 10 :: xf 11 :: xf 12 :: []), []⟩) (R := fun i => List.getD ((PEq (.pointer (some ⟨w.heap.size, 0, none⟩))) :: (PEq (.agg #[.bool b, .slice A n c, .slice D m e])) :: (PEq (.pointer (some ⟨w.heap.size, 0, none⟩))) :: (PEq (.agg #[.bool b, .slice A n c, .slice D m e])) :: (VQ (((t).t) + ((t).t)) ((k) + (k) + 1)) :: (VQ (((1 : Int) : Rat)) (1)) :: (PEq (.pointer (some ⟨w.heap.size, 0, none⟩))) :: (PEq (.agg #[.bool b, .slice A n c, .slice D m e])) :: (PEq (.pointer (some ⟨w.heap.size, 0, none⟩))) :: (PEq (.agg #[.bool b, .slice A n c, .slice D m e])) :: (VQ (((t).t) * ((t).t)) ((k) + (k))) :: (VQ ((((1 : Int) : Rat)) + (((t).t) * ((t).t))) ((1) + ((k) + (k)) + 1)) :: (VQ ((((t).t) + ((t).t)) / ((((1 : Int) : Rat)) + (((t).t) * ((t).t)))) (((k) + (k) + 1) + ((1) + ((k) + (k)) + 1))) :: PAny :: []) i (fun _ _ => True)) (es := []) (ow := [⟨w.heap.size, 14, 0, 26, #[.bool b, .slice A n c, .slice D m e, .bool false], CAny⟩, ⟨w.heap.size + 1, 13, 0, 24, #[.bool false, .slice none 0 0, .slice none 0 0], CQ ((((t).t) + ((t).t)) / ((((1 : Int) : Rat)) + (((t).t) * ((t).t)))) (((k) + (k) + 1) + ((1) + ((k) + (k)) + 1))⟩]) (x0 := (fun _ => undef)) (by kernel_rfl)
    (each_of ⟨fun _ _ => rfl, fun _ _ => rfl, fun _ _ => rfl, fun _ _ => rfl, fun _ _ => rfl, fun _ _ => rfl, fun _ _ => rfl, fun _ _ => rfl, fun _ _ => rfl, fun _ _ => rfl, fun _ _ => rfl, fun _ _ => rfl, fun _ _ => rfl, fun _ _ => rfl, trivial⟩) (each_of (acyc_from _ 0 (by kernel_rfl))) (AllStab.get _ ⟨stEq _, stEq _, stEq _, stEq _, stQ _ _, stQ _ _, stEq _, stEq _, stEq _, stEq _, stQ _ _, stQ _ _, stQ _ _, stAny, trivial⟩)
    (fun _ h => nomatch h) (List.forall_mem_cons.2 ⟨scAny, List.forall_mem_cons.2 ⟨scQ _ _, fun _ h => nomatch h⟩⟩) (fun _ h => nomatch h) bw1.size
    (List.forall_mem_cons.2 ⟨⟨x1_0, by show w.heap.size ≤ w.heap.size; omega⟩, List.forall_mem_cons.2 ⟨⟨x1_1, by show w.heap.size ≤ w.heap.size + 1; omega⟩, fun _ h => nomatch h⟩⟩) (ownDist (by simp <;> omega))
    (each_of ⟨?_, ?_, ?_, ?_, ?_, ?_, ?_, ?_, ?_, ?_, ?_, ?_, ?_, ?_, trivial⟩) ?_
  · exact .inl ⟨by simp, by simp, fun xf wq hk hbl hd K hK => by
      (try dsimp only)
      go_simp
      exact hK.out (.pointer (some ⟨w.heap.size, 0, none⟩)) _ rfl (brefl _)⟩
  · exact .inl ⟨by simp, by simp, fun xf wq hk hbl hd K hK => by
      have dq0 : xf 0 = .pointer (some ⟨w.heap.size, 0, none⟩) := hd ⟨0, .data⟩ (by simp) rfl
      have y : Blk wq (w.heap.size) 26 #[.bool b, .slice A n c, .slice D m e, .bool false] := hbl _ (List.Mem.head _) (by simp [Region.binds])
      obtain ⟨hcl0, hcl1, hcl2, hcl3⟩ := y.c4
      (try dsimp only); (try simp only [dq0])
      go_simp
      have hz := hK.out (.agg #[.bool b, .slice A n c, .slice D m e]) _ rfl (brefl _)
      simp only [dq0] at hz
      exact hz⟩
  · exact .inl ⟨by simp, by simp, fun xf wq hk hbl hd K hK => by
      (try dsimp only)
      go_simp
      exact hK.out (.pointer (some ⟨w.heap.size, 0, none⟩)) _ rfl (brefl _)⟩
  · exact .inl ⟨by simp, by simp, fun xf wq hk hbl hd K hK => by
      have dq2 : xf 2 = .pointer (some ⟨w.heap.size, 0, none⟩) := hd ⟨2, .data⟩ (by simp) rfl
      have y : Blk wq (w.heap.size) 26 #[.bool b, .slice A n c, .slice D m e, .bool false] := hbl _ (List.Mem.head _) (by simp [Region.binds])
      obtain ⟨hcl0, hcl1, hcl2, hcl3⟩ := y.c4
      (try dsimp only); (try simp only [dq2])
      go_simp
      have hz := hK.out (.agg #[.bool b, .slice A n c, .slice D m e]) _ rfl (brefl _)
      simp only [dq2] at hz
      exact hz⟩
  · exact .inl ⟨by simp, by simp, fun xf wq hk hbl hd K hK => by
      have dq1 : xf 1 = .agg #[.bool b, .slice A n c, .slice D m e] := hd ⟨1, .data⟩ (by simp) rfl
      have dq3 : xf 3 = .agg #[.bool b, .slice A n c, .slice D m e] := hd ⟨3, .data⟩ (by simp) rfl
      (try dsimp only); (try simp only [dq1, dq3])
      go_simp
      go_at_call 47
      (with_reducible refine (g_add _ b A n c D m e ((t).t) (k) ?_ b A n c D m e ((t).t) (k) ?_ ?_ ?_ ?_ ?_).mono ?_); (exact (h.keep hk).qz); (exact (h.keep hk).qz); (first | omega | decide | assumption); (first | omega | decide | assumption); (first | omega | decide | assumption); (first | omega | decide | assumption); rintro e wr ⟨b3, A3, n3, c3, A'3, n'3, c'3, rfl, h3, hbr⟩
      have hz := hK.out _ _ ⟨b3, A3, n3, c3, A'3, n'3, c'3, rfl, h3⟩ hbr
      simp only [dq1, dq3] at hz
      exact hz⟩
  · exact .inl ⟨by simp, by simp, fun xf wq hk hbl hd K hK => by
      (try dsimp only)
      go_simp
      go_at_call 46
      (with_reducible refine (u_one _).mono ?_); rintro e wr ⟨b4, A4, n4, c4, A'4, n'4, c'4, rfl, h4, hbr⟩
      exact hK.out _ _ ⟨b4, A4, n4, c4, A'4, n'4, c'4, rfl, h4⟩ hbr⟩
  · exact .inl ⟨by simp, by simp, fun xf wq hk hbl hd K hK => by
      (try dsimp only)
      go_simp
      exact hK.out (.pointer (some ⟨w.heap.size, 0, none⟩)) _ rfl (brefl _)⟩
  · exact .inl ⟨by simp, by simp, fun xf wq hk hbl hd K hK => by
      have dq6 : xf 6 = .pointer (some ⟨w.heap.size, 0, none⟩) := hd ⟨6, .data⟩ (by simp) rfl
      have y : Blk wq (w.heap.size) 26 #[.bool b, .slice A n c, .slice D m e, .bool false] := hbl _ (List.Mem.head _) (by simp [Region.binds])
      obtain ⟨hcl0, hcl1, hcl2, hcl3⟩ := y.c4
      (try dsimp only); (try simp only [dq6])
      go_simp
      have hz := hK.out (.agg #[.bool b, .slice A n c, .slice D m e]) _ rfl (brefl _)
      simp only [dq6] at hz
      exact hz⟩
  · exact .inl ⟨by simp, by simp, fun xf wq hk hbl hd K hK => by
      (try dsimp only)
      go_simp
      exact hK.out (.pointer (some ⟨w.heap.size, 0, none⟩)) _ rfl (brefl _)⟩
  · exact .inl ⟨by simp, by simp, fun xf wq hk hbl hd K hK => by
      have dq8 : xf 8 = .pointer (some ⟨w.heap.size, 0, none⟩) := hd ⟨8, .data⟩ (by simp) rfl
      have y : Blk wq (w.heap.size) 26 #[.bool b, .slice A n c, .slice D m e, .bool false] := hbl _ (List.Mem.head _) (by simp [Region.binds])
      obtain ⟨hcl0, hcl1, hcl2, hcl3⟩ := y.c4
      (try dsimp only); (try simp only [dq8])
      go_simp
      have hz := hK.out (.agg #[.bool b, .slice A n c, .slice D m e]) _ rfl (brefl _)
      simp only [dq8] at hz
      exact hz⟩
  · exact .inl ⟨by simp, by simp, fun xf wq hk hbl hd K hK => by
      have dq7 : xf 7 = .agg #[.bool b, .slice A n c, .slice D m e] := hd ⟨7, .data⟩ (by simp) rfl
      have dq9 : xf 9 = .agg #[.bool b, .slice A n c, .slice D m e] := hd ⟨9, .data⟩ (by simp) rfl
      (try dsimp only); (try simp only [dq7, dq9])
      go_simp
      go_at_call 43
      (with_reducible refine (g_mul _ b A n c D m e ((t).t) (k) ?_ b A n c D m e ((t).t) (k) ?_ ?_ ?_ ?_ ?_).mono ?_); (exact (h.keep hk).qz); (exact (h.keep hk).qz); (first | omega | decide | assumption); (first | omega | decide | assumption); (first | omega | decide | assumption); (first | omega | decide | assumption); rintro e wr ⟨b5, A5, n5, c5, A'5, n'5, c'5, rfl, h5, hbr⟩
      have hz := hK.out _ _ ⟨b5, A5, n5, c5, A'5, n'5, c'5, rfl, h5⟩ hbr
      simp only [dq7, dq9] at hz
      exact hz⟩
  · exact .inl ⟨by simp, by simp, fun xf wq hk hbl hd K hK => by
      obtain ⟨b4, A4, n4, c4, A'4, n'4, c'4, dq5, h4⟩ : VQ (((1 : Int) : Rat)) (1) (xf 5) wq := hd ⟨5, .data⟩ (by simp) rfl
      obtain ⟨b5, A5, n5, c5, A'5, n'5, c'5, dq10, h5⟩ : VQ (((t).t) * ((t).t)) ((k) + (k)) (xf 10) wq := hd ⟨10, .data⟩ (by simp) rfl
      (try dsimp only); (try simp only [dq5, dq10])
      go_simp
      go_at_call 47
      (with_reducible refine (g_add _ b4 A4 n4 c4 A'4 n'4 c'4 (((1 : Int) : Rat)) (1) ?_ b5 A5 n5 c5 A'5 n'5 c'5 (((t).t) * ((t).t)) ((k) + (k)) ?_ ?_ ?_ ?_ ?_).mono ?_); (exact h4.qz); (exact h5.qz); (first | omega | decide | assumption); (first | omega | decide | assumption); (first | omega | decide | assumption); (first | omega | decide | assumption); rintro e wr ⟨b6, A6, n6, c6, A'6, n'6, c'6, rfl, h6, hbr⟩
      have hz := hK.out _ _ ⟨b6, A6, n6, c6, A'6, n'6, c'6, rfl, h6⟩ hbr
      simp only [dq5, dq10] at hz
      exact hz⟩
  · exact .inl ⟨by simp, by simp, fun xf wq hk hbl hd K hK => by
      obtain ⟨b3, A3, n3, c3, A'3, n'3, c'3, dq4, h3⟩ : VQ (((t).t) + ((t).t)) ((k) + (k) + 1) (xf 4) wq := hd ⟨4, .data⟩ (by simp) rfl
      obtain ⟨b6, A6, n6, c6, A'6, n'6, c'6, dq11, h6⟩ : VQ ((((1 : Int) : Rat)) + (((t).t) * ((t).t))) ((1) + ((k) + (k)) + 1) (xf 11) wq := hd ⟨11, .data⟩ (by simp) rfl
      (try dsimp only); (try simp only [dq4, dq11])
      go_simp
      go_at_call 44
      (with_reducible refine (u_over _ b3 A3 n3 c3 A'3 n'3 c'3 (((t).t) + ((t).t)) ((k) + (k) + 1) ?_ b6 A6 n6 c6 A'6 n'6 c'6 ((((1 : Int) : Rat)) + (((t).t) * ((t).t))) ((1) + ((k) + (k)) + 1) ?_ ?_ ?_ ?_ ?_ ?_).mono ?_); (exact h3.qz); (exact h6.qz); (first | omega | decide | assumption); (first | omega | decide | assumption); (first | omega | decide | assumption); (first | omega | decide | assumption); (exact HNE.out); rintro e wr ⟨b7, A7, n7, c7, A'7, n'7, c'7, rfl, h7, hbr⟩
      have hz := hK.out _ _ ⟨b7, A7, n7, c7, A'7, n'7, c'7, rfl, h7⟩ hbr
      simp only [dq4, dq11] at hz
      exact hz⟩
  · exact .inr (.inr (.inr ⟨⟨w.heap.size + 1, 13, 0, 24, #[.bool false, .slice none 0 0, .slice none 0 0], CQ ((((t).t) + ((t).t)) / ((((1 : Int) : Rat)) + (((t).t) * ((t).t)))) (((k) + (k) + 1) + ((1) + ((k) + (k)) + 1))⟩, by simp, rfl, by simp, by simp, (show KT 24 = false by decide), fun _ _ => True.intro, fun xf wq hblk hd => by
      obtain ⟨b7, A7, n7, c7, A'7, n'7, c'7, dq12, h7⟩ : VQ ((((t).t) + ((t).t)) / ((((1 : Int) : Rat)) + (((t).t) * ((t).t)))) (((k) + (k) + 1) + ((1) + ((k) + (k)) + 1)) (xf 12) wq := hd ⟨12, .data⟩ (by simp) rfl
      dsimp only at hblk
      refine ⟨[.bool b7, .slice A7 n7 c7, .slice A'7 n'7 c'7], fun w' hk => ⟨b7, A7, n7, c7, A'7, n'7, c'7, rfl, h7.keep hk⟩, fun K hK => ?_⟩
      have hc0 : wq.cell? ⟨w.heap.size + 1, 0, none⟩ = some (.bool false) := hblk.cell 0
      have hc1 : wq.cell? ⟨w.heap.size + 1, 1, none⟩ = some (.slice none 0 0) := hblk.cell 1
      have hc2 : wq.cell? ⟨w.heap.size + 1, 2, none⟩ = some (.slice none 0 0) := hblk.cell 2
      have hf0 : wq.frozen? ⟨w.heap.size + 1, 0, none⟩ = false := hblk.frozen 0
      have hf1 : wq.frozen? ⟨w.heap.size + 1, 1, none⟩ = false := hblk.frozen 1
      have hf2 : wq.frozen? ⟨w.heap.size + 1, 2, none⟩ = false := hblk.frozen 2
      (try dsimp only)
      simp only [dq12]
      go_simp
      have hz := hK.out undef
      simp only [dq12] at hz
      exact hz⟩))
  clear cx1_0_0 cx1_0_1 cx1_0_2 cx1_0_3 lx1_0_0 lx1_0_1 lx1_0_2 lx1_0_3
  intro y2 w2 kq2 hbl2 lw2 how hrr hfl hds
  replace h := h.keep kq2
  obtain ⟨_, z2_0, ez, _⟩ := how _ (List.Mem.head _)
  obtain rfl := ez (by simp)
  dsimp only at z2_0
  obtain ⟨_, z2_1, _, ez⟩ := how _ (List.Mem.tail _ (List.Mem.head _))
  obtain ⟨b7, A7, n7, c7, A'7, n'7, c'7, rfl, h7⟩ := ez (by simp)
  dsimp only at z2_1
  (try dsimp only)
  clear hrr hfl how hds 
  clear x1_0 x1_1
  have bw2 : Below w.heap.size w w2 := bw1.trans hbl2
  clear bw1
  have cz2_1_0 : w2.cell? ⟨w.heap.size + 1, 0, none⟩ = some (.bool b7) := z2_1.cell 0
  have cz2_1_1 : w2.cell? ⟨w.heap.size + 1, 1, none⟩ = some (.slice A7 n7 c7) := z2_1.cell 1
  have cz2_1_2 : w2.cell? ⟨w.heap.size + 1, 2, none⟩ = some (.slice A'7 n'7 c'7) := z2_1.cell 2
  obtain ⟨lz2_1_0, lz2_1_1, lz2_1_2, lz2_1_3⟩ := lts1 z2_1.lt
  go_wp2_with fail
  rw [HC.out] at h7
  refine bodyPost_ret (v := .agg #[.bool b7, .slice A7 n7 c7, .slice A'7 n'7 c'7]) (by simp [results, Tryz.results17, go_sem, *] <;> first | rfl | exact ⟨rfl, rfl⟩) rfl ?_
  have kp := (Kp.refl w2)
  exact ⟨b7, A7, n7, c7, A'7, n'7, c'7, rfl, (h7.keep kp).mono (by omega), bw2⟩
theorem u_Sin (w : World) (b : Bool) (A : Option Addr) (n c : Nat) (D : Option Addr) (m e : Nat) (x : Bool) (t : TN) (k : Nat) (h : TK w b A n c D m e x t k) (h0 : 0 < k) (hk : k ≤ 1000000) : Calls Tryz.prog 17 #[.agg #[.bool b, .slice A n c, .slice D m e, .bool x]] w (RetF w (tsin t) (4 * k + 4)) := by
  cases x
  · exact u_Sin_false w b A n c D m e t k h h0 hk
  · exact u_Sin_true w b A n c D m e t k h h0 hk
end Go.Proofs.YtpnnfbodphflpaaGreatDoor

/- Walks: the opposite turn. -/
namespace Go.Proofs.YtpnnfbodphflpaaGreatDoor
open Go Go.RowKit Bn
attribute [local go_sem ↓] Go.wp_at_zero Go.wp_at_succ
set_option maxRecDepth 100000 in
set_option maxHeartbeats 2000000 in
/-- turn.Neg -/
theorem t_Neg (w : World) (b : Bool) (A : Option Addr) (n c : Nat) (D : Option Addr) (m e : Nat) (x : Bool) (t : TN) (k : Nat) (h : TK w b A n c D m e x t k) (h0 : 0 < k) (hk : k ≤ 1000000) :
    Calls Tryz.prog 10 #[.agg #[.bool b, .slice A n c, .slice D m e, .bool x]] w (RetTe w .nilIface (tneg t) k) := by
  go_enter Tryz.func10, Tryz.ntmps10
  go_wp2_with fail
  (with_reducible refine (t_check _ b A n c D m e x (t) (k) ?_ ?_ ?_).mono ?_); (exact (h.belw (((Below.refl _ _).alloc (Nat.le_refl _) _).alloc (by simp) _))); (first | omega | decide | assumption); (first | omega | decide | assumption); rintro e w1 ⟨rfl, hb1⟩
  have q1 : Below w.heap.size w w1 := (((Below.refl _ _).alloc (Nat.le_refl _) _).alloc (by simp) _).trans (hb1.mono (by simp <;> omega))
  replace h := h.belw q1
  have x1_0 : Blk w1 (w.heap.size) 26 #[.bool b, .slice A n c, .slice D m e, .bool x] := ((blkAt _ _ _ (by simp)).alloc _).below hb1 (by simp <;> omega)
  have x1_1 : Blk w1 (w.heap.size + 1) 26 #[.bool false, .slice none 0 0, .slice none 0 0, .bool false] := (blkAt _ _ _ (by simp)).below hb1 (by simp)
  have bw1 : Below w.heap.size w w1 := (brefl w).trans (q1.mono (brefl w).size)
  have lw1 : w.heap.size + 2 ≤ w1.heap.size := by have := hb1.size; simp at this; omega
  clear hb1 q1
  obtain ⟨cx1_0_0, cx1_0_1, cx1_0_2, cx1_0_3⟩ := x1_0.c4
  obtain ⟨lx1_0_0, lx1_0_1, lx1_0_2, lx1_0_3⟩ := lts0 x1_0.lt
  go_wp2_with fail
  (with_reducible refine (t_neg _ b A n c D m e x (t) (k) ?_ ?_ ?_).mono ?_); (exact h); (first | omega | decide | assumption); (first | omega | decide | assumption); rintro e w2 ⟨b2, A2, n2, c2, A'2, n'2, c'2, x2, rfl, h2, hb2⟩
  clear cx1_0_0 cx1_0_1 cx1_0_2 cx1_0_3 lx1_0_0 lx1_0_1 lx1_0_2 lx1_0_3
  have q2 : Below w1.heap.size w1 w2 := hb2
  replace h := h.belw q2
  replace x1_0 := x1_0.below q2 x1_0.lt
  replace x1_1 := x1_1.below q2 x1_1.lt
  have bw2 : Below w.heap.size w w2 := bw1.trans (q2.mono bw1.size)
  have lw2 : w1.heap.size ≤ w2.heap.size := q2.size
  clear hb2 q2 bw1
  obtain ⟨cx1_1_0, cx1_1_1, cx1_1_2, cx1_1_3⟩ := x1_1.c4
  obtain ⟨fx1_1_0, fx1_1_1, fx1_1_2, fx1_1_3⟩ := x1_1.f4
  obtain ⟨lx1_1_0, lx1_1_1, lx1_1_2, lx1_1_3⟩ := lts1 x1_1.lt
  go_wp2_with fail
  refine bodyPost_ret (v := .tuple #[.agg #[.bool b2, .slice A2 n2 c2, .slice A'2 n'2 c'2, .bool x2], .nilIface]) (by simp [results, Tryz.results10, go_sem, *] <;> first | rfl | exact ⟨rfl, rfl⟩) rfl ?_
  have kp := (((((Kp.refl w2).setB (p := ⟨w.heap.size + 1, 0, none⟩) x1_1.box (by decide) (.bool b2)).setB (p := ⟨w.heap.size + 1, 1, none⟩) (x1_1.box.set ⟨w.heap.size + 1, 0, none⟩ (.bool b2)) (by decide) (.slice A2 n2 c2)).setB (p := ⟨w.heap.size + 1, 2, none⟩) ((x1_1.box.set ⟨w.heap.size + 1, 0, none⟩ (.bool b2)).set ⟨w.heap.size + 1, 1, none⟩ (.slice A2 n2 c2)) (by decide) (.slice A'2 n'2 c'2)).setB (p := ⟨w.heap.size + 1, 3, none⟩) (((x1_1.box.set ⟨w.heap.size + 1, 0, none⟩ (.bool b2)).set ⟨w.heap.size + 1, 1, none⟩ (.slice A2 n2 c2)).set ⟨w.heap.size + 1, 2, none⟩ (.slice A'2 n'2 c'2)) (by decide) (.bool x2))
  exact ⟨b2, A2, n2, c2, A'2, n'2, c'2, x2, rfl, h2.keep kp, ((((bw2.setCell (p := ⟨w.heap.size + 1, 0, none⟩) (by dsimp only; omega) (.bool b2)).setCell (p := ⟨w.heap.size + 1, 1, none⟩) (by dsimp only; omega) (.slice A2 n2 c2)).setCell (p := ⟨w.heap.size + 1, 2, none⟩) (by dsimp only; omega) (.slice A'2 n'2 c'2)).setCell (p := ⟨w.heap.size + 1, 3, none⟩) (by dsimp only; omega) (.bool x2))⟩
end Go.Proofs.YtpnnfbodphflpaaGreatDoor

/- Walks: TurnParts. -/
namespace Go.Proofs.YtpnnfbodphflpaaGreatDoor
open Go Go.RowKit Bn
attribute [local go_sem ↓] Go.wp_at_zero Go.wp_at_succ
theorem rs1 {w : World} {g : Nat} {T : TypeId} {b : Bool} {A : Option Addr} {n c : Nat} {D : Option Addr} {m e : Nat}
    (hb : Blk w g T #[.bool b, .slice A n c, .slice D m e]) : Rs w g 1 (fun i : Nat => n) (fun i : Nat => m) := by
  refine ⟨hb.lt, fun i hi => ?_⟩
  match i, hi with
  | 0, _ => exact ⟨_, _, _, _, _, hb.cell 0, hb.cell 1, hb.cell 2⟩
theorem four_cells {v : Value} {i : Nat} (h : i < 4) : (#[v, v, v, v] : Array Value)[i]? = some v := by
  match i, h with
  | 0, _ => rfl
  | 1, _ => rfl
  | 2, _ => rfl
  | 3, _ => rfl
set_option maxRecDepth 100000 in
set_option maxHeartbeats 8000000 in
/-- linkworklaw12.TurnParts -/
theorem l_TurnParts (w : World) (b : Bool) (A : Option Addr) (n c : Nat) (D : Option Addr) (m e : Nat) (ra : RD) (k : Nat) (Hra : QD w b A n c D m e ra k) (x : Bool) (htab : Tab w) :
    Calls Tryz.prog 3 #[.agg #[.bool b, .slice A n c, .slice D m e, .bool x]] w (RetV w (.bool true)) := by
  go_enter Tryz.func3, Tryz.ntmps3
  go_wp2_with fail
  (with_reducible refine (l_awake _).mono ?_); rintro e w1 ⟨rfl, hb1⟩
  have q1 : Below w.heap.size w w1 := ((Below.refl _ _).alloc (Nat.le_refl _) _).trans (hb1.mono (by simp))
  replace Hra := Hra.belw q1
  have x1_0 : Blk w1 (w.heap.size) 26 #[.bool b, .slice A n c, .slice D m e, .bool x] := (blkAt _ _ _ (by simp)).below hb1 (by simp)
  have bw1 : Below w.heap.size w w1 := (brefl w).trans (q1.mono (brefl w).size)
  have lw1 : w.heap.size + 1 ≤ w1.heap.size := by have := hb1.size; simp at this; omega
  clear hb1 q1
  obtain ⟨cx1_0_0, cx1_0_1, cx1_0_2, cx1_0_3⟩ := x1_0.c4
  obtain ⟨lx1_0_0, lx1_0_1, lx1_0_2, lx1_0_3⟩ := lts0 x1_0.lt
  go_wp2_with fail
  (with_reducible refine (l_short _ (w1.heap.size) 1 (fun i : Nat => n) (fun i : Nat => m) ?_ ?_).mono ?_); (exact rs1 (blkAt _ _ _ (by simp))); (decide); rintro e w2 ⟨r2, rfl, hr2, hb2⟩
  clear cx1_0_0 cx1_0_1 cx1_0_2 cx1_0_3 lx1_0_0 lx1_0_1 lx1_0_2 lx1_0_3
  have q2 : Below w1.heap.size w1 w2 := ((Below.refl _ _).alloc (Nat.le_refl _) _).trans (hb2.mono (by simp))
  replace Hra := Hra.belw q2
  replace x1_0 := x1_0.below q2 x1_0.lt
  have x2_0 : Blk w2 (w1.heap.size) 24 #[.bool b, .slice A n c, .slice D m e] := (blkAt _ _ _ (by simp)).below hb2 (by simp)
  have bw2 : Below w.heap.size w w2 := bw1.trans (q2.mono bw1.size)
  have lw2 : w1.heap.size + 1 ≤ w2.heap.size := by have := hb2.size; simp at this; omega
  clear hb2 q2 bw1
  obtain ⟨cx1_0_0, cx1_0_1, cx1_0_2, cx1_0_3⟩ := x1_0.c4
  obtain ⟨lx1_0_0, lx1_0_1, lx1_0_2, lx1_0_3⟩ := lts0 x1_0.lt
  cases r2
  · go_wp2_with fail
    (with_reducible refine (l_awake _).mono ?_); rintro e w3 ⟨rfl, hb3⟩
    clear cx1_0_0 cx1_0_1 cx1_0_2 cx1_0_3 lx1_0_0 lx1_0_1 lx1_0_2 lx1_0_3
    have q3 : Below w2.heap.size w2 w3 := hb3
    replace Hra := Hra.belw q3
    replace x1_0 := x1_0.below q3 x1_0.lt
    replace x2_0 := x2_0.below q3 x2_0.lt
    have bw3 : Below w.heap.size w w3 := bw2.trans (q3.mono bw2.size)
    have lw3 : w2.heap.size ≤ w3.heap.size := q3.size
    clear hb3 q3 bw2
    go_wp2_with fail
    go_ret
    exact retB rfl bw3
  · have hs0 := hr2 rfl 0 (by decide)
    clear hr2
    replace Hra := QD.short Hra hs0
    clear hs0
    by_cases hca : accT ra x = true
    · have HCA := Lib.hid hca
      obtain ⟨T, hT⟩ : ∃ T, turnText ⟨ra.q, x⟩ = T := ⟨_, rfl⟩
      have HT := Lib.hid hT
      clear hca hT
      have hTa : TK w2 b A n c D m e x ⟨ra.q, x⟩ 6 := acc_tk Hra HCA.out
      go_wp2_with fail
      (with_reducible refine (t_cos _ b A n c D m e x (⟨ra.q, x⟩) (6) ?_ ?_ ?_).mono ?_); (exact hTa); (first | omega | decide | assumption); (first | omega | decide | assumption); rintro e w3 ⟨b3, A3, n3, c3, A'3, n'3, c'3, rfl, h3, hb3⟩
      clear cx1_0_0 cx1_0_1 cx1_0_2 cx1_0_3 lx1_0_0 lx1_0_1 lx1_0_2 lx1_0_3
      have q3 : Below w2.heap.size w2 w3 := hb3
      replace Hra := Hra.belw q3
      replace hTa := hTa.belw q3
      replace x1_0 := x1_0.below q3 x1_0.lt
      replace x2_0 := x2_0.below q3 x2_0.lt
      have bw3 : Below w.heap.size w w3 := bw2.trans (q3.mono bw2.size)
      have lw3 : w2.heap.size ≤ w3.heap.size := q3.size
      clear hb3 q3 bw2
      obtain ⟨cx1_0_0, cx1_0_1, cx1_0_2, cx1_0_3⟩ := x1_0.c4
      obtain ⟨lx1_0_0, lx1_0_1, lx1_0_2, lx1_0_3⟩ := lts0 x1_0.lt
      go_wp2_with fail
      (with_reducible refine (t_sin _ b A n c D m e x (⟨ra.q, x⟩) (6) ?_ ?_ ?_).mono ?_); (exact (hTa.belw ((Below.refl _ _).alloc (Nat.le_refl _) _))); (first | omega | decide | assumption); (first | omega | decide | assumption); rintro e w4 ⟨b4, A4, n4, c4, A'4, n'4, c'4, rfl, h4, hb4⟩
      clear cx1_0_0 cx1_0_1 cx1_0_2 cx1_0_3 lx1_0_0 lx1_0_1 lx1_0_2 lx1_0_3
      have q4 : Below w3.heap.size w3 w4 := ((Below.refl _ _).alloc (Nat.le_refl _) _).trans (hb4.mono (by simp))
      replace Hra := Hra.belw q4
      replace hTa := hTa.belw q4
      replace h3 := h3.belw q4
      replace x1_0 := x1_0.below q4 x1_0.lt
      replace x2_0 := x2_0.below q4 x2_0.lt
      have x4_0 : Blk w4 (w3.heap.size) 24 #[.bool b3, .slice A3 n3 c3, .slice A'3 n'3 c'3] := (blkAt _ _ _ (by simp)).below hb4 (by simp)
      have bw4 : Below w.heap.size w w4 := bw3.trans (q4.mono bw3.size)
      have lw4 : w3.heap.size + 1 ≤ w4.heap.size := by have := hb4.size; simp at this; omega
      clear hb4 q4 bw3
      obtain ⟨cx1_0_0, cx1_0_1, cx1_0_2, cx1_0_3⟩ := x1_0.c4
      obtain ⟨lx1_0_0, lx1_0_1, lx1_0_2, lx1_0_3⟩ := lts0 x1_0.lt
      go_wp2_with fail
      (with_reducible refine (t_Neg _ b A n c D m e x (⟨ra.q, x⟩) (6) ?_ ?_ ?_).mono ?_); (exact (hTa.belw ((Below.refl _ _).alloc (Nat.le_refl _) _))); (first | omega | decide | assumption); (first | omega | decide | assumption); rintro e w5 ⟨b5, A5, n5, c5, A'5, n'5, c'5, x5, rfl, h5, hb5⟩
      clear cx1_0_0 cx1_0_1 cx1_0_2 cx1_0_3 lx1_0_0 lx1_0_1 lx1_0_2 lx1_0_3
      have q5 : Below w4.heap.size w4 w5 := ((Below.refl _ _).alloc (Nat.le_refl _) _).trans (hb5.mono (by simp))
      replace Hra := Hra.belw q5
      replace hTa := hTa.belw q5
      replace h3 := h3.belw q5
      replace h4 := h4.belw q5
      replace x1_0 := x1_0.below q5 x1_0.lt
      replace x2_0 := x2_0.below q5 x2_0.lt
      replace x4_0 := x4_0.below q5 x4_0.lt
      have x5_0 : Blk w5 (w4.heap.size) 24 #[.bool b4, .slice A4 n4 c4, .slice A'4 n'4 c'4] := (blkAt _ _ _ (by simp)).below hb5 (by simp)
      have bw5 : Below w.heap.size w w5 := bw4.trans (q5.mono bw4.size)
      have lw5 : w4.heap.size + 1 ≤ w5.heap.size := by have := hb5.size; simp at this; omega
      clear hb5 q5 bw4
      obtain ⟨cx1_0_0, cx1_0_1, cx1_0_2, cx1_0_3⟩ := x1_0.c4
      obtain ⟨lx1_0_0, lx1_0_1, lx1_0_2, lx1_0_3⟩ := lts0 x1_0.lt
      go_wp2_with fail
      (with_reducible refine (t_Text _ b A n c D m e x (⟨ra.q, x⟩) (6) ?_ (by decide) (by decide) (htab.belw (bw5.trans (((Below.refl _ _).alloc (Nat.le_refl _) _).mono bw5.size))) T HT.out).mono ?_); (exact (hTa.belw ((Below.refl _ _).alloc (Nat.le_refl _) _))); rintro e w6 ⟨rfl, hb6⟩
      clear cx1_0_0 cx1_0_1 cx1_0_2 cx1_0_3 lx1_0_0 lx1_0_1 lx1_0_2 lx1_0_3
      have q6 : Below w5.heap.size w5 w6 := ((Below.refl _ _).alloc (Nat.le_refl _) _).trans (hb6.mono (by simp))
      replace Hra := Hra.belw q6
      replace hTa := hTa.belw q6
      replace h3 := h3.belw q6
      replace h4 := h4.belw q6
      replace h5 := h5.belw q6
      replace x1_0 := x1_0.below q6 x1_0.lt
      replace x2_0 := x2_0.below q6 x2_0.lt
      replace x4_0 := x4_0.below q6 x4_0.lt
      replace x5_0 := x5_0.below q6 x5_0.lt
      have x6_0 : Blk w6 (w5.heap.size) 26 #[.bool b5, .slice A5 n5 c5, .slice A'5 n'5 c'5, .bool x5] := (blkAt _ _ _ (by simp)).below hb6 (by simp)
      have bw6 : Below w.heap.size w w6 := bw5.trans (q6.mono bw5.size)
      have lw6 : w5.heap.size + 1 ≤ w6.heap.size := by have := hb6.size; simp at this; omega
      clear hb6 q6 bw5
      obtain ⟨cx1_0_0, cx1_0_1, cx1_0_2, cx1_0_3⟩ := x1_0.c4
      obtain ⟨lx1_0_0, lx1_0_1, lx1_0_2, lx1_0_3⟩ := lts0 x1_0.lt
      go_wp2_with fail
      (with_reducible refine (g_chk_v _ b A n c D m e (ra) (6) ?_ x 0 ?_ ?_ ?_).mono ?_); (exact Hra); (exact if_pos HCA.out); (first | omega | decide | assumption); (first | omega | decide | assumption); rintro e w7 ⟨rfl, hb7⟩
      clear cx1_0_0 cx1_0_1 cx1_0_2 cx1_0_3 lx1_0_0 lx1_0_1 lx1_0_2 lx1_0_3
      have q7 : Below w6.heap.size w6 w7 := hb7
      replace Hra := Hra.belw q7
      replace hTa := hTa.belw q7
      replace h3 := h3.belw q7
      replace h4 := h4.belw q7
      replace h5 := h5.belw q7
      replace x1_0 := x1_0.below q7 x1_0.lt
      replace x2_0 := x2_0.below q7 x2_0.lt
      replace x4_0 := x4_0.below q7 x4_0.lt
      replace x5_0 := x5_0.below q7 x5_0.lt
      replace x6_0 := x6_0.below q7 x6_0.lt
      have bw7 : Below w.heap.size w w7 := bw6.trans (q7.mono bw6.size)
      have lw7 : w6.heap.size ≤ w7.heap.size := q7.size
      clear hb7 q7 bw6
      obtain ⟨cx1_0_0, cx1_0_1, cx1_0_2, cx1_0_3⟩ := x1_0.c4
      obtain ⟨lx1_0_0, lx1_0_1, lx1_0_2, lx1_0_3⟩ := lts0 x1_0.lt
      go_wp2_with fail
      (with_reducible refine (t_check _ b A n c D m e x (⟨ra.q, x⟩) (6) ?_ ?_ ?_).mono ?_); (exact hTa); (first | omega | decide | assumption); (first | omega | decide | assumption); rintro e w8 ⟨rfl, hb8⟩
      clear cx1_0_0 cx1_0_1 cx1_0_2 cx1_0_3 lx1_0_0 lx1_0_1 lx1_0_2 lx1_0_3
      have q8 : Below w7.heap.size w7 w8 := hb8
      replace Hra := Hra.belw q8
      replace hTa := hTa.belw q8
      replace h3 := h3.belw q8
      replace h4 := h4.belw q8
      replace h5 := h5.belw q8
      replace x1_0 := x1_0.below q8 x1_0.lt
      replace x2_0 := x2_0.below q8 x2_0.lt
      replace x4_0 := x4_0.below q8 x4_0.lt
      replace x5_0 := x5_0.below q8 x5_0.lt
      replace x6_0 := x6_0.below q8 x6_0.lt
      have bw8 : Below w.heap.size w w8 := bw7.trans (q8.mono bw7.size)
      have lw8 : w7.heap.size ≤ w8.heap.size := q8.size
      clear hb8 q8 bw7
      go_wp2_with fail
      (with_reducible refine (b_num_nil _).mono ?_); rintro e w9 ⟨rfl, hb9⟩
      have q9 : Below w8.heap.size w8 w9 := hb9
      replace Hra := Hra.belw q9
      replace hTa := hTa.belw q9
      replace h3 := h3.belw q9
      replace h4 := h4.belw q9
      replace h5 := h5.belw q9
      replace x1_0 := x1_0.below q9 x1_0.lt
      replace x2_0 := x2_0.below q9 x2_0.lt
      replace x4_0 := x4_0.below q9 x4_0.lt
      replace x5_0 := x5_0.below q9 x5_0.lt
      replace x6_0 := x6_0.below q9 x6_0.lt
      have bw9 : Below w.heap.size w w9 := bw8.trans (q9.mono bw8.size)
      have lw9 : w8.heap.size ≤ w9.heap.size := q9.size
      clear hb9 q9 bw8
      obtain ⟨cx1_0_0, cx1_0_1, cx1_0_2, cx1_0_3⟩ := x1_0.c4
      obtain ⟨lx1_0_0, lx1_0_1, lx1_0_2, lx1_0_3⟩ := lts0 x1_0.lt
      obtain ⟨lx2_0_0, lx2_0_1, lx2_0_2, lx2_0_3⟩ := lts0 x2_0.lt
      obtain ⟨cx4_0_0, cx4_0_1, cx4_0_2⟩ := x4_0.c3
      obtain ⟨lx4_0_0, lx4_0_1, lx4_0_2, lx4_0_3⟩ := lts0 x4_0.lt
      obtain ⟨cx5_0_0, cx5_0_1, cx5_0_2⟩ := x5_0.c3
      obtain ⟨lx5_0_0, lx5_0_1, lx5_0_2, lx5_0_3⟩ := lts0 x5_0.lt
      obtain ⟨cx6_0_0, cx6_0_1, cx6_0_2, cx6_0_3⟩ := x6_0.c4
      obtain ⟨lx6_0_0, lx6_0_1, lx6_0_2, lx6_0_3⟩ := lts0 x6_0.lt
      go_wp2_with fail
      go_region_held3 (fun w' => Sees w9.heap.size w9 w') (first | with_reducible exact Sees.of (Nat.le_refl _) (by assumption) | with_reducible exact Sees.of (Nat.le_refl _) (brefl _).drew | exact Sees.of (Nat.le_refl _) (below_drewN (brefl _) 1) | exact Sees.of (Nat.le_refl _) (below_drewN (by assumption) _))
        (first
          | (go_at_call 16; (with_reducible refine (u_Cos _ b A n c D m e x (⟨ra.q, x⟩) (6) ?_ ?_ ?_).mono ?_); (exact hTa); (first | omega | decide | assumption); (first | omega | decide | assumption); rintro e w10 ⟨b10, A10, n10, c10, A'10, n'10, c'10, rfl, h10, hb10⟩; replace hb10 := bnext (below_drewN (brefl _) 1) hb10; have q10 : Below w9.heap.size w9 w10 := bnext (brefl w9) hb10; replace Hra := Hra.belw hb10; replace hTa := hTa.belw hb10; replace h3 := h3.belw hb10; replace h4 := h4.belw hb10; replace h5 := h5.belw hb10)
          | (go_at_call 15; (with_reducible refine (b_rat_e _ b3 A3 n3 c3 A'3 n'3 c'3 (tcos (⟨ra.q, x⟩)) (4 * (6) + 4) ?_ b10 A10 n10 c10 A'10 n'10 c'10 (tcos ((⟨ra.q, x⟩))) (4 * (6) + 4) ?_  ?_ ?_).mono ?_); (exact h3); (exact h10); (rfl); (first | omega | decide | assumption); rintro e w11 ⟨rfl, hb11⟩; have q11 : Below w9.heap.size w9 w11 := bnext q10 hb11; replace Hra := Hra.belw hb11; replace hTa := hTa.belw hb11; replace h3 := h3.belw hb11; replace h4 := h4.belw hb11; replace h5 := h5.belw hb11; replace h10 := h10.belw hb11)
          | (go_at_call 17; (with_reducible refine (u_Sin _ b A n c D m e x (⟨ra.q, x⟩) (6) ?_ ?_ ?_).mono ?_); (exact hTa); (first | omega | decide | assumption); (first | omega | decide | assumption); rintro e w12 ⟨b12, A12, n12, c12, A'12, n'12, c'12, rfl, h12, hb12⟩; have q12 : Below w9.heap.size w9 w12 := bnext q11 hb12; replace Hra := Hra.belw hb12; replace hTa := hTa.belw hb12; replace h3 := h3.belw hb12; replace h4 := h4.belw hb12; replace h5 := h5.belw hb12; replace h10 := h10.belw hb12)
          | (go_at_call 15; (with_reducible refine (b_rat_e _ b4 A4 n4 c4 A'4 n'4 c'4 (tsin (⟨ra.q, x⟩)) (4 * (6) + 4) ?_ b12 A12 n12 c12 A'12 n'12 c'12 (tsin ((⟨ra.q, x⟩))) (4 * (6) + 4) ?_  ?_ ?_).mono ?_); (exact h4); (exact h12); (rfl); (first | omega | decide | assumption); rintro e w13 ⟨rfl, hb13⟩; have q13 : Below w9.heap.size w9 w13 := bnext q12 hb13; replace Hra := Hra.belw hb13; replace hTa := hTa.belw hb13; replace h3 := h3.belw hb13; replace h4 := h4.belw hb13; replace h5 := h5.belw hb13; replace h10 := h10.belw hb13; replace h12 := h12.belw hb13)
          | (go_at_call 19; (with_reducible refine (u_Neg _ b A n c D m e x (⟨ra.q, x⟩) (6) ?_ ?_ ?_).mono ?_); (exact hTa); (first | omega | decide | assumption); (first | omega | decide | assumption); rintro e w14 ⟨b14, A14, n14, c14, A'14, n'14, c'14, x14, rfl, h14, hb14⟩; have q14 : Below w9.heap.size w9 w14 := bnext q13 hb14; replace Hra := Hra.belw hb14; replace hTa := hTa.belw hb14; replace h3 := h3.belw hb14; replace h4 := h4.belw hb14; replace h5 := h5.belw hb14; replace h10 := h10.belw hb14; replace h12 := h12.belw hb14)
          | (go_at_call 18; (with_reducible refine (g_same_e _ b5 A5 n5 c5 A'5 n'5 c'5 x5 (tneg ((⟨ra.q, x⟩))) ((6)) ?_ b14 A14 n14 c14 A'14 n'14 c'14 x14 (tneg ((⟨ra.q, x⟩))) ((6)) ?_ true ?_ ?_ ?_ ?_ ?_).mono ?_); (exact h5.tk); (exact h14.tk); (exact ⟨fun _ => rfl, fun _ => rfl⟩); (first | omega | decide | assumption); (first | omega | decide | assumption); (first | omega | decide | assumption); (first | omega | decide | assumption); rintro e w15 ⟨rfl, hb15⟩; have q15 : Below w9.heap.size w9 w15 := bnext q14 hb15; replace Hra := Hra.belw hb15; replace hTa := hTa.belw hb15; replace h3 := h3.belw hb15; replace h4 := h4.belw hb15; replace h5 := h5.belw hb15; replace h10 := h10.belw hb15; replace h12 := h12.belw hb15; replace h14 := h14.belw hb15)
          | (go_at_call 20; (with_reducible refine (u_Text _ b A n c D m e x (⟨ra.q, x⟩) (6) ?_ (by decide) (by decide) T HT.out).mono ?_); (exact hTa); rintro e w16 ⟨rfl, hb16⟩; have q16 : Below w9.heap.size w9 w16 := bnext q15 hb16; replace Hra := Hra.belw hb16; replace hTa := hTa.belw hb16; replace h3 := h3.belw hb16; replace h4 := h4.belw hb16; replace h5 := h5.belw hb16; replace h10 := h10.belw hb16; replace h12 := h12.belw hb16; replace h14 := h14.belw hb16))
      have bw16 : Below w.heap.size w w16 := bw9.trans (q16.mono bw9.size)
      clear cx1_0_0 cx1_0_1 cx1_0_2 cx1_0_3 lx1_0_0 lx1_0_1 lx1_0_2 lx1_0_3 lx2_0_0 lx2_0_1 lx2_0_2 lx2_0_3 cx4_0_0 cx4_0_1 cx4_0_2 lx4_0_0 lx4_0_1 lx4_0_2 lx4_0_3 cx5_0_0 cx5_0_1 cx5_0_2 lx5_0_0 lx5_0_1 lx5_0_2 lx5_0_3 cx6_0_0 cx6_0_1 cx6_0_2 cx6_0_3 lx6_0_0 lx6_0_1 lx6_0_2 lx6_0_3
      replace x1_0 := x1_0.below q16 x1_0.lt
      replace x2_0 := x2_0.below q16 x2_0.lt
      replace x4_0 := x4_0.below q16 x4_0.lt
      replace x5_0 := x5_0.below q16 x5_0.lt
      replace x6_0 := x6_0.below q16 x6_0.lt
      have lw16 : w9.heap.size ≤ w16.heap.size := q16.size
      go_wp2_with fail
      go_ret
      exact retB rfl bw16
    · have hba : accT ra x = false := by revert hca; cases accT ra x <;> simp
      have HBAD := Lib.hid hba
      clear hca hba
      go_wp2_with fail
      (with_reducible refine (t_Cos_bad _ 6 b A n c D m e ra ?_ x ?_ ?_ ?_).mono ?_); (exact Hra); (decide); (decide); (exact HBAD.out); rintro e w3 ⟨rfl, hb3⟩
      clear cx1_0_0 cx1_0_1 cx1_0_2 cx1_0_3 lx1_0_0 lx1_0_1 lx1_0_2 lx1_0_3
      have q3 : Below w2.heap.size w2 w3 := hb3
      replace Hra := Hra.belw q3
      replace x1_0 := x1_0.below q3 x1_0.lt
      replace x2_0 := x2_0.below q3 x2_0.lt
      have bw3 : Below w.heap.size w w3 := bw2.trans (q3.mono bw2.size)
      have lw3 : w2.heap.size ≤ w3.heap.size := q3.size
      clear hb3 q3 bw2
      obtain ⟨cx1_0_0, cx1_0_1, cx1_0_2, cx1_0_3⟩ := x1_0.c4
      obtain ⟨lx1_0_0, lx1_0_1, lx1_0_2, lx1_0_3⟩ := lts0 x1_0.lt
      go_wp2_with fail
      (with_reducible refine (t_Sin_bad _ 6 b A n c D m e ra ?_ x ?_ ?_ ?_).mono ?_); (exact (Hra.belw ((Below.refl _ _).alloc (Nat.le_refl _) _))); (decide); (decide); (exact HBAD.out); rintro e w4 ⟨rfl, hb4⟩
      clear cx1_0_0 cx1_0_1 cx1_0_2 cx1_0_3 lx1_0_0 lx1_0_1 lx1_0_2 lx1_0_3
      have q4 : Below w3.heap.size w3 w4 := ((Below.refl _ _).alloc (Nat.le_refl _) _).trans (hb4.mono (by simp))
      replace Hra := Hra.belw q4
      replace x1_0 := x1_0.below q4 x1_0.lt
      replace x2_0 := x2_0.below q4 x2_0.lt
      have x4_0 : Blk w4 (w3.heap.size) 24 #[.bool false, .slice none 0 0, .slice none 0 0] := (blkAt _ _ _ (by simp)).below hb4 (by simp)
      have bw4 : Below w.heap.size w w4 := bw3.trans (q4.mono bw3.size)
      have lw4 : w3.heap.size + 1 ≤ w4.heap.size := by have := hb4.size; simp at this; omega
      clear hb4 q4 bw3
      obtain ⟨cx1_0_0, cx1_0_1, cx1_0_2, cx1_0_3⟩ := x1_0.c4
      obtain ⟨lx1_0_0, lx1_0_1, lx1_0_2, lx1_0_3⟩ := lts0 x1_0.lt
      go_wp2_with fail
      (with_reducible refine (t_Neg_bad _ 6 b A n c D m e ra ?_ x ?_ ?_ ?_).mono ?_); (exact (Hra.belw ((Below.refl _ _).alloc (Nat.le_refl _) _))); (decide); (decide); (exact HBAD.out); rintro e w5 ⟨rfl, hb5⟩
      clear cx1_0_0 cx1_0_1 cx1_0_2 cx1_0_3 lx1_0_0 lx1_0_1 lx1_0_2 lx1_0_3
      have q5 : Below w4.heap.size w4 w5 := ((Below.refl _ _).alloc (Nat.le_refl _) _).trans (hb5.mono (by simp))
      replace Hra := Hra.belw q5
      replace x1_0 := x1_0.below q5 x1_0.lt
      replace x2_0 := x2_0.below q5 x2_0.lt
      replace x4_0 := x4_0.below q5 x4_0.lt
      have x5_0 : Blk w5 (w4.heap.size) 24 #[.bool false, .slice none 0 0, .slice none 0 0] := (blkAt _ _ _ (by simp)).below hb5 (by simp)
      have bw5 : Below w.heap.size w w5 := bw4.trans (q5.mono bw4.size)
      have lw5 : w4.heap.size + 1 ≤ w5.heap.size := by have := hb5.size; simp at this; omega
      clear hb5 q5 bw4
      obtain ⟨cx1_0_0, cx1_0_1, cx1_0_2, cx1_0_3⟩ := x1_0.c4
      obtain ⟨lx1_0_0, lx1_0_1, lx1_0_2, lx1_0_3⟩ := lts0 x1_0.lt
      go_wp2_with fail
      (with_reducible refine (t_Text_bad _ 6 b A n c D m e ra ?_ x ?_ ?_ ?_).mono ?_); (exact (Hra.belw ((Below.refl _ _).alloc (Nat.le_refl _) _))); (decide); (decide); (exact HBAD.out); rintro e w6 ⟨rfl, hb6⟩
      clear cx1_0_0 cx1_0_1 cx1_0_2 cx1_0_3 lx1_0_0 lx1_0_1 lx1_0_2 lx1_0_3
      have q6 : Below w5.heap.size w5 w6 := ((Below.refl _ _).alloc (Nat.le_refl _) _).trans (hb6.mono (by simp))
      replace Hra := Hra.belw q6
      replace x1_0 := x1_0.below q6 x1_0.lt
      replace x2_0 := x2_0.below q6 x2_0.lt
      replace x4_0 := x4_0.below q6 x4_0.lt
      replace x5_0 := x5_0.below q6 x5_0.lt
      have x6_0 : Blk w6 (w5.heap.size) 26 #[.bool false, .slice none 0 0, .slice none 0 0, .bool false] := (blkAt _ _ _ (by simp)).below hb6 (by simp)
      have bw6 : Below w.heap.size w w6 := bw5.trans (q6.mono bw5.size)
      have lw6 : w5.heap.size + 1 ≤ w6.heap.size := by have := hb6.size; simp at this; omega
      clear hb6 q6 bw5
      obtain ⟨cx1_0_0, cx1_0_1, cx1_0_2, cx1_0_3⟩ := x1_0.c4
      obtain ⟨lx1_0_0, lx1_0_1, lx1_0_2, lx1_0_3⟩ := lts0 x1_0.lt
      go_wp2_with fail
      (with_reducible refine (g_chk_v _ b A n c D m e (ra) (6) ?_ x 2 ?_ ?_ ?_).mono ?_); (exact Hra); (exact if_neg (by rw [HBAD.out]; decide)); (first | omega | decide | assumption); (first | omega | decide | assumption); rintro e w7 ⟨rfl, hb7⟩
      clear cx1_0_0 cx1_0_1 cx1_0_2 cx1_0_3 lx1_0_0 lx1_0_1 lx1_0_2 lx1_0_3
      have q7 : Below w6.heap.size w6 w7 := hb7
      replace Hra := Hra.belw q7
      replace x1_0 := x1_0.below q7 x1_0.lt
      replace x2_0 := x2_0.below q7 x2_0.lt
      replace x4_0 := x4_0.below q7 x4_0.lt
      replace x5_0 := x5_0.below q7 x5_0.lt
      replace x6_0 := x6_0.below q7 x6_0.lt
      have bw7 : Below w.heap.size w w7 := bw6.trans (q7.mono bw6.size)
      have lw7 : w6.heap.size ≤ w7.heap.size := q7.size
      clear hb7 q7 bw6
      obtain ⟨cx1_0_0, cx1_0_1, cx1_0_2, cx1_0_3⟩ := x1_0.c4
      obtain ⟨lx1_0_0, lx1_0_1, lx1_0_2, lx1_0_3⟩ := lts0 x1_0.lt
      go_wp2_with fail
      (with_reducible refine (t_chk_bad _ b A n c D m e ra 6 ?_ ?_ ?_ x ?_).mono ?_); (exact Hra); (decide); (decide); (exact HBAD.out); rintro e w8 ⟨rfl, hb8⟩
      clear cx1_0_0 cx1_0_1 cx1_0_2 cx1_0_3 lx1_0_0 lx1_0_1 lx1_0_2 lx1_0_3
      have q8 : Below w7.heap.size w7 w8 := hb8
      replace Hra := Hra.belw q8
      replace x1_0 := x1_0.below q8 x1_0.lt
      replace x2_0 := x2_0.below q8 x2_0.lt
      replace x4_0 := x4_0.below q8 x4_0.lt
      replace x5_0 := x5_0.below q8 x5_0.lt
      replace x6_0 := x6_0.below q8 x6_0.lt
      have bw8 : Below w.heap.size w w8 := bw7.trans (q8.mono bw7.size)
      have lw8 : w7.heap.size ≤ w8.heap.size := q8.size
      clear hb8 q8 bw7
      go_wp2_with fail
      (with_reducible refine (b_num_err _ 2).mono ?_); rintro e w9 ⟨rfl, hb9⟩
      have q9 : Below w8.heap.size w8 w9 := hb9
      replace Hra := Hra.belw q9
      replace x1_0 := x1_0.below q9 x1_0.lt
      replace x2_0 := x2_0.below q9 x2_0.lt
      replace x4_0 := x4_0.below q9 x4_0.lt
      replace x5_0 := x5_0.below q9 x5_0.lt
      replace x6_0 := x6_0.below q9 x6_0.lt
      have bw9 : Below w.heap.size w w9 := bw8.trans (q9.mono bw8.size)
      have lw9 : w8.heap.size ≤ w9.heap.size := q9.size
      clear hb9 q9 bw8
      go_wp2_with fail
      have p10 : Kp w9 (w9.alloc (.cells #[.iface 71 (.int .i64 2), .iface 71 (.int .i64 2), .iface 71 (.int .i64 2), .iface 71 (.int .i64 2)] 30)) := ((Kp.refl w9).alloc (.cells #[.iface 71 (.int .i64 2), .iface 71 (.int .i64 2), .iface 71 (.int .i64 2), .iface 71 (.int .i64 2)] 30))
      have bw10 : Below w.heap.size w (w9.alloc (.cells #[.iface 71 (.int .i64 2), .iface 71 (.int .i64 2), .iface 71 (.int .i64 2), .iface 71 (.int .i64 2)] 30)) := (bw9.alloc (by first | omega | (simp <;> omega)) (.cells #[.iface 71 (.int .i64 2), .iface 71 (.int .i64 2), .iface 71 (.int .i64 2), .iface 71 (.int .i64 2)] 30))
      have x10_0 : Blk (w9.alloc (.cells #[.iface 71 (.int .i64 2), .iface 71 (.int .i64 2), .iface 71 (.int .i64 2), .iface 71 (.int .i64 2)] 30)) (w9.heap.size) 30 #[.iface 71 (.int .i64 2), .iface 71 (.int .i64 2), .iface 71 (.int .i64 2), .iface 71 (.int .i64 2)] := (blkAt _ _ _ (by simp))
      replace x1_0 : Blk (w9.alloc (.cells #[.iface 71 (.int .i64 2), .iface 71 (.int .i64 2), .iface 71 (.int .i64 2), .iface 71 (.int .i64 2)] 30)) (w.heap.size) 26 #[.bool b, .slice A n c, .slice D m e, .bool x] := (x1_0.alloc (.cells #[.iface 71 (.int .i64 2), .iface 71 (.int .i64 2), .iface 71 (.int .i64 2), .iface 71 (.int .i64 2)] 30))
      replace x2_0 : Blk (w9.alloc (.cells #[.iface 71 (.int .i64 2), .iface 71 (.int .i64 2), .iface 71 (.int .i64 2), .iface 71 (.int .i64 2)] 30)) (w1.heap.size) 24 #[.bool b, .slice A n c, .slice D m e] := (x2_0.alloc (.cells #[.iface 71 (.int .i64 2), .iface 71 (.int .i64 2), .iface 71 (.int .i64 2), .iface 71 (.int .i64 2)] 30))
      replace x4_0 : Blk (w9.alloc (.cells #[.iface 71 (.int .i64 2), .iface 71 (.int .i64 2), .iface 71 (.int .i64 2), .iface 71 (.int .i64 2)] 30)) (w3.heap.size) 24 #[.bool false, .slice none 0 0, .slice none 0 0] := (x4_0.alloc (.cells #[.iface 71 (.int .i64 2), .iface 71 (.int .i64 2), .iface 71 (.int .i64 2), .iface 71 (.int .i64 2)] 30))
      replace x5_0 : Blk (w9.alloc (.cells #[.iface 71 (.int .i64 2), .iface 71 (.int .i64 2), .iface 71 (.int .i64 2), .iface 71 (.int .i64 2)] 30)) (w4.heap.size) 24 #[.bool false, .slice none 0 0, .slice none 0 0] := (x5_0.alloc (.cells #[.iface 71 (.int .i64 2), .iface 71 (.int .i64 2), .iface 71 (.int .i64 2), .iface 71 (.int .i64 2)] 30))
      replace x6_0 : Blk (w9.alloc (.cells #[.iface 71 (.int .i64 2), .iface 71 (.int .i64 2), .iface 71 (.int .i64 2), .iface 71 (.int .i64 2)] 30)) (w5.heap.size) 26 #[.bool false, .slice none 0 0, .slice none 0 0, .bool false] := (x6_0.alloc (.cells #[.iface 71 (.int .i64 2), .iface 71 (.int .i64 2), .iface 71 (.int .i64 2), .iface 71 (.int .i64 2)] 30))
      have lw10 : w9.heap.size + 1 ≤ (w9.alloc (.cells #[.iface 71 (.int .i64 2), .iface 71 (.int .i64 2), .iface 71 (.int .i64 2), .iface 71 (.int .i64 2)] 30)).heap.size := by simp
      generalize hE10 : (w9.alloc (.cells #[.iface 71 (.int .i64 2), .iface 71 (.int .i64 2), .iface 71 (.int .i64 2), .iface 71 (.int .i64 2)] 30)) = w10 at p10 bw10 lw10 x10_0 x1_0 x2_0 x4_0 x5_0 x6_0 ⊢
      clear hE10
      replace Hra := Hra.keep p10
      clear bw9
      go_loopw [59] (fun iv wr => ∃ i : Nat, i ≤ 4 ∧ iv = .int .i64 (i : Nat) ∧ Below w10.heap.size w10 wr) (fun iv _ => 4 - (intOf iv).toNat)
      case atStart => exact ⟨0, Nat.zero_le _, rfl, brefl _⟩
      case round =>
        obtain ⟨i, hi, rfl, hb⟩ := hrel
        have HB := Lib.hid hb
        have y5 := x10_0.below hb x10_0.lt
        clear hb
        by_cases hlt : i < 4
        · have hcell : wr.cell? ⟨w9.heap.size, i, none⟩ = some (.iface 71 (.int .i64 2)) := (y5.cell i).trans (four_cells hlt)
          have hgl : w9.heap.size < wr.heap.size := y5.lt
          go_wp2_with (go_at_call 13; (with_reducible refine (b_num_err _ 2).mono ?_); rintro e w99 ⟨rfl, hb9⟩)
          go_roundw
          case rel => exact ⟨i + 1, by omega, by go_num, HB.out.trans (hb9.mono HB.out.size)⟩
          case measure => simp [intOf]; omega
        · obtain rfl : i = 4 := by omega
          have zx4_0 := x4_0.below HB.out x4_0.lt
          obtain ⟨kx4_0_0, kx4_0_1, kx4_0_2⟩ := zx4_0.c3
          have zx5_0 := x5_0.below HB.out x5_0.lt
          obtain ⟨kx5_0_0, kx5_0_1, kx5_0_2⟩ := zx5_0.c3
          have zx6_0 := x6_0.below HB.out x6_0.lt
          obtain ⟨kx6_0_0, kx6_0_1, kx6_0_2, kx6_0_3⟩ := zx6_0.c4
          go_wp2
          go_ret
          exact retB rfl (bw10.trans (HB.out.mono bw10.size))
end Go.Proofs.YtpnnfbodphflpaaGreatDoor

/- Roots: plain numbers. -/
namespace Bn
theorem pow_sq (k : Nat) : 2 ^ k * 2 ^ k = 2 ^ (2 * k) := by rw [← Nat.pow_add]; congr 1; omega
/-- Where Newton's steps begin. -/
theorem root_start {M N : Nat} (h : M < 2 ^ N) : isq M < 2 ^ ((N + 1) / 2) := by
  apply isq_lt_of_lt
  rw [pow_sq]
  exact Nat.lt_of_lt_of_le h (Nat.pow_le_pow_right (by omega) (by omega))
theorem isq_pos {M : Nat} (h : 0 < M) : 0 < isq M := by
  have h1 := lt_isq M
  rcases Nat.eq_zero_or_pos (isq M) with e | e
  · rw [e] at h1; omega
  · exact e
/-- How the root bit by bit stands, with i bits to come. -/
def RootI (M r i : Nat) : Prop := r * r ≤ M ∧ M < (r + 2 ^ i) * (r + 2 ^ i)
theorem RootI.start {M N : Nat} (h : M < 2 ^ N) : RootI M 0 (N / 2 + 1) := by
  refine ⟨Nat.zero_le _, ?_⟩
  rw [Nat.zero_add, pow_sq]
  exact Nat.lt_of_lt_of_le h (Nat.pow_le_pow_right (by omega) (by omega))
theorem RootI.yes {M r i : Nat} (h : RootI M r (i + 1)) (hx : (r + 2 ^ i) * (r + 2 ^ i) ≤ M) : RootI M (r + 2 ^ i) i := by
  refine ⟨hx, ?_⟩
  have h2 := h.2
  rw [show r + 2 ^ (i + 1) = r + 2 ^ i + 2 ^ i by rw [Nat.pow_succ]; omega] at h2
  exact h2
theorem RootI.no {M r i : Nat} (h : RootI M r (i + 1)) (hx : ¬ (r + 2 ^ i) * (r + 2 ^ i) ≤ M) : RootI M r i := ⟨h.1, by omega⟩
theorem RootI.fin {M r : Nat} (h : RootI M r 0) : isq M = r := isq_of h.1 (by have := h.2; simpa using this)
end Bn

/- Numbers of bits: plain numbers. -/
namespace Bn
/-- How many bits a number has. -/
def blen (M : Nat) : Nat := if M = 0 then 0 else M.log2 + 1
theorem blen_zero : blen 0 = 0 := rfl
theorem blen_of {M k : Nat} (h1 : 2 ^ k ≤ M) (h2 : M < 2 ^ (k + 1)) : blen M = k + 1 := by
  have h0 : M ≠ 0 := by have := Nat.pow_pos (n := k) (show 0 < 2 by omega); omega
  unfold blen
  rw [if_neg h0]
  have h3 := (Nat.le_log2 h0).2 h1
  have h4 := (Nat.log2_lt h0).2 h2
  omega
theorem lt_blen (M : Nat) : M < 2 ^ blen M := by
  unfold blen
  split
  · rename_i h; subst h; decide
  · exact Nat.lt_log2_self
theorem blen_word {x : Nat} (hx : x < 4294967296) : blen x = Go.Lib.bitLen x := by
  by_cases h0 : x = 0
  · subst h0; rfl
  · obtain ⟨a, b, c⟩ := Go.Lib.bitLenAux_bounds 64 x (by omega) h0
    unfold Go.Lib.bitLen
    obtain ⟨k, hk⟩ : ∃ k, Go.Lib.bitLenAux 64 x = k + 1 := ⟨_, (Nat.sub_add_cancel a).symm⟩
    rw [hk] at b c ⊢
    exact blen_of (by simpa using b) c
theorem blen_le {x : Nat} (hx : x < 4294967296) : blen x ≤ 32 := by
  unfold blen
  split
  · omega
  · rename_i h
    have := (Nat.log2_lt h).2 (show x < 2 ^ 32 by omega)
    omega
/-- The bits of a list are those of its last word and 32 for each other one. -/
theorem blen_list {l : List Nat} (h : Canon l) {m : Nat} (hl : l.length = m + 1) : blen (val l) = 32 * m + blen (wd l m) := by
  have hne : wd l m ≠ 0 := by
    have := h.last (by intro e; rw [e] at hl; simp at hl)
    rw [hl] at this
    simpa using this
  have e := Sm_ge l (Nat.le_refl _)
  rw [hl, Sm] at e
  have h1 : Sm (wd l) m < 4294967296 ^ m := Sm_lt (fun i _ => wd_lt h.1 i)
  have h2 : (4294967296 : Nat) ^ m = 2 ^ (32 * m) := by rw [Nat.pow_mul]
  rw [h2] at h1 e
  obtain ⟨t, ht⟩ : ∃ t, (wd l m).log2 = t := ⟨_, rfl⟩
  have h3 : 2 ^ t ≤ wd l m := by rw [← ht]; exact Nat.log2_self_le hne
  have h4 : wd l m < 2 ^ (t + 1) := by rw [← ht]; exact Nat.lt_log2_self
  rw [blen_of h3 h4]
  obtain ⟨P, hP⟩ : ∃ P, 2 ^ (32 * m) = P := ⟨_, rfl⟩
  rw [hP] at e h1
  have h5 : 2 ^ t * P ≤ wd l m * P := Nat.mul_le_mul_right _ h3
  have h6 : (wd l m + 1) * P ≤ 2 ^ (t + 1) * P := Nat.mul_le_mul_right _ h4
  rw [Nat.add_mul] at h6
  rw [← Nat.add_assoc]
  apply blen_of
  · rw [Nat.pow_add, hP, ← e, Nat.mul_comm P]; omega
  · rw [Nat.add_assoc, Nat.pow_add, hP, ← e, Nat.mul_comm P]; omega
theorem blen_lt {M k : Nat} (h : M < 2 ^ k) : blen M ≤ k := by
  unfold blen
  split
  · omega
  · rename_i h0
    have := (Nat.log2_lt h0).2 h
    omega
theorem blen_max {M n K : Nat} (hk : n ≤ K) (h : M < 4294967296 ^ n) : blen M ≤ 32 * K := by
  refine Nat.le_trans (blen_lt (k := 32 * n) ?_) (Nat.mul_le_mul_left _ hk)
  rw [Nat.pow_mul]; exact h
theorem wd_rep (n i : Nat) : wd (List.replicate n 0) i = 0 := by
  unfold wd
  simp only [List.getD, List.getElem?_replicate]
  split <;> rfl
theorem val_rep (n : Nat) : val (List.replicate n 0) = 0 := by
  induction n with
  | zero => rfl
  | succ n ih => rw [List.replicate_succ, val, ih]
/-- A power of 2 in words. -/
theorem root_first {i s j : Nat} (hi : j / 32 = i) (hs : j % 32 = s) : (List.replicate (i + 1) 0).set i (2 ^ s) = digs (2 ^ j) ∧ 2 ^ s < 4294967296 := by
  have h1 : 2 ^ s < 4294967296 := by
    have : 2 ^ s ≤ 2 ^ 31 := Nat.pow_le_pow_right (by omega) (by omega)
    omega
  refine ⟨?_, h1⟩
  have h2 : 0 < 2 ^ s := Nat.pow_pos (by omega)
  have hw : Wds ((List.replicate (i + 1) 0).set i (2 ^ s)) := wds_set (by intro x hx; rw [List.eq_of_mem_replicate hx]; omega) _ h1
  have hc : Canon ((List.replicate (i + 1) 0).set i (2 ^ s)) := by
    rw [canon_iff hw]
    right
    rw [wd_set]
    simp
  rw [← digs_val hc]
  congr 1
  have := val_set (List.replicate (i + 1) 0) i (2 ^ s) (by simp)
  rw [wd_rep, val_rep] at this
  rw [← pow_split j, hi, hs, Nat.mul_comm]
  omega
end Bn

/- Walks: numbers of bits. -/
namespace Go.Proofs.YtpnnfbodphflpaaGreatDoor
open Go Go.RowKit Bn

set_option maxRecDepth 100000 in
set_option maxHeartbeats 1000000 in
/-- linkworkref01.bits, exactly -/
theorem r_bits_x (w : World) (A : Option Addr) (n c : Nat) (l : List Nat) (wa : Wd w A n c l) (hn : n ≤ 1099511627776) (hcl : Canon l) :
    Calls Tryz.prog 171 #[.slice A n c] w (RetV w (.int .i64 (blen (val l) : Nat))) := by
  have HL := Lib.hid wa.2.1
  by_cases h0 : n = 0
  · subst h0
    have HE := Lib.hid (show val l = 0 by rw [List.eq_nil_of_length_eq_zero HL.out.symm]; rfl)
    clear wa
    go_enter Tryz.func171, Tryz.ntmps171
    go_wp2
    go_ret
    exact ⟨by rw [HE.out]; rfl, brefl _⟩
  · obtain ⟨g, o, rfl, hgl, hc⟩ := wa.at2 (by omega)
    have hck := hc (n - 1) (by omega)
    have hlt := wa.lt (n - 1)
    have hp : 0 < n := by omega
    obtain ⟨x0, hx0⟩ : ∃ x, wd l (n - 1) = x := ⟨_, rfl⟩
    have hbl : blen (val l) = 32 * (n - 1) + blen x0 := by
      rw [← hx0]; exact blen_list hcl (by rw [← HL.out]; omega)
    have HB := Lib.hid hbl
    rw [hx0] at hck hlt
    clear hc h0 hx0 wa hbl
    have hn0 : ((n : Int) == 0) = false := by simp; omega
    go_enter Tryz.func171, Tryz.ntmps171
    go_wp2_with fail
    go_loop [3, 4] (fun nv xv => ∃ (t x : Nat), t ≤ 32 ∧ nv = .int .i64 ((32 * (n - 1) + t : Nat) : Int) ∧ xv = .int .u32 (x : Nat) ∧ x < 4294967296 ∧ x = x0 / 2 ^ t ∧ (t = 0 ∨ 2 ^ (t - 1) ≤ x0)) (fun _ xv => (intOf xv).toNat)
    case atStart => exact ⟨0, x0, by omega, by congr 1; omega, rfl, hlt, by simp, .inl rfl⟩
    case round =>
      obtain ⟨t, x, ht, rfl, rfl, hx, he, hlow⟩ := hrel
      have HE := Lib.hid he
      have HLO := Lib.hid hlow
      clear he hlow
      by_cases hz : x = 0
      · subst hz
        go_wp2
        go_ret
        refine ⟨?_, brefl _⟩
        have h1 : x0 < 2 ^ t := by
          have := HE.out
          rcases Nat.lt_or_ge x0 (2 ^ t) with h | h
          · exact h
          · have := Nat.div_pos h (Nat.pow_pos (by omega)); omega
        have h2 : blen x0 = t := by
          rcases HLO.out with e | e
          · subst e
            have : x0 = 0 := by simpa using h1
            subst this; rfl
          · rcases Nat.eq_zero_or_pos t with e0 | e0
            · subst e0
              have : x0 = 0 := by simpa using h1
              subst this; rfl
            · obtain ⟨s, rfl⟩ : ∃ s, t = s + 1 := ⟨t - 1, by omega⟩
              exact blen_of e h1
        rw [HB.out, h2]
        rfl
      · have ht2 : t < 32 := by
          rcases Nat.lt_or_ge t 32 with h | h
          · exact h
          · exfalso
            have e : t = 32 := by omega
            have := HE.out
            rw [e] at this
            have : x = 0 := by rw [this]; exact Nat.div_eq_of_lt hlt
            omega
        have hxp : 0 < x := by omega
        have HXP := Lib.hid (show 2 ^ t ≤ x0 by
          rcases Nat.lt_or_ge x0 (2 ^ t) with h | h
          · have := HE.out; rw [Nat.div_eq_of_lt h] at this; omega
          · exact h)
        go_wp2
        go_round
        case rel => exact ⟨t + 1, x / 2, by omega, by congr 1 <;> omega, by congr 1 <;> omega, by omega, by rw [HE.out, Nat.pow_succ, Nat.div_div_eq_div_mul], .inr HXP.out⟩
        case measure => simp [intOf]; omega
/-- bits.Len32 of a word -/
theorem len32_c (w : World) (x : Nat) (hx : x < 4294967296) : Calls Tryz.prog 139 #[.int .u32 (x : Nat)] w (RetV w (.int .i64 (blen x : Nat))) :=
  (Tryz.bits_Len32 x w (by omega) (by omega)).mono fun e w' ⟨he, hw⟩ => ⟨by rw [he, blen_word hx]; rfl, hw ▸ Below.refl _ _⟩
set_option maxRecDepth 100000 in
set_option maxHeartbeats 1000000 in
/-- integer.Bits -/
theorem bits_C (w : World) (b : Bool) (A : Option Addr) (n c : Nat) (l : List Nat) (wa : Wd w A n c l) (hn : n ≤ 1099511627000) :
    Calls Tryz.prog 102 #[.agg #[.bool b, .slice A n c]] w (RetV w (.int .i64 (blen (WD.z ⟨b, l⟩).natAbs : Nat))) := by
  have HL := Lib.hid wa.2.1
  have hcm : Canon (WD.m ⟨b, l⟩) := WD.canon_m wa.1
  obtain ⟨lm, hlm⟩ : ∃ lm, WD.m ⟨b, l⟩ = lm := ⟨_, rfl⟩
  rw [z_nat, hlm]
  rw [hlm] at hcm
  have HM := Lib.hid hlm
  have HC := Lib.hid hcm
  have b0 : Below w.heap.size w (w.alloc (.cells #[.bool b, .slice A n c] 48)) := (Below.refl _ _).alloc (Nat.le_refl _) _
  clear hlm hcm
  by_cases h0 : lm = []
  · subst h0
    go_enter Tryz.func102, Tryz.ntmps102
    go_wp2_with (go_at_call 66; (with_reducible refine (mag_c _ b A n c l ?_ ?_).mono ?_); (exact wa.belw b0); (omega); rintro e w1 ⟨A1, n1, c1, rfl, h1, hb1⟩; rw [HM.out] at h1; obtain rfl : n1 = 0 := h1.2.1)
    go_ret
    exact ⟨rfl, b0.trans (hb1.mono b0.size)⟩
  · obtain ⟨m, hm⟩ : ∃ m, lm.length = m + 1 := ⟨lm.length - 1, by have := List.length_pos_iff.2 h0; omega⟩
    have HB := Lib.hid (blen_list HC.out hm)
    obtain ⟨x, hx⟩ : ∃ x, wd lm m = x := ⟨_, rfl⟩
    have hx1 : x < 4294967296 := by rw [← hx]; exact wd_lt HC.out.1 m
    have HX := Lib.hid hx
    have hbx : blen x ≤ 32 := blen_le hx1
    clear h0 hx
    go_enter Tryz.func102, Tryz.ntmps102
    go_wp2_with (first
      | (go_at_call 66; (with_reducible refine (mag_c _ b A n c l ?_ ?_).mono ?_); (exact wa.belw b0); (omega); rintro e w1 ⟨A1, n1, c1, rfl, h1, hb1⟩; have hn1 : n1 ≤ 1099511627000 := h1.m_len (by rw [← HL.out]; exact hn); rw [HM.out] at h1; obtain rfl : n1 = m + 1 := h1.2.1.trans hm; obtain ⟨g, o, rfl, hgl, hcc⟩ := h1.at2 (by omega); have hck := hcc m (by omega); rw [HX.out] at hck; clear hcc)
      | (go_at_call 139; (with_reducible refine (len32_c _ x hx1).mono ?_); rintro e w2 ⟨rfl, hb2⟩))
    go_ret
    exact ⟨by rw [HB.out, HX.out]; rfl, (b0.trans (hb1.mono b0.size)).trans (hb2.mono (by have := hb1.size; have := b0.size; omega))⟩
end Go.Proofs.YtpnnfbodphflpaaGreatDoor

/- Walks: integer.Root. -/
namespace Go.Proofs.YtpnnfbodphflpaaGreatDoor
open Go Go.RowKit Bn

/-- An integer returned with something beside it. -/
def RetIe (w : World) (v : Value) (z : Int) (k : Nat) (e : Ending) (w' : World) : Prop := ∃ b A n c, e = .returned (.tuple #[.agg #[.bool b, .slice A n c], v]) ∧ IV w' b A n c z k ∧ Below w.heap.size w w'
/-- The root of an integer, and what is wrong with it. -/
def rootZ (z : Int) : Int := if z < 0 then 0 else (isq z.natAbs : Nat)
def rootE (z : Int) : Value := if z < 0 then .iface 71 (.int .i64 3) else .nilIface
theorem root_lt {z : Int} {k : Nat} (h : z.natAbs < 4294967296 ^ k) : (rootZ z).natAbs < 4294967296 ^ k := by
  unfold rootZ
  split
  · simp only [Int.natAbs_zero]; omega
  · simp only [Int.natAbs_natCast]
    refine Nat.lt_of_le_of_lt ?_ h
    have := isq_le z.natAbs
    rcases Nat.eq_zero_or_pos (isq z.natAbs) with e | e
    · omega
    · exact Nat.le_trans (Nat.le_mul_of_pos_right _ e) this
theorem down_1 (w : World) (A : Option Addr) (n c v : Nat) (wa : Wd w A n c (digs v)) (hn : n ≤ 1099511627776) :
    Calls Tryz.prog 103 #[.slice A n c, .int .i64 1] w (RetL w (digs (v / 2))) := by
  have := down_c w A n c (digs v) wa hn 1 (by omega)
  rw [val_digs, Nat.pow_one] at this
  exact this
theorem digs_n {w w1 : World} {A : Option Addr} {n c v k : Nat} (h : Wd w A n c (digs v)) {u : Nat} (hv : v ≤ u) {A' : Option Addr} {n' c' : Nat} (h' : Wd w1 A' n' c' (digs u)) (hk : n' ≤ k) : n ≤ k := by
  rw [h.2.1]
  refine Nat.le_trans (length_digs_le (Nat.lt_of_le_of_lt hv ?_)) hk
  have := h'.vlt (Nat.le_refl _)
  rwa [val_digs] at this
theorem digs_add_n {w w1 w2 : World} {A : Option Addr} {n c u v : Nat} (h : Wd w A n c (digs (u + v))) {A' : Option Addr} {n' c' : Nat} (h' : Wd w1 A' n' c' (digs u)) {A2 : Option Addr} {n2 c2 : Nat} (h2 : Wd w2 A2 n2 c2 (digs v)) : n ≤ n' + n2 + 1 := by
  rw [h.2.1]
  apply length_digs_le
  have h3 := h'.vlt (Nat.le_refl _)
  have h4 := h2.vlt (Nat.le_refl _)
  rw [val_digs] at h3 h4
  have h5 : 4294967296 ^ n' ≤ 4294967296 ^ (n' + n2) := Nat.pow_le_pow_right (by omega) (by omega)
  have h6 : 4294967296 ^ n2 ≤ 4294967296 ^ (n' + n2) := Nat.pow_le_pow_right (by omega) (by omega)
  rw [Nat.pow_succ]
  omega
/-- How Newton's loop stands. -/
def NewtI (M K : Nat) (W0 wr : World) (x : Value) : Prop := ∃ A1 n1 c1 X, x = .slice A1 n1 c1 ∧ n1 ≤ K ∧ Kept (Wd wr A1 n1 c1 (digs X) ∧ isq M ≤ X ∧ 0 < X) ∧ Below W0.heap.size W0 wr
set_option maxRecDepth 100000 in
set_option maxHeartbeats 4000000 in
/-- integer.Root -/
theorem root_C (w : World) (b : Bool) (A : Option Addr) (n c : Nat) (l : List Nat) (k : Nat) (wa : Wd w A n c l) (hk : n ≤ k) (hn : k ≤ 1000000000) :
    Calls Tryz.prog 53 #[.agg #[.bool b, .slice A n c]] w (RetIe w (rootE (WD.z ⟨b, l⟩)) (rootZ (WD.z ⟨b, l⟩)) k) := by
  have hzlt : (rootZ (WD.z ⟨b, l⟩)).natAbs < 4294967296 ^ k := root_lt (WD.z_lt wa hk)
  have HL := Lib.hid wa.2.1
  have HZL := Lib.hid hzlt
  have hcm : Canon (WD.m ⟨b, l⟩) := WD.canon_m wa.1
  obtain ⟨M, hM⟩ : ∃ M, WD.m ⟨b, l⟩ = digs M := ⟨_, (digs_val hcm).symm⟩
  have hze := WD.z_eq ⟨b, l⟩
  rw [hM, val_digs] at hze
  obtain ⟨Z, hZ⟩ : ∃ Z, WD.z ⟨b, l⟩ = Z := ⟨_, rfl⟩
  rw [hZ] at hze hzlt ⊢
  have HZ := Lib.hid hZ
  have HM := Lib.hid hM
  have b1 : Below w.heap.size w ((w.alloc (.cells #[.bool b, .slice A n c] 48)).alloc (.cells #[.bool false, .slice none 0 0] 48)) := ((Below.refl _ _).alloc (Nat.le_refl _) _).alloc (by simp) _
  have x1 : Blk ((w.alloc (.cells #[.bool b, .slice A n c] 48)).alloc (.cells #[.bool false, .slice none 0 0] 48)) w.heap.size 48 #[.bool b, .slice A n c] := (blkAt _ _ _ rfl).alloc _
  have y1 : Blk ((w.alloc (.cells #[.bool b, .slice A n c] 48)).alloc (.cells #[.bool false, .slice none 0 0] 48)) (w.heap.size + 1) 48 #[.bool false, .slice none 0 0] := blkAt _ _ _ (by simp)
  clear hzlt hM hcm hZ
  cases hs : WD.s ⟨b, l⟩ with
  | true =>
    have HS := Lib.hid hs
    rw [hs] at hze
    have hMp : 0 < M := by
      rcases Nat.eq_zero_or_pos M with e | e
      · exfalso
        have h1 := HM.out
        rw [e, digs_zero] at h1
        unfold WD.s at hs
        unfold WD.m at h1
        cases ho : WD.ok ⟨b, l⟩
        · rw [ho] at hs; exact absurd hs (by simp)
        · rw [ho] at hs h1
          simp only [if_true] at h1
          simp only [Bool.true_and] at hs
          subst hs
          subst h1
          exact absurd ho (by decide)
      · exact e
    have hZn : Z < 0 := by rw [hze]; simp [sgn]; omega
    have hRE : rootE Z = .iface 71 (.int .i64 3) := by unfold rootE; rw [if_pos hZn]
    have hRZ : rootZ Z = 0 := by unfold rootZ; rw [if_pos hZn]
    rw [hRE, hRZ]
    clear hRE hRZ hZn hze hMp hs
    go_enter Tryz.func53, Tryz.ntmps53
    go_wp2_with (go_at_call 71; (with_reducible refine (neg_e _ b A n c l true ?_ ?_ HS.out).mono ?_); (exact wa.belw b1); (omega); rintro e w2 ⟨rfl, hb2⟩; have x2 := x1.below hb2 x1.lt; have y2 := y1.below hb2 y1.lt; obtain ⟨cx0, cx1⟩ := x2.c2; obtain ⟨cy0, cy1⟩ := y2.c2; obtain ⟨fy0, fy1⟩ := y2.f2)
    refine bodyPost_ret (v := .tuple #[.agg #[.bool false, .slice none 0 0], .iface 71 (.int .i64 3)]) (by simp [results, Tryz.results53, go_sem, *] <;> first | rfl | exact ⟨rfl, rfl⟩) rfl ?_
    exact ⟨_, _, _, _, rfl, IV.zero _ _, ((b1.trans (hb2.mono b1.size)).setCell (by dsimp only; omega) _).setCell (by dsimp only; omega) _⟩
  | false =>
    have HS := Lib.hid hs
    rw [hs] at hze
    have hZM : Z = M := by rw [hze]; rfl
    have hZn : ¬ Z < 0 := by omega
    have hRE : rootE Z = .nilIface := by unfold rootE; rw [if_neg hZn]
    have hRZ : rootZ Z = (isq M : Nat) := by unfold rootZ; rw [if_neg hZn, show Z.natAbs = M by omega]
    rw [hRE, hRZ]
    have HR := Lib.hid hRZ
    clear hRE hRZ hZn hze hs
    by_cases hM0 : M = 0
    · subst hM0
      go_enter Tryz.func53, Tryz.ntmps53
      go_wp2_with (first
        | (go_at_call 71; (with_reducible refine (neg_e _ b A n c l false ?_ ?_ HS.out).mono ?_); (exact wa.belw b1); (omega); rintro e w2 ⟨rfl, hb2⟩; have x2 := x1.below hb2 x1.lt; have y2 := y1.below hb2 y1.lt; have b2 := b1.trans (hb2.mono b1.size); obtain ⟨cx0, cx1⟩ := x2.c2)
        | (go_at_call 66; (with_reducible refine (mag_c _ b A n c l ?_ ?_).mono ?_); (exact wa.belw b2); (omega); rintro e w3 ⟨A1, n1, c1, rfl, h1, hb3⟩; rw [HM.out, digs_zero] at h1; obtain rfl : n1 = 0 := h1.2.1; have b3 := b2.trans (hb3.mono b2.size); have y3 := y2.below hb3 y2.lt; obtain ⟨cy0, cy1⟩ := y3.c2; obtain ⟨fy0, fy1⟩ := y3.f2))
      refine bodyPost_ret (v := .tuple #[.agg #[.bool false, .slice none 0 0], .nilIface]) (by simp [results, Tryz.results53, go_sem, *] <;> first | rfl | exact ⟨rfl, rfl⟩) rfl ?_
      exact ⟨_, _, _, _, rfl, by rw [show isq 0 = 0 from rfl]; exact IV.zero _ _, (b3.setCell (by dsimp only; omega) _).setCell (by dsimp only; omega) _⟩
    · have hMp : 0 < M := Nat.pos_of_ne_zero hM0
      obtain ⟨N, hN⟩ : ∃ N, blen M = N := ⟨_, rfl⟩
      have hNz : blen (WD.z ⟨b, l⟩).natAbs = N := by rw [HZ.out, hZM]; simpa using hN
      obtain ⟨j, hj⟩ : ∃ j, (N + 1) / 2 = j := ⟨_, rfl⟩
      obtain ⟨i, hi⟩ : ∃ i, j / 32 = i := ⟨_, rfl⟩
      obtain ⟨s, hs⟩ : ∃ s, j % 32 = s := ⟨_, rfl⟩
      have hs32 : s < 32 := by omega
      have e3 : ((N : Int) + 1) / 2 = (j : Int) := by omega
      have e4 : (j : Int) / 32 = (i : Int) := by omega
      have e5 : (j : Int) % 32 = (s : Int) := by omega
      have HI := Lib.hid hi
      have HSS := Lib.hid hs
      have hN2 : N ≤ 32 * 1000000000 := by rw [← hN]; exact blen_max (Nat.le_trans hk hn) (by have := WD.z_lt (b := b) wa (Nat.le_refl n); rw [HZ.out, hZM] at this; simpa using this)
      have HN := Lib.hid hN
      have HNZ := Lib.hid hNz
      have HJ := Lib.hid hj
      have HMP := Lib.hid hMp
      clear hM0 hMp hN hNz hi hs hj
      have hi2 : i ≤ 1000000000 := by have := HI.out; have := HJ.out; omega
      go_enter Tryz.func53, Tryz.ntmps53
      go_wp2_with (first
        | (go_at_call 71; (with_reducible refine (neg_e _ b A n c l false ?_ ?_ HS.out).mono ?_); (exact wa.belw b1); (omega); rintro e w2 ⟨rfl, hb2⟩; have x2 := x1.below hb2 x1.lt; have y2 := y1.below hb2 y1.lt; have b2 := b1.trans (hb2.mono b1.size); obtain ⟨cx0, cx1⟩ := x2.c2)
        | (go_at_call 66; (with_reducible refine (mag_c _ b A n c l ?_ ?_).mono ?_); (exact wa.belw b2); (omega); rintro e w3 ⟨A1, n1, c1, rfl, h1, hb3⟩; have hn1 : n1 ≤ k := h1.m_len (by rw [← HL.out]; exact hk); rw [HM.out] at h1; have e1 : ((n1 : Int) == 0) = false := (by have h9 : n1 ≠ 0 := (fun e => by have h8 := h1.2.1; rw [e] at h8; exact absurd (digs_eq_nil.1 (List.eq_nil_of_length_eq_zero h8.symm)) (by have := HMP.out; omega)); simp; exact h9); have b3 := b2.trans (hb3.mono b2.size); have x3 := x2.below hb3 x2.lt; have y3 := y2.below hb3 y2.lt; clear cx0 cx1; obtain ⟨cx0, cx1⟩ := x3.c2)
        | (go_at_call 102; (with_reducible refine (bits_C _ b A n c l ?_ ?_).mono ?_); (exact wa.belw b3); (omega); rw [HNZ.out]; rintro e w4 ⟨rfl, hb4⟩; have b4 := b3.trans (hb4.mono b3.size); have y4 := y3.below hb4 y3.lt; have h4 := h1.belw hb4)
        | (at_make; refine wpList_make_words _ rfl _ _ rfl _ _ _ _ (i + 1) rfl rfl (by omega) (by omega) (by omega) ?_; have z5 := Blk.new w4 84 (cellsOf (List.replicate (i + 1) 0)); have fz := z5.frozen i; have cz := z5.cell i; rw [cellsOf_get (by simp)] at cz))
      have z6 : Blk (w4.alloc (.cells ((cellsOf (List.replicate (i + 1) 0)).setIfInBounds i (.int .u32 (2 ^ s % 4294967296))) 84)) w4.heap.size 84 (cellsOf (digs (2 ^ j))) := by
        obtain ⟨h5, h6⟩ := root_first HI.out HSS.out
        rw [← h5, ← cellsOf_set]
        have : (2 ^ s % 4294967296 : Int) = ((2 ^ s : Nat) : Int) := by
          have hh : ((2 : Int) ^ s) = ((2 ^ s : Nat) : Int) := by simp
          rw [hh]
          clear hh
          generalize 2 ^ s = p at h6 ⊢
          omega
        rw [this]
        exact Blk.new _ _ _
      have b6 : Below w4.heap.size w4 (w4.alloc (.cells ((cellsOf (List.replicate (i + 1) 0)).setIfInBounds i (.int .u32 (2 ^ s % 4294967296))) 84)) := (Below.refl _ _).alloc (Nat.le_refl _) _
      clear z5 fz cz
      generalize (w4.alloc (.cells ((cellsOf (List.replicate (i + 1) 0)).setIfInBounds i (.int .u32 (2 ^ s % 4294967296))) 84)) = W5 at z6 b6 ⊢
      have h6 := h4.belw b6
      have b7 := b4.trans (b6.mono b4.size)
      have y6 := y4.below b6 y4.lt
      have w6 := z6.wd_ (canon_digs (2 ^ j)).1
      have hl6 : (digs (2 ^ j)).length = i + 1 := by
        rw [← (root_first HI.out HSS.out).1]; simp
      rw [hl6] at w6
      have hst : isq M ≤ 2 ^ j := by
        have := root_start (M := M) (N := N) (by rw [← HN.out]; exact lt_blen M)
        rw [HJ.out] at this
        omega
      have hat : NewtI M (i + 1) W5 W5 (.slice (some ⟨w4.heap.size, 0, none⟩) (i + 1) (i + 1)) := ⟨_, _, _, 2 ^ j, rfl, Nat.le_refl _, ⟨w6, hst, Nat.pow_pos (by omega)⟩, brefl _⟩
      clear z6 w6 hst hl6 e3 e4 e5 b6 h4 y4 cx0 cx1 x3 y3 x2 y2
      go_loopw [6] (fun xv wr => NewtI M (i + 1) W5 wr xv) (fun xv wr => valOf wr xv)
      case atStart => exact hat
      case round =>
        obtain ⟨A5, n5, c5, X, rfl, hn5, hK, rr⟩ := hrel
        have hm5 : valOf wr (.slice A5 n5 c5) = X := by rw [hK.1.valOf, val_digs]
        obtain ⟨Y, hY⟩ : ∃ Y, (X + M / X) / 2 = Y := ⟨_, rfl⟩
        have HY := Lib.hid hY
        have HX0 := Lib.hid (show val (digs X) ≠ 0 by rw [val_digs]; have := hK.2.2; omega)
        have hm6 := h6.belw rr
        clear hY
        by_cases hXY : X ≤ Y
        · obtain ⟨kk, hkk⟩ : ∃ kk, cmpN Y X = kk := ⟨_, rfl⟩
          have e7 : (0 ≤ kk) = True := by rw [← hkk, cmpN_le]; simpa using hXY
          have HKK := Lib.hid hkk
          have HS2 := Lib.hid (newton_end hK.2.2 hK.2.1 (by rw [HY.out]; exact hXY))
          clear hkk hXY
          have y7 := y6.below rr y6.lt
          go_wp2_with (first
            | (go_at_call 100; (with_reducible refine (divide_c _ A1 n1 c1 (digs M) ?_ ?_ A5 n5 c5 (digs X) ?_ ?_ ?_ ?_ ?_).mono ?_); (exact hm6); omega; (exact hK.1); omega; (exact canon_digs _); (exact canon_digs _); (exact HX0.out); rintro e w7 ⟨A6, n6, c6, A7, n7, c7, rfl, h7, h8, hb7⟩; rw [val_digs, val_digs] at h7 h8; have hn6 : n6 ≤ k := digs_n h7 (Nat.div_le_self _ _) hm6 hn1; have h9 := hK.1.belw hb7; have y8 := y7.below hb7 y7.lt)
            | (go_at_call 59; (with_reducible refine (plus_c _ A5 n5 c5 (digs X) ?_ ?_ A6 n6 c6 (digs (M / X)) ?_ ?_).mono ?_); (exact h9); omega; (exact h7); omega; rintro e w8 ⟨A8, n8, c8, rfl, h10, hb8⟩; rw [val_digs, val_digs] at h10; have hn8 : n8 ≤ 1099511627776 := Nat.le_trans (digs_add_n h10 h9 h7) (by omega))
            | (go_at_call 103; (with_reducible refine (down_1 _ A8 n8 c8 (X + M / X) ?_ ?_).mono ?_); (exact h10); omega; rintro e w9 ⟨A9, n9, c9, rfl, h11, hb9⟩; rw [HY.out] at h11; have hn9 : n9 ≤ 1099511627776 := digs_n h11 (by rw [← HY.out]; exact Nat.div_le_self _ _) h10 hn8)
            | (go_at_call 77; (with_reducible refine (compare_e _ A9 n9 c9 (digs Y) ?_ ?_ A5 n5 c5 (digs X) ?_ ?_ ?_ ?_ kk ?_).mono ?_); (exact h11); omega; (exact (h9.belw hb8).belw hb9); omega; (exact canon_digs _); (exact canon_digs _); (rw [val_digs, val_digs]; exact HKK.out); rintro e w10 ⟨rfl, hb10⟩)
            | (go_at_call 62; (with_reducible refine (whole_e _ false A5 n5 c5 (digs X) (isq M : Nat) ?_ ?_ ?_).mono ?_); (exact ((h9.belw hb8).belw hb9).belw hb10); omega; (rw [val_digs, HS2.out]; rfl); rintro e w11 ⟨A11, n11, c11, rfl, h12, hb11⟩; have y11 := (((y8.below hb8 y8.lt).below hb9 (Nat.lt_of_lt_of_le y8.lt hb8.size)).below hb10 (Nat.lt_of_lt_of_le y8.lt (Nat.le_trans hb8.size hb9.size))).below hb11 (Nat.lt_of_lt_of_le y8.lt (Nat.le_trans (Nat.le_trans hb8.size hb9.size) hb10.size)); obtain ⟨cy0, cy1⟩ := y11.c2; obtain ⟨fy0, fy1⟩ := y11.f2))
          have bb : Below wr.heap.size wr w11 := (((hb7.trans (hb8.mono hb7.size)).trans (hb9.mono (Nat.le_trans hb7.size hb8.size))).trans (hb10.mono (Nat.le_trans (Nat.le_trans hb7.size hb8.size) hb9.size))).trans (hb11.mono (Nat.le_trans (Nat.le_trans (Nat.le_trans hb7.size hb8.size) hb9.size) hb10.size))
          have bt := (b7.trans (rr.mono b7.size)).trans (bb.mono (Nat.le_trans b7.size rr.size))
          refine bodyPost_ret (v := .tuple #[.agg #[.bool _, .slice A11 n11 c11], .nilIface]) (by simp [results, Tryz.results53, go_sem, *] <;> first | rfl | exact ⟨rfl, rfl⟩) rfl ?_
          refine ⟨_, _, _, _, rfl, (IV.mk_ (h12.keep (kp2 ⟨_, _, y11⟩ (by decide) _ _ _ _)) rfl ?_), (bt.setCell (by dsimp only; omega) _).setCell (by dsimp only; omega) _⟩
          rw [← HR.out, ← HZ.out]
          exact HZL.out
        · obtain ⟨kk, hkk⟩ : ∃ kk, cmpN Y X = kk := ⟨_, rfl⟩
          have e7 : (0 ≤ kk) = False := by rw [← hkk, cmpN_le]; simpa using hXY
          have HKK := Lib.hid hkk
          have HNG := Lib.hid (newton_ge (m := M) hK.2.2)
          have HLT := Lib.hid (Nat.lt_of_not_le hXY)
          have y7 := y6.below rr y6.lt
          clear hkk hXY
          go_wp2_with (first
            | (go_at_call 100; (with_reducible refine (divide_c _ A1 n1 c1 (digs M) ?_ ?_ A5 n5 c5 (digs X) ?_ ?_ ?_ ?_ ?_).mono ?_); (exact hm6); omega; (exact hK.1); omega; (exact canon_digs _); (exact canon_digs _); (exact HX0.out); rintro e w7 ⟨A6, n6, c6, A7, n7, c7, rfl, h7, h8, hb7⟩; rw [val_digs, val_digs] at h7 h8; have hn6 : n6 ≤ k := digs_n h7 (Nat.div_le_self _ _) hm6 hn1; have h9 := hK.1.belw hb7; have y8 := y7.below hb7 y7.lt)
            | (go_at_call 59; (with_reducible refine (plus_c _ A5 n5 c5 (digs X) ?_ ?_ A6 n6 c6 (digs (M / X)) ?_ ?_).mono ?_); (exact h9); omega; (exact h7); omega; rintro e w8 ⟨A8, n8, c8, rfl, h10, hb8⟩; rw [val_digs, val_digs] at h10; have hn8 : n8 ≤ 1099511627776 := Nat.le_trans (digs_add_n h10 h9 h7) (by omega))
            | (go_at_call 103; (with_reducible refine (down_1 _ A8 n8 c8 (X + M / X) ?_ ?_).mono ?_); (exact h10); omega; rintro e w9 ⟨A9, n9, c9, rfl, h11, hb9⟩; rw [HY.out] at h11; have hn9 : n9 ≤ 1099511627776 := digs_n h11 (by rw [← HY.out]; exact Nat.div_le_self _ _) h10 hn8)
            | (go_at_call 77; (with_reducible refine (compare_e _ A9 n9 c9 (digs Y) ?_ ?_ A5 n5 c5 (digs X) ?_ ?_ ?_ ?_ kk ?_).mono ?_); (exact h11); omega; (exact (h9.belw hb8).belw hb9); omega; (exact canon_digs _); (exact canon_digs _); (rw [val_digs, val_digs]; exact HKK.out); rintro e w10 ⟨rfl, hb10⟩))
          have bb : Below w7.heap.size w7 w10 := (hb8.trans (hb9.mono hb8.size)).trans (hb10.mono (Nat.le_trans hb8.size hb9.size))
          go_roundw
          case rel =>
            refine ⟨A9, n9, c9, Y, rfl, digs_n (h11.belw hb10) (Nat.le_of_lt HLT.out) hK.1 hn5, ⟨h11.belw hb10, ?_, ?_⟩, (rr.trans (hb7.mono rr.size)).trans (bb.mono (Nat.le_trans rr.size hb7.size))⟩
            · rw [← HY.out]; exact HNG.out
            · have := HNG.out; rw [HY.out] at this; have := isq_pos HMP.out; omega
          case measure => rw [(h11.belw hb10).valOf, hm5, val_digs]; exact HLT.out
end Go.Proofs.YtpnnfbodphflpaaGreatDoor

/- Walks: what the integer laws lean on: short, Same; roots and texts as values. -/
namespace Go.Proofs.YtpnnfbodphflpaaGreatDoor
open Go Go.RowKit Bn
attribute [local go_sem ↓] Go.wp_at_zero Go.wp_at_succ
/-- Integers in a row, of some lengths. -/
def Ws (w : World) (g N : Nat) (ns : Nat → Nat) : Prop := g < w.heap.size ∧ ∀ i, i < N → ∃ b A c, w.cell? ⟨g, i * 2, none⟩ = some (.bool b) ∧ w.cell? ⟨g, i * 2 + 1, none⟩ = some (.slice A (ns i) c)
theorem Ws.belw {w w' : World} {g N : Nat} {ns : Nat → Nat} (h : Ws w g N ns) (hb : Below w.heap.size w w') : Ws w' g N ns := by
  obtain ⟨hg, h⟩ := h
  have hc := (bcell hb).1
  refine ⟨Nat.lt_of_lt_of_le hg hb.size, fun i hi => ?_⟩
  obtain ⟨b, A, c, h1, h2⟩ := h i hi
  exact ⟨b, A, c, (hc _ _ hg).trans h1, (hc _ _ hg).trans h2⟩
def RetShW (w : World) (N : Nat) (ns : Nat → Nat) (e : Ending) (w' : World) : Prop := ∃ r : Bool, e = .returned (.bool r) ∧ (r = true → ∀ i, i < N → ns i ≤ 30) ∧ Below w.heap.size w w'
set_option maxRecDepth 100000 in
set_option maxHeartbeats 2000000 in
theorem l1_short (w : World) (g N : Nat) (ns : Nat → Nat) (h : Ws w g N ns) (hN : N ≤ 1000) :
    Calls Tryz.prog 21 #[.slice (some ⟨g, 0, none⟩) N N] w (RetShW w N ns) := by
  go_enter Tryz.func21, Tryz.ntmps21
  go_wp2_with fail
  go_loopw [7] (fun iv wr => ∃ i : Nat, i ≤ N ∧ iv = .int .i64 (i : Nat) ∧ (∀ j, j < i → ns j ≤ 30) ∧ Below w.heap.size w wr) (fun iv _ => N - (intOf iv).toNat)
  case atStart => exact ⟨0, Nat.zero_le _, rfl, fun j hj => absurd hj (by omega), brefl w⟩
  case round =>
    obtain ⟨i, hi, rfl, hall, hb⟩ := hrel
    have HA := Lib.hid hall
    have HB := Lib.hid hb
    by_cases hlt : i < N
    · have hw := h.belw hb
      obtain ⟨b, A, c, c0, c1⟩ := hw.2 i hlt
      have hgl := hw.1
      have H := Lib.hid h
      obtain ⟨p, hp⟩ : ∃ p, ns i = p := ⟨_, rfl⟩
      rw [hp] at c1
      have HP := Lib.hid hp
      clear h hw hall hb hp
      by_cases h1 : p ≤ 30
      · go_wp2_with fail
        go_roundw
        case rel => exact ⟨i + 1, by omega, by go_num, fun j hj => by
          by_cases hji : j = i
          · subst hji; rw [HP.out]; exact h1
          · exact HA.out j (by omega), HB.out.alloc HB.out.size _⟩
        case measure => simp [intOf]; omega
      · go_wp2_with fail
        go_ret
        exact ⟨false, rfl, (fun h => nomatch h), HB.out.alloc HB.out.size _⟩
    · have hiN : i = N := by omega
      subst hiN
      clear h hall hb
      go_wp2_with fail
      go_ret
      exact ⟨true, rfl, fun _ => HA.out, HB.out⟩
set_option maxRecDepth 100000 in
set_option maxHeartbeats 2000000 in
/-- linkworkref01.Same, of equal integers -/
theorem s_same (w : World) (b : Bool) (A : Option Addr) (n c : Nat) (z : Int) (k : Nat) (h : IV w b A n c z k) (b' : Bool) (A' : Option Addr) (n' c' : Nat) (z' : Int) (k' : Nat) (h' : IV w b' A' n' c' z' k') (hz : z = z') (hk : k ≤ 1000000000) :
    Calls Tryz.prog 27 #[.agg #[.bool b, .slice A n c], .agg #[.bool b', .slice A' n' c']] w (RetV w (.bool true)) := by
  subst hz
  obtain ⟨rfl, wa, hn⟩ := h
  obtain ⟨rfl, wb, _⟩ := h'
  have hnn : n' = n := by rw [wa.2.1, wb.2.1]
  subst hnn
  obtain ⟨bb, hbb⟩ : ∃ bb, (wh z).neg = bb := ⟨_, rfl⟩
  obtain ⟨l, hl⟩ : ∃ l, (wh z).mag = l := ⟨_, rfl⟩
  rw [hl] at wa wb
  rw [hbb]
  have HA := Lib.hid wa
  have HB := Lib.hid wb
  clear wa wb hbb hl
  have x0 : Blk ((w.alloc (.cells #[.bool bb, .slice A n' c] 48)).alloc (.cells #[.bool bb, .slice A' n' c'] 48)) w.heap.size 48 #[.bool bb, .slice A n' c] := (blkAt w _ _ rfl).alloc _
  have x1 : Blk ((w.alloc (.cells #[.bool bb, .slice A n' c] 48)).alloc (.cells #[.bool bb, .slice A' n' c'] 48)) (w.heap.size + 1) 48 #[.bool bb, .slice A' n' c'] := (blkAt _ _ _ (by simp))
  have b0 : Below w.heap.size w ((w.alloc (.cells #[.bool bb, .slice A n' c] 48)).alloc (.cells #[.bool bb, .slice A' n' c'] 48)) := ((Below.refl _ _).alloc (Nat.le_refl _) _).alloc (by simp) _
  go_enter Tryz.func27, Tryz.ntmps27
  go_wp2_with fail
  generalize ((w.alloc (.cells #[.bool bb, .slice A n' c] 48)).alloc (.cells #[.bool bb, .slice A' n' c'] 48)) = W0 at x0 x1 b0 ⊢
  go_loopw [23] (fun iv wr => ∃ (i q : Nat), i ≤ n' ∧ iv = .int .i64 (i : Nat) ∧ wr = W0.drewN q) (fun iv _ => n' - (intOf iv).toNat)
  case atStart => exact ⟨0, 0, Nat.zero_le _, rfl, rfl⟩
  case round =>
    obtain ⟨i, q, hi, rfl, rfl⟩ := hrel
    by_cases hlt : i < n'
    · obtain ⟨g, o, rfl, hc1⟩ := (HA.out.belw b0).at_ (by omega)
      obtain ⟨g', o', rfl, hc2⟩ := (HB.out.belw b0).at_ (by omega)
      have h1 := hc1 i hlt
      have h2 := hc2 i hlt
      obtain ⟨cx0, cx1⟩ := x0.c2
      obtain ⟨cy0, cy1⟩ := x1.c2
      have hi0 : (0 : Int) ≤ (i : Int) := by omega
      have hi1 : (i : Int) < (n' : Int) := by omega
      generalize wd l i = x at h1 h2
      clear hc1 hc2
      go_wp2_with fail
      go_quiet (fail)
      go_wp2
      go_roundw
      case rel => exact ⟨i + 1, _, by omega, by go_num, rfl⟩
      case measure => simp [intOf]; omega
    · go_wp2
      go_ret
      exact retB rfl (by repeat (first | exact b0 | refine below_drewN ?_ _))
/-- Roots and texts as values. -/
theorem i_root (w : World) (b : Bool) (A : Option Addr) (n c : Nat) (z : Int) (k : Nat) (h : IZ w b A n c z k) (hk : k ≤ 1000000000) (v : Value) (hv : rootE z = v) (y : Int) (hy : rootZ z = y) :
    Calls Tryz.prog 53 #[.agg #[.bool b, .slice A n c]] w (RetIe w v y k) := by
  subst hv hy
  obtain ⟨l, h1, rfl, h3⟩ := h
  exact root_C w b A n c l k h1 h3 hk
theorem i_bits (w : World) (b : Bool) (A : Option Addr) (n c : Nat) (z : Int) (k : Nat) (h : IZ w b A n c z k) (hk : k ≤ 1000000000) :
    Calls Tryz.prog 102 #[.agg #[.bool b, .slice A n c]] w (RetV w (.int .i64 (blen z.natAbs : Nat))) := by
  obtain ⟨l, h1, rfl, h3⟩ := h
  exact bits_C w b A n c l h1 (by omega)
theorem i_text (w : World) (b : Bool) (A : Option Addr) (n c : Nat) (z : Int) (k : Nat) (h : IZ w b A n c z k) (T : ByteArray) (hk : k ≤ 1000000000) (ht : Tab w) (hT : ⟨(Lib.itoa z).toArray⟩ = T) :
    Calls Tryz.prog 25 #[.agg #[.bool b, .slice A n c]] w (RetV w (.string T)) := by
  subst hT
  obtain ⟨l, h1, rfl, h3⟩ := h
  exact text_C w b A n c l h1 (by omega) ht
/-- A text by its digits. -/
theorem itoa_nat (u : Nat) (l : List UInt8) (h : Lib.decDigits u = l) : (⟨(Lib.itoa (u : Int)).toArray⟩ : ByteArray) = ⟨l.toArray⟩ := by rw [Lib.itoa_nonneg, h]
theorem aw1 : (⟨(Lib.itoa ((-7) / 2)).toArray⟩ : ByteArray) = ⟨#[45, 52]⟩ := by
  rw [show ((-7 : Int) / 2) = -((4 : Nat) : Int) by decide, Lib.itoa_neg 4 (by omega), Lib.decDigits_one (by omega)]; rfl
theorem aw2 : (⟨(Lib.itoa ((-7) % 2)).toArray⟩ : ByteArray) = ⟨#[49]⟩ := by
  rw [show ((-7 : Int) % 2) = ((1 : Nat) : Int) by decide, Lib.itoa_nonneg, Lib.decDigits_one (by omega)]; rfl
theorem aw3 : (⟨(Lib.itoa 9).toArray⟩ : ByteArray) = ⟨#[57]⟩ := itoa_nat 9 _ (Lib.decDigits_one (by omega))
theorem aw4 : (⟨(Lib.itoa (Nat.gcd (-12 : Int).natAbs (18 : Int).natAbs : Nat)).toArray⟩ : ByteArray) = ⟨#[54]⟩ := itoa_nat _ _ (show Lib.decDigits 6 = [54] from Lib.decDigits_one (by omega))
theorem aw5 : (⟨(Lib.itoa 4294967296).toArray⟩ : ByteArray) = ⟨#[52, 50, 57, 52, 57, 54, 55, 50, 57, 54]⟩ := by
  refine itoa_nat 4294967296 _ ?_
  simp [Lib.decDigits]
theorem aw6 : rootE 99 = .nilIface := rfl
theorem aw7 : rootZ 99 = 9 := by
  unfold rootZ
  rw [if_neg (by decide), show (99 : Int).natAbs = 99 from rfl, isq_of (n := 99) (r := 9) (by decide) (by decide)]
  rfl
end Go.Proofs.YtpnnfbodphflpaaGreatDoor
