/- IntegerOrder: the order of integers is total and agrees with sums and products; for every input the law returns true. The listed library tables are tied to the program text. -/
import Derived.Deep.RegionHeld3
import Derived.Deep.DrawnRows
import Derived.Test.YtkehcfclggmblaaDoorA3
set_option linter.unusedVariables false
/- Walks: IntegerOrder. -/
namespace Go.Proofs.YtkehcfclggmblaaDoor
open Go Go.RowKit Bn
attribute [local go_sem ↓] Go.wp_at_zero Go.wp_at_succ
theorem mul_self (z : Int) : 0 ≤ z * z := by
  rcases Int.le_total 0 z with h | h
  · exact Int.mul_nonneg h h
  · exact Int.mul_nonneg_of_nonpos_of_nonpos h h
theorem wrap_one {u : Int} (h1 : -1 ≤ u) (h2 : u ≤ 1) : IntKind.i64.wrap u = u := by
  unfold IntKind.wrap; simp [IntKind.bits, IntKind.signed]; omega
theorem sign_sq (z : Int) : 0 ≤ (z * z).sign := by
  have h := mul_self z
  rcases (show z * z = 0 ∨ 0 < z * z by omega) with e | e
  · rw [e]; decide
  · rw [Int.sign_eq_one_of_pos e]; decide
set_option maxRecDepth 100000 in
set_option maxHeartbeats 8000000 in
/-- linkworklaw01.IntegerOrder -/
theorem l_IntegerOrder (w : World) (b : Bool) (A : Option Addr) (n c : Nat) (z : Int) (k : Nat) (H : IZ w b A n c z k) (b' : Bool) (A' : Option Addr) (n' c' : Nat) (z' : Int) (k' : Nat) (H' : IZ w b' A' n' c' z' k') (b2 : Bool) (A2 : Option Addr) (n2 c2 : Nat) (z2 : Int) (k2 : Nat) (H2 : IZ w b2 A2 n2 c2 z2 k2) (htab : Tab w) :
    Calls Tryd.prog 6 #[.agg #[.bool b, .slice A n c], .agg #[.bool b', .slice A' n' c'], .agg #[.bool b2, .slice A2 n2 c2]] w (RetV w (.bool true)) := by
  go_enter Tryd.func6, Tryd.ntmps6
  go_wp2_with fail
  (with_reducible refine (l_short _ (w.heap.size + 1 + 1 + 1) 3 (fun i : Nat => if i = 0 then n else if i = 1 then n' else n2) ?_ ?_).mono ?_); (exact ws3 (blkAt _ _ _ (by simp))); (decide); rintro e w1 ⟨r1, rfl, hr1, hb1⟩
  have q1 : Below w.heap.size w w1 := (((((Below.refl _ _).alloc (Nat.le_refl _) _).alloc (by simp) _).alloc (by simp <;> omega) _).alloc (by simp <;> omega) _).trans (hb1.mono (by simp <;> omega))
  replace H := H.belw q1
  replace H' := H'.belw q1
  replace H2 := H2.belw q1
  have x1_0 : Blk w1 (w.heap.size) 24 #[.bool b, .slice A n c] := ((((blkAt _ _ _ (by simp)).alloc _).alloc _).alloc _).below hb1 (by simp <;> omega)
  have x1_1 : Blk w1 (w.heap.size + 1) 24 #[.bool b', .slice A' n' c'] := (((blkAt _ _ _ (by simp)).alloc _).alloc _).below hb1 (by simp <;> omega)
  have x1_2 : Blk w1 (w.heap.size + 1 + 1) 24 #[.bool b2, .slice A2 n2 c2] := ((blkAt _ _ _ (by simp)).alloc _).below hb1 (by simp <;> omega)
  have x1_3 : Blk w1 (w.heap.size + 1 + 1 + 1) 24 #[.bool b, .slice A n c, .bool b', .slice A' n' c', .bool b2, .slice A2 n2 c2] := (blkAt _ _ _ (by simp)).below hb1 (by simp)
  have bw1 : Below w.heap.size w w1 := (brefl w).trans (q1.mono (brefl w).size)
  have lw1 : w.heap.size + 4 ≤ w1.heap.size := by have := hb1.size; simp at this; omega
  clear hb1 q1
  cases r1
  · clear hr1
    go_wp2_with fail
    (with_reducible refine (l_awake _  ?_).mono ?_); (exact htab.belw bw1); rintro e w2 ⟨rfl, hb2⟩
    have q2 : Below w1.heap.size w1 w2 := hb2
    replace H := H.belw q2
    replace H' := H'.belw q2
    replace H2 := H2.belw q2
    replace x1_0 := x1_0.below q2 x1_0.lt
    replace x1_1 := x1_1.below q2 x1_1.lt
    replace x1_2 := x1_2.below q2 x1_2.lt
    replace x1_3 := x1_3.below q2 x1_3.lt
    have bw2 : Below w.heap.size w w2 := bw1.trans (q2.mono bw1.size)
    have lw2 : w1.heap.size ≤ w2.heap.size := q2.size
    clear hb2 q2 bw1
    go_wp2_with fail
    go_ret
    exact retB rfl bw2
  · replace H := IZ.short H (hr1 rfl 0 (by decide))
    replace H' := IZ.short H' (hr1 rfl 1 (by decide))
    replace H2 := IZ.short H2 (hr1 rfl 2 (by decide))
    clear hr1
    go_wp2_with fail
    (with_reducible refine (l_awake _  ?_).mono ?_); (exact htab.belw bw1); rintro e w2 ⟨rfl, hb2⟩
    have q2 : Below w1.heap.size w1 w2 := hb2
    replace H := H.belw q2
    replace H' := H'.belw q2
    replace H2 := H2.belw q2
    replace x1_0 := x1_0.below q2 x1_0.lt
    replace x1_1 := x1_1.below q2 x1_1.lt
    replace x1_2 := x1_2.below q2 x1_2.lt
    replace x1_3 := x1_3.below q2 x1_3.lt
    have bw2 : Below w.heap.size w w2 := bw1.trans (q2.mono bw1.size)
    have lw2 : w1.heap.size ≤ w2.heap.size := q2.size
    clear hb2 q2 bw1
    obtain ⟨cx1_0_0, cx1_0_1⟩ := x1_0.c2
    obtain ⟨lx1_0_0, lx1_0_1, lx1_0_2, lx1_0_3⟩ := lts0 x1_0.lt
    obtain ⟨cx1_1_0, cx1_1_1⟩ := x1_1.c2
    obtain ⟨lx1_1_0, lx1_1_1, lx1_1_2, lx1_1_3⟩ := lts1 x1_1.lt
    obtain ⟨cx1_2_0, cx1_2_1⟩ := x1_2.c2
    obtain ⟨lx1_2_0, lx1_2_1, lx1_2_2, lx1_2_3⟩ := lts2 x1_2.lt
    obtain ⟨lx1_3_0, lx1_3_1, lx1_3_2, lx1_3_3⟩ := lts3 x1_3.lt
    go_wp2_with fail
    obtain ⟨u, hu⟩ : ∃ u, cmpI z z' = u := ⟨_, rfl⟩
    obtain ⟨u', hu'⟩ : ∃ u', cmpI z' z = u' := ⟨_, rfl⟩
    have hun : -u' = u := by rw [← hu', ← hu, cmpI_swap z z']; omega
    obtain ⟨v, hv⟩ : ∃ v, cmpI z' z2 = v := ⟨_, rfl⟩
    obtain ⟨x, hx⟩ : ∃ x, cmpI z z2 = x := ⟨_, rfl⟩
    obtain ⟨s, hs⟩ : ∃ s, z2.sign = s := ⟨_, rfl⟩
    obtain ⟨p, hp⟩ : ∃ p, u * s = p := ⟨_, rfl⟩
    obtain ⟨y, hy⟩ : ∃ y, (z * z).sign = y := ⟨_, rfl⟩
    have hu1 : -1 ≤ u := hu ▸ (cmpI_low _ _).1
    have hu2 : u ≤ 1 := hu ▸ (cmpI_low _ _).2
    have hv1 : -1 ≤ v := hv ▸ (cmpI_low _ _).1
    have hv2 : v ≤ 1 := hv ▸ (cmpI_low _ _).2
    have hx1 : -1 ≤ x := hx ▸ (cmpI_low _ _).1
    have hx2 : x ≤ 1 := hx ▸ (cmpI_low _ _).2
    have hs1 : -1 ≤ s := hs ▸ (sign_low _).1
    have hs2 : s ≤ 1 := hs ▸ (sign_low _).2
    have hy0 : 0 ≤ y := by rw [← hy]; exact sign_sq z
    have HU := Lib.hid hu
    have HU2 := Lib.hid hu'
    have HU3 := Lib.hid (show cmpI (z + z2) (z' + z2) = u by rw [cmpI_add, hu])
    have HP := Lib.hid (show cmpI (z * z2) (z' * z2) = p by rw [cmpI_mul, hu, hs, hp])
    have hp1 : -1 ≤ p := by have := (cmpI_low (z * z2) (z' * z2)).1; rw [HP.out] at this; exact this
    have hp2 : p ≤ 1 := by have := (cmpI_low (z * z2) (z' * z2)).2; rw [HP.out] at this; exact this
    have hwu : IntKind.i64.wrap u = u := wrap_one hu1 hu2
    have hwp : IntKind.i64.wrap p = p := wrap_one hp1 hp2
    have HV := Lib.hid hv
    have HX := Lib.hid hx
    have HS := Lib.hid hs
    have HY := Lib.hid hy
    have HT := Lib.hid (show ¬ 0 < u → ¬ 0 < v → x ≤ 0 by rw [← hu, ← hv, ← hx]; exact cmpI_trans)
    clear hu hu' hv hx hs hy
    go_region_held3 (fun w' => Sees w2.heap.size w2 w') (first | with_reducible exact Sees.of (Nat.le_refl _) (by assumption) | with_reducible exact Sees.of (Nat.le_refl _) (brefl _).drew | exact Sees.of (Nat.le_refl _) (below_drewN (brefl _) 1) | exact Sees.of (Nat.le_refl _) (below_drewN (by assumption) _))
      (first
        | (go_at_call 33; (with_reducible refine (i_cmp_v _ b A n c (z) (30) ?_ b' A' n' c' (z') (30) ?_ u HU.out ?_).mono ?_); (exact H); (exact H'); (first | omega | decide | assumption); rintro e w3 ⟨rfl, hb3⟩; replace hb3 := bnext (below_drewN (brefl _) 1) hb3; have q3 : Below w2.heap.size w2 w3 := bnext (brefl w2) hb3; replace H := H.belw hb3; replace H' := H'.belw hb3; replace H2 := H2.belw hb3)
        | (go_at_call 33; (with_reducible refine (i_cmp_v _ b' A' n' c' (z') (30) ?_ b A n c (z) (30) ?_ u' HU2.out ?_).mono ?_); (exact H'); (exact H); (first | omega | decide | assumption); rintro e w4 ⟨rfl, hb4⟩; have q4 : Below w2.heap.size w2 w4 := bnext q3 hb4; replace H := H.belw hb4; replace H' := H'.belw hb4; replace H2 := H2.belw hb4)
        | (go_at_call 29; (with_reducible refine (i_add _ b A n c (z) (30) ?_ b2 A2 n2 c2 (z2) (30) ?_ ?_).mono ?_); (exact H); (exact H2); (first | omega | decide | assumption); rintro e w5 ⟨b5, A5, n5, c5, rfl, h5, hb5⟩; have q5 : Below w2.heap.size w2 w5 := bnext q4 hb5; replace H := H.belw hb5; replace H' := H'.belw hb5; replace H2 := H2.belw hb5)
        | (go_at_call 29; (with_reducible refine (i_add _ b' A' n' c' (z') (30) ?_ b2 A2 n2 c2 (z2) (30) ?_ ?_).mono ?_); (exact H'); (exact H2); (first | omega | decide | assumption); rintro e w6 ⟨b6, A6, n6, c6, rfl, h6, hb6⟩; have q6 : Below w2.heap.size w2 w6 := bnext q5 hb6; replace H := H.belw hb6; replace H' := H'.belw hb6; replace H2 := H2.belw hb6; replace h5 := h5.belw hb6)
        | (go_at_call 33; (with_reducible refine (i_cmp_v _ b5 A5 n5 c5 ((z) + (z2)) ((30) + (30) + 1) ?_ b6 A6 n6 c6 ((z') + (z2)) ((30) + (30) + 1) ?_ u HU3.out ?_).mono ?_); (exact h5.iz); (exact h6.iz); (first | omega | decide | assumption); rintro e w7 ⟨rfl, hb7⟩; have q7 : Below w2.heap.size w2 w7 := bnext q6 hb7; replace H := H.belw hb7; replace H' := H'.belw hb7; replace H2 := H2.belw hb7; replace h5 := h5.belw hb7; replace h6 := h6.belw hb7)
        | (go_at_call 33; (with_reducible refine (i_cmp_v _ b A n c (z) (30) ?_ b' A' n' c' (z') (30) ?_ u HU.out ?_).mono ?_); (exact H); (exact H'); (first | omega | decide | assumption); rintro e w8 ⟨rfl, hb8⟩; have q8 : Below w2.heap.size w2 w8 := bnext q7 hb8; replace H := H.belw hb8; replace H' := H'.belw hb8; replace H2 := H2.belw hb8; replace h5 := h5.belw hb8; replace h6 := h6.belw hb8)
        | (go_at_call 30; (with_reducible refine (i_mul _ b A n c (z) (30) ?_ b2 A2 n2 c2 (z2) (30) ?_ ?_).mono ?_); (exact H); (exact H2); (first | omega | decide | assumption); rintro e w9 ⟨b9, A9, n9, c9, rfl, h9, hb9⟩; have q9 : Below w2.heap.size w2 w9 := bnext q8 hb9; replace H := H.belw hb9; replace H' := H'.belw hb9; replace H2 := H2.belw hb9; replace h5 := h5.belw hb9; replace h6 := h6.belw hb9)
        | (go_at_call 30; (with_reducible refine (i_mul _ b' A' n' c' (z') (30) ?_ b2 A2 n2 c2 (z2) (30) ?_ ?_).mono ?_); (exact H'); (exact H2); (first | omega | decide | assumption); rintro e w10 ⟨b10, A10, n10, c10, rfl, h10, hb10⟩; have q10 : Below w2.heap.size w2 w10 := bnext q9 hb10; replace H := H.belw hb10; replace H' := H'.belw hb10; replace H2 := H2.belw hb10; replace h5 := h5.belw hb10; replace h6 := h6.belw hb10; replace h9 := h9.belw hb10)
        | (go_at_call 33; (with_reducible refine (i_cmp_v _ b9 A9 n9 c9 ((z) * (z2)) ((30) + (30)) ?_ b10 A10 n10 c10 ((z') * (z2)) ((30) + (30)) ?_ p HP.out ?_).mono ?_); (exact h9.iz); (exact h10.iz); (first | omega | decide | assumption); rintro e w11 ⟨rfl, hb11⟩; have q11 : Below w2.heap.size w2 w11 := bnext q10 hb11; replace H := H.belw hb11; replace H' := H'.belw hb11; replace H2 := H2.belw hb11; replace h5 := h5.belw hb11; replace h6 := h6.belw hb11; replace h9 := h9.belw hb11; replace h10 := h10.belw hb11)
        | (go_at_call 33; (with_reducible refine (i_cmp_v _ b A n c (z) (30) ?_ b' A' n' c' (z') (30) ?_ u HU.out ?_).mono ?_); (exact H); (exact H'); (first | omega | decide | assumption); rintro e w12 ⟨rfl, hb12⟩; have q12 : Below w2.heap.size w2 w12 := bnext q11 hb12; replace H := H.belw hb12; replace H' := H'.belw hb12; replace H2 := H2.belw hb12; replace h5 := h5.belw hb12; replace h6 := h6.belw hb12; replace h9 := h9.belw hb12; replace h10 := h10.belw hb12)
        | (go_at_call 25; (with_reducible refine (i_sign_v _ b2 A2 n2 c2 (z2) (30) ?_ s HS.out ?_).mono ?_); (exact H2); (first | omega | decide | assumption); rintro e w13 ⟨rfl, hb13⟩; have q13 : Below w2.heap.size w2 w13 := bnext q12 hb13; replace H := H.belw hb13; replace H' := H'.belw hb13; replace H2 := H2.belw hb13; replace h5 := h5.belw hb13; replace h6 := h6.belw hb13; replace h9 := h9.belw hb13; replace h10 := h10.belw hb13))
    have bw13 : Below w.heap.size w w13 := bw2.trans (q13.mono bw2.size)
    clear cx1_0_0 cx1_0_1 lx1_0_0 lx1_0_1 lx1_0_2 lx1_0_3 cx1_1_0 cx1_1_1 lx1_1_0 lx1_1_1 lx1_1_2 lx1_1_3 cx1_2_0 cx1_2_1 lx1_2_0 lx1_2_1 lx1_2_2 lx1_2_3 lx1_3_0 lx1_3_1 lx1_3_2 lx1_3_3
    replace x1_0 := x1_0.below q13 x1_0.lt
    replace x1_1 := x1_1.below q13 x1_1.lt
    replace x1_2 := x1_2.below q13 x1_2.lt
    replace x1_3 := x1_3.below q13 x1_3.lt
    have lw13 : w2.heap.size ≤ w13.heap.size := q13.size
    obtain ⟨cx1_0_0, cx1_0_1⟩ := x1_0.c2
    obtain ⟨lx1_0_0, lx1_0_1, lx1_0_2, lx1_0_3⟩ := lts0 x1_0.lt
    go_wp2_with fail
    by_cases g1 : 0 < u
    · (with_reducible refine (i_mul _ b A n c (z) (30) ?_ b A n c (z) (30) ?_ ?_).mono ?_); (exact H); (exact H); (first | omega | decide | assumption); rintro e w14 ⟨b14, A14, n14, c14, rfl, h14, hb14⟩
      clear cx1_0_0 cx1_0_1 lx1_0_0 lx1_0_1 lx1_0_2 lx1_0_3
      have q14 : Below w13.heap.size w13 w14 := hb14
      replace H := H.belw q14
      replace H' := H'.belw q14
      replace H2 := H2.belw q14
      replace h5 := h5.belw q14
      replace h6 := h6.belw q14
      replace h9 := h9.belw q14
      replace h10 := h10.belw q14
      replace x1_0 := x1_0.below q14 x1_0.lt
      replace x1_1 := x1_1.below q14 x1_1.lt
      replace x1_2 := x1_2.below q14 x1_2.lt
      replace x1_3 := x1_3.below q14 x1_3.lt
      have bw14 : Below w.heap.size w w14 := bw13.trans (q14.mono bw13.size)
      have lw14 : w13.heap.size ≤ w14.heap.size := q14.size
      clear hb14 q14 bw13
      go_wp2_with fail
      (with_reducible refine (i_sign_v _ b14 A14 n14 c14 ((z) * (z)) ((30) + (30)) ?_ y HY.out ?_).mono ?_); (exact h14.iz); (first | omega | decide | assumption); rintro e w15 ⟨rfl, hb15⟩
      have q15 : Below w14.heap.size w14 w15 := hb15
      replace H := H.belw q15
      replace H' := H'.belw q15
      replace H2 := H2.belw q15
      replace h5 := h5.belw q15
      replace h6 := h6.belw q15
      replace h9 := h9.belw q15
      replace h10 := h10.belw q15
      replace h14 := h14.belw q15
      replace x1_0 := x1_0.below q15 x1_0.lt
      replace x1_1 := x1_1.below q15 x1_1.lt
      replace x1_2 := x1_2.below q15 x1_2.lt
      replace x1_3 := x1_3.below q15 x1_3.lt
      have bw15 : Below w.heap.size w w15 := bw14.trans (q15.mono bw14.size)
      have lw15 : w14.heap.size ≤ w15.heap.size := q15.size
      clear hb15 q15 bw14
      obtain ⟨cx1_0_0, cx1_0_1⟩ := x1_0.c2
      obtain ⟨lx1_0_0, lx1_0_1, lx1_0_2, lx1_0_3⟩ := lts0 x1_0.lt
      obtain ⟨cx1_1_0, cx1_1_1⟩ := x1_1.c2
      obtain ⟨lx1_1_0, lx1_1_1, lx1_1_2, lx1_1_3⟩ := lts1 x1_1.lt
      go_wp2_with fail
      (with_reducible refine (i_cmp_v _ b A n c (z) (30) ?_ b' A' n' c' (z') (30) ?_ u HU.out ?_).mono ?_); (exact H); (exact H'); (first | omega | decide | assumption); rintro e w16 ⟨rfl, hb16⟩
      clear cx1_0_0 cx1_0_1 lx1_0_0 lx1_0_1 lx1_0_2 lx1_0_3 cx1_1_0 cx1_1_1 lx1_1_0 lx1_1_1 lx1_1_2 lx1_1_3
      have q16 : Below w15.heap.size w15 w16 := hb16
      replace H := H.belw q16
      replace H' := H'.belw q16
      replace H2 := H2.belw q16
      replace h5 := h5.belw q16
      replace h6 := h6.belw q16
      replace h9 := h9.belw q16
      replace h10 := h10.belw q16
      replace h14 := h14.belw q16
      replace x1_0 := x1_0.below q16 x1_0.lt
      replace x1_1 := x1_1.below q16 x1_1.lt
      replace x1_2 := x1_2.below q16 x1_2.lt
      replace x1_3 := x1_3.below q16 x1_3.lt
      have bw16 : Below w.heap.size w w16 := bw15.trans (q16.mono bw15.size)
      have lw16 : w15.heap.size ≤ w16.heap.size := q16.size
      clear hb16 q16 bw15
      go_wp2_with fail
      go_ret
      exact retB rfl bw16
    · by_cases g2 : 0 < v
      · (with_reducible refine (i_mul _ b A n c (z) (30) ?_ b A n c (z) (30) ?_ ?_).mono ?_); (exact H); (exact H); (first | omega | decide | assumption); rintro e w14 ⟨b14, A14, n14, c14, rfl, h14, hb14⟩
        clear cx1_0_0 cx1_0_1 lx1_0_0 lx1_0_1 lx1_0_2 lx1_0_3
        have q14 : Below w13.heap.size w13 w14 := hb14
        replace H := H.belw q14
        replace H' := H'.belw q14
        replace H2 := H2.belw q14
        replace h5 := h5.belw q14
        replace h6 := h6.belw q14
        replace h9 := h9.belw q14
        replace h10 := h10.belw q14
        replace x1_0 := x1_0.below q14 x1_0.lt
        replace x1_1 := x1_1.below q14 x1_1.lt
        replace x1_2 := x1_2.below q14 x1_2.lt
        replace x1_3 := x1_3.below q14 x1_3.lt
        have bw14 : Below w.heap.size w w14 := bw13.trans (q14.mono bw13.size)
        have lw14 : w13.heap.size ≤ w14.heap.size := q14.size
        clear hb14 q14 bw13
        go_wp2_with fail
        (with_reducible refine (i_sign_v _ b14 A14 n14 c14 ((z) * (z)) ((30) + (30)) ?_ y HY.out ?_).mono ?_); (exact h14.iz); (first | omega | decide | assumption); rintro e w15 ⟨rfl, hb15⟩
        have q15 : Below w14.heap.size w14 w15 := hb15
        replace H := H.belw q15
        replace H' := H'.belw q15
        replace H2 := H2.belw q15
        replace h5 := h5.belw q15
        replace h6 := h6.belw q15
        replace h9 := h9.belw q15
        replace h10 := h10.belw q15
        replace h14 := h14.belw q15
        replace x1_0 := x1_0.below q15 x1_0.lt
        replace x1_1 := x1_1.below q15 x1_1.lt
        replace x1_2 := x1_2.below q15 x1_2.lt
        replace x1_3 := x1_3.below q15 x1_3.lt
        have bw15 : Below w.heap.size w w15 := bw14.trans (q15.mono bw14.size)
        have lw15 : w14.heap.size ≤ w15.heap.size := q15.size
        clear hb15 q15 bw14
        obtain ⟨cx1_0_0, cx1_0_1⟩ := x1_0.c2
        obtain ⟨lx1_0_0, lx1_0_1, lx1_0_2, lx1_0_3⟩ := lts0 x1_0.lt
        obtain ⟨cx1_1_0, cx1_1_1⟩ := x1_1.c2
        obtain ⟨lx1_1_0, lx1_1_1, lx1_1_2, lx1_1_3⟩ := lts1 x1_1.lt
        go_wp2_with fail
        (with_reducible refine (i_cmp_v _ b A n c (z) (30) ?_ b' A' n' c' (z') (30) ?_ u HU.out ?_).mono ?_); (exact H); (exact H'); (first | omega | decide | assumption); rintro e w16 ⟨rfl, hb16⟩
        clear cx1_0_0 cx1_0_1 lx1_0_0 lx1_0_1 lx1_0_2 lx1_0_3 cx1_1_0 cx1_1_1 lx1_1_0 lx1_1_1 lx1_1_2 lx1_1_3
        have q16 : Below w15.heap.size w15 w16 := hb16
        replace H := H.belw q16
        replace H' := H'.belw q16
        replace H2 := H2.belw q16
        replace h5 := h5.belw q16
        replace h6 := h6.belw q16
        replace h9 := h9.belw q16
        replace h10 := h10.belw q16
        replace h14 := h14.belw q16
        replace x1_0 := x1_0.below q16 x1_0.lt
        replace x1_1 := x1_1.below q16 x1_1.lt
        replace x1_2 := x1_2.below q16 x1_2.lt
        replace x1_3 := x1_3.below q16 x1_3.lt
        have bw16 : Below w.heap.size w w16 := bw15.trans (q16.mono bw15.size)
        have lw16 : w15.heap.size ≤ w16.heap.size := q16.size
        clear hb16 q16 bw15
        obtain ⟨cx1_1_0, cx1_1_1⟩ := x1_1.c2
        obtain ⟨lx1_1_0, lx1_1_1, lx1_1_2, lx1_1_3⟩ := lts1 x1_1.lt
        obtain ⟨cx1_2_0, cx1_2_1⟩ := x1_2.c2
        obtain ⟨lx1_2_0, lx1_2_1, lx1_2_2, lx1_2_3⟩ := lts2 x1_2.lt
        go_wp2_with fail
        (with_reducible refine (i_cmp_v _ b' A' n' c' (z') (30) ?_ b2 A2 n2 c2 (z2) (30) ?_ v HV.out ?_).mono ?_); (exact H'); (exact H2); (first | omega | decide | assumption); rintro e w17 ⟨rfl, hb17⟩
        clear cx1_1_0 cx1_1_1 lx1_1_0 lx1_1_1 lx1_1_2 lx1_1_3 cx1_2_0 cx1_2_1 lx1_2_0 lx1_2_1 lx1_2_2 lx1_2_3
        have q17 : Below w16.heap.size w16 w17 := hb17
        replace H := H.belw q17
        replace H' := H'.belw q17
        replace H2 := H2.belw q17
        replace h5 := h5.belw q17
        replace h6 := h6.belw q17
        replace h9 := h9.belw q17
        replace h10 := h10.belw q17
        replace h14 := h14.belw q17
        replace x1_0 := x1_0.below q17 x1_0.lt
        replace x1_1 := x1_1.below q17 x1_1.lt
        replace x1_2 := x1_2.below q17 x1_2.lt
        replace x1_3 := x1_3.below q17 x1_3.lt
        have bw17 : Below w.heap.size w w17 := bw16.trans (q17.mono bw16.size)
        have lw17 : w16.heap.size ≤ w17.heap.size := q17.size
        clear hb17 q17 bw16
        go_wp2_with fail
        go_ret
        exact retB rfl bw17
      · have g3 := HT.out (by omega) (by omega)
        (with_reducible refine (i_mul _ b A n c (z) (30) ?_ b A n c (z) (30) ?_ ?_).mono ?_); (exact H); (exact H); (first | omega | decide | assumption); rintro e w14 ⟨b14, A14, n14, c14, rfl, h14, hb14⟩
        clear cx1_0_0 cx1_0_1 lx1_0_0 lx1_0_1 lx1_0_2 lx1_0_3
        have q14 : Below w13.heap.size w13 w14 := hb14
        replace H := H.belw q14
        replace H' := H'.belw q14
        replace H2 := H2.belw q14
        replace h5 := h5.belw q14
        replace h6 := h6.belw q14
        replace h9 := h9.belw q14
        replace h10 := h10.belw q14
        replace x1_0 := x1_0.below q14 x1_0.lt
        replace x1_1 := x1_1.below q14 x1_1.lt
        replace x1_2 := x1_2.below q14 x1_2.lt
        replace x1_3 := x1_3.below q14 x1_3.lt
        have bw14 : Below w.heap.size w w14 := bw13.trans (q14.mono bw13.size)
        have lw14 : w13.heap.size ≤ w14.heap.size := q14.size
        clear hb14 q14 bw13
        go_wp2_with fail
        (with_reducible refine (i_sign_v _ b14 A14 n14 c14 ((z) * (z)) ((30) + (30)) ?_ y HY.out ?_).mono ?_); (exact h14.iz); (first | omega | decide | assumption); rintro e w15 ⟨rfl, hb15⟩
        have q15 : Below w14.heap.size w14 w15 := hb15
        replace H := H.belw q15
        replace H' := H'.belw q15
        replace H2 := H2.belw q15
        replace h5 := h5.belw q15
        replace h6 := h6.belw q15
        replace h9 := h9.belw q15
        replace h10 := h10.belw q15
        replace h14 := h14.belw q15
        replace x1_0 := x1_0.below q15 x1_0.lt
        replace x1_1 := x1_1.below q15 x1_1.lt
        replace x1_2 := x1_2.below q15 x1_2.lt
        replace x1_3 := x1_3.below q15 x1_3.lt
        have bw15 : Below w.heap.size w w15 := bw14.trans (q15.mono bw14.size)
        have lw15 : w14.heap.size ≤ w15.heap.size := q15.size
        clear hb15 q15 bw14
        obtain ⟨cx1_0_0, cx1_0_1⟩ := x1_0.c2
        obtain ⟨lx1_0_0, lx1_0_1, lx1_0_2, lx1_0_3⟩ := lts0 x1_0.lt
        obtain ⟨cx1_1_0, cx1_1_1⟩ := x1_1.c2
        obtain ⟨lx1_1_0, lx1_1_1, lx1_1_2, lx1_1_3⟩ := lts1 x1_1.lt
        go_wp2_with fail
        (with_reducible refine (i_cmp_v _ b A n c (z) (30) ?_ b' A' n' c' (z') (30) ?_ u HU.out ?_).mono ?_); (exact H); (exact H'); (first | omega | decide | assumption); rintro e w16 ⟨rfl, hb16⟩
        clear cx1_0_0 cx1_0_1 lx1_0_0 lx1_0_1 lx1_0_2 lx1_0_3 cx1_1_0 cx1_1_1 lx1_1_0 lx1_1_1 lx1_1_2 lx1_1_3
        have q16 : Below w15.heap.size w15 w16 := hb16
        replace H := H.belw q16
        replace H' := H'.belw q16
        replace H2 := H2.belw q16
        replace h5 := h5.belw q16
        replace h6 := h6.belw q16
        replace h9 := h9.belw q16
        replace h10 := h10.belw q16
        replace h14 := h14.belw q16
        replace x1_0 := x1_0.below q16 x1_0.lt
        replace x1_1 := x1_1.below q16 x1_1.lt
        replace x1_2 := x1_2.below q16 x1_2.lt
        replace x1_3 := x1_3.below q16 x1_3.lt
        have bw16 : Below w.heap.size w w16 := bw15.trans (q16.mono bw15.size)
        have lw16 : w15.heap.size ≤ w16.heap.size := q16.size
        clear hb16 q16 bw15
        obtain ⟨cx1_1_0, cx1_1_1⟩ := x1_1.c2
        obtain ⟨lx1_1_0, lx1_1_1, lx1_1_2, lx1_1_3⟩ := lts1 x1_1.lt
        obtain ⟨cx1_2_0, cx1_2_1⟩ := x1_2.c2
        obtain ⟨lx1_2_0, lx1_2_1, lx1_2_2, lx1_2_3⟩ := lts2 x1_2.lt
        go_wp2_with fail
        (with_reducible refine (i_cmp_v _ b' A' n' c' (z') (30) ?_ b2 A2 n2 c2 (z2) (30) ?_ v HV.out ?_).mono ?_); (exact H'); (exact H2); (first | omega | decide | assumption); rintro e w17 ⟨rfl, hb17⟩
        clear cx1_1_0 cx1_1_1 lx1_1_0 lx1_1_1 lx1_1_2 lx1_1_3 cx1_2_0 cx1_2_1 lx1_2_0 lx1_2_1 lx1_2_2 lx1_2_3
        have q17 : Below w16.heap.size w16 w17 := hb17
        replace H := H.belw q17
        replace H' := H'.belw q17
        replace H2 := H2.belw q17
        replace h5 := h5.belw q17
        replace h6 := h6.belw q17
        replace h9 := h9.belw q17
        replace h10 := h10.belw q17
        replace h14 := h14.belw q17
        replace x1_0 := x1_0.below q17 x1_0.lt
        replace x1_1 := x1_1.below q17 x1_1.lt
        replace x1_2 := x1_2.below q17 x1_2.lt
        replace x1_3 := x1_3.below q17 x1_3.lt
        have bw17 : Below w.heap.size w w17 := bw16.trans (q17.mono bw16.size)
        have lw17 : w16.heap.size ≤ w17.heap.size := q17.size
        clear hb17 q17 bw16
        obtain ⟨cx1_0_0, cx1_0_1⟩ := x1_0.c2
        obtain ⟨lx1_0_0, lx1_0_1, lx1_0_2, lx1_0_3⟩ := lts0 x1_0.lt
        obtain ⟨cx1_2_0, cx1_2_1⟩ := x1_2.c2
        obtain ⟨lx1_2_0, lx1_2_1, lx1_2_2, lx1_2_3⟩ := lts2 x1_2.lt
        go_wp2_with fail
        (with_reducible refine (i_cmp_v _ b A n c (z) (30) ?_ b2 A2 n2 c2 (z2) (30) ?_ x HX.out ?_).mono ?_); (exact H); (exact H2); (first | omega | decide | assumption); rintro e w18 ⟨rfl, hb18⟩
        clear cx1_0_0 cx1_0_1 lx1_0_0 lx1_0_1 lx1_0_2 lx1_0_3 cx1_2_0 cx1_2_1 lx1_2_0 lx1_2_1 lx1_2_2 lx1_2_3
        have q18 : Below w17.heap.size w17 w18 := hb18
        replace H := H.belw q18
        replace H' := H'.belw q18
        replace H2 := H2.belw q18
        replace h5 := h5.belw q18
        replace h6 := h6.belw q18
        replace h9 := h9.belw q18
        replace h10 := h10.belw q18
        replace h14 := h14.belw q18
        replace x1_0 := x1_0.below q18 x1_0.lt
        replace x1_1 := x1_1.below q18 x1_1.lt
        replace x1_2 := x1_2.below q18 x1_2.lt
        replace x1_3 := x1_3.below q18 x1_3.lt
        have bw18 : Below w.heap.size w w18 := bw17.trans (q18.mono bw17.size)
        have lw18 : w17.heap.size ≤ w18.heap.size := q18.size
        clear hb18 q18 bw17
        go_wp2_with fail
        go_ret
        exact retB rfl bw18
end Go.Proofs.YtkehcfclggmblaaDoor

namespace Go.Proofs.YtkehcfclggmblaaDoor
open Go Go.RowKit Bn Go.ChangeShapes Go.WideShapes Go.ChangeAt
set_option maxRecDepth 100000 in
theorem order_contract (H : Type) (enc : TypeId × Value → H) (W : World) (base : Nat) (args : Array Value) (ds gs : List (DataW H)) (before : List MemPlace)
    (hval0 : ∀ (j : Nat) t v, Tryd.f6.params[j]? = some t → args[j]? = some v → Value.okWide Tryd.prog W .any base t v)
    (hW : DataW.Whole enc Tryd.prog Tryd.f6.params.toList Rows.integerOrderSpec.vars false W args.toList ds gs before) (hL : laidMetH Tryd.prog Rows.integerOrderRow.laid W) :
    Calls Tryd.prog 6 args W fun e W' => ∃ v, e = .returned v ∧ Rows.integerOrderSpec.post enc Tryd.prog Tryd.f6 false true false false W args v W' := by
  have hval : ∀ (j : Nat) t v, Tryd.f6.params[j]? = some t → args[j]? = some v → Value.okWide Tryd.prog W .any base t v := hval0
  have htab : Tab W := tab_of_laid hL
  have hW' := hW
  obtain ⟨p, q, hA0, hV, rfl, hfz, hnd⟩ := hW
  have hA : DataW.TrodAll enc Tryd.prog W 0 (fun _ => true) true Tryd.f6.params.toList args.toList ds p := hA0
  rw [Tryd.params6] at hA hval
  obtain ⟨v0, v1, v2, d0, d1, d2, p0, p1, p2, rfl, rfl, rfl, h0, h1, h2⟩ := trodAll_three hA
  obtain ⟨rfl, rfl⟩ := trodVars_none hV
  obtain ⟨b, A, n, c, z, k, rfl, H⟩ := whole_open (hval 0 _ v0 rfl rfl) h0
  obtain ⟨b', A', n', c', z', k', rfl, H'⟩ := whole_open (hval 1 _ v1 rfl rfl) h1
  obtain ⟨b2, A2, n2, c2, z2, k2, rfl, H2⟩ := whole_open (hval 2 _ v2 rfl rfl) h2
  refine (l_IntegerOrder W b A n c z k H b' A' n' c' z' k' H' b2 A2 n2 c2 z2 k2 H2 htab).mono fun e W' ⟨he, hb⟩ => ?_
  subst he
  exact ⟨_, rfl, law_post laid_out Tryd.underlying4 hW' rfl rfl (by kernel_rfl) rfl rfl rfl hb⟩
set_option maxRecDepth 100000 in
theorem order_lifted (os : Os) (started : os.Started) (H : Type) (enc : TypeId × Value → H) (F : Stop.Interp) :
    ReturnsInHanded {} Tryd.checked os 6 .any ((OpenSpec.ofChange Rows.integerOrderSpec).preRow enc Tryd.prog Tryd.f6 Rows.integerOrderRow.domain false Rows.integerOrderRow.laid) (((OpenSpec.ofChange Rows.integerOrderSpec).at F).post enc Tryd.prog Tryd.f6 false true false false) := by
  have hx : DataW.whole enc Tryd.prog ((laidWorld os).forCall (fun _ _ => 0) ⟨#[], #[.agg #[.bool false, .slice none 0 0], .agg #[.bool false, .slice none 0 0], .agg #[.bool false, .slice none 0 0]], []⟩).memory Tryd.f6.params.toList Rows.integerOrderSpec.vars false (#[.agg #[.bool false, .slice none 0 0], .agg #[.bool false, .slice none 0 0], .agg #[.bool false, .slice none 0 0]] : Array Value).toList 8 = some ([.agg [.lit (.bool false), .nil], .agg [.lit (.bool false), .nil], .agg [.lit (.bool false), .nil]], [], []) := by kernel_rfl
  have hl : laidMet Tryd.prog Rows.integerOrderRow.laid ((laidWorld os).forCall (fun _ _ => 0) ⟨#[], #[.agg #[.bool false, .slice none 0 0], .agg #[.bool false, .slice none 0 0], .agg #[.bool false, .slice none 0 0]], []⟩).memory := laidMet_of_run' 8 (by kernel_rfl) (by kernel_rfl)
  refine returnsInHanded_of_row (C := Tryd.checked) (s := OpenSpec.ofChange Rows.integerOrderSpec) own_knob started (by kernel_rfl) Tryd.func6
    (witness_row_at (enc := enc) (C := Tryd.checked) false (laidWorld os) #[.agg #[.bool false, .slice none 0 0], .agg #[.bool false, .slice none 0 0], .agg #[.bool false, .slice none 0 0]] rfl (by kernel_rfl) (by kernel_rfl) (by kernel_rfl)
      (OpenSpec.preRow_of_cond 8 hx (by kernel_rfl) (fun k hk => by cases hk) (by kernel_rfl) hl)) ?_
  intro W base args ds gs before hval hW _ _ _ hL _ _
  exact order_contract H enc W base args ds gs before hval hW hL
theorem order_said : Rows.IntegerOrderSaid :=
  OpenClaim.holds_of_cond 6 Tryd.f6 rfl rfl rfl rfl rfl rfl rfl ⟨rfl, rfl, rfl, rfl, rfl⟩ rfl rfl rfl rfl rfl (by kernel_rfl) Tryd.func6 (by kernel_rfl)
    (of_decide_eq_true (by kernel_rfl)) (by unfold Func.isWrapper; first | (rw [if_pos (by decide +kernel)]; kernel_rfl) | (rw [if_neg (by decide +kernel)]; exact ⟨rfl, rfl⟩))
    (fun os started H enc _ F => by rw [OpenClaim.pre_eq_preRow]; exact order_lifted os started H enc F)
theorem order_plain (f : FuncId) (fn : Func) (hf : Tryd.pinned.checked.prog.funcNamed "linkwork/linkworklaw01.IntegerOrder" = some f) (hfn : Tryd.pinned.checked.prog.funcs[f]? = some fn) :
    true = Tryd.pinned.checked.prog.looks [] ∧ ∀ (j : Nat) t, fn.params[j]? = some t → Tryd.pinned.checked.prog.wantsStandIn t = false := by
  obtain rfl : f = 6 := Option.some.inj ((show Tryd.prog.funcNamed "linkwork/linkworklaw01.IntegerOrder" = some 6 by kernel_rfl).symm.trans hf) |>.symm
  obtain rfl : fn = Tryd.f6 := (Option.some.inj (Tryd.func6.symm.trans hfn)).symm
  refine ⟨by kernel_rfl, fun j t ht => ?_⟩
  rw [Tryd.params6] at ht
  have hm : t ∈ [24, 3] := by
    have := Array.mem_of_getElem? ht
    simp at this ⊢
    first
      | exact this
      | exact .inl this
  have hall : ([24, 3].all fun u => !Tryd.prog.wantsStandIn u) = true := by kernel_rfl
  exact (show Tryd.prog.wantsStandIn t = false by simpa using List.all_eq_true.1 hall t hm)
theorem order_holds : Rows.IntegerOrderCardSaid :=
  Claim7.holds_tied_plain_at .later [] _ _ _ _ order_said (fun _ h => by cases h) (by kernel_rfl) (fun _ h => by cases h) integerOrder_row_tie rfl ⟨rfl, rfl⟩ (by kernel_rfl) rfl order_plain (by kernel_rfl)
end Go.Proofs.YtkehcfclggmblaaDoor
