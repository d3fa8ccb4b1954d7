/- Part P5: lemmas and walks that the claim rests on. No claim is made here. -/
import Derived.Deep.RegionHeld3
import Derived.Deep.DrawnRows
import Derived.Deep.DeepCutAuto
import Derived.Test.YtpnnfbodphflpaaGreatDoorP4
set_option linter.unusedVariables false
/- Walks: the reference: fractions, sums and differences. -/
namespace Go.Proofs.YtpnnfbodphflpaaGreatDoor
open Go Go.RowKit Bn
attribute [local go_sem ↓] Go.wp_at_zero Go.wp_at_succ
set_option maxRecDepth 100000 in
set_option maxHeartbeats 2000000 in
/-- linkworkref02.Neg -/
theorem g_neg (w : World) (b : Bool) (A : Option Addr) (n c : Nat) (D : Option Addr) (m e : Nat) (q : Rat) (k : Nat) (h : QZ w b A n c D m e q k) (h0 : 0 < k) (hk : k ≤ 40000000) :
    Calls Tryz.prog 49 #[.agg #[.bool b, .slice A n c, .slice D m e]] w (RetF w (-q) k) := by
  have HS := Lib.hid (h.sz h0)
  go_enter Tryz.func49, Tryz.ntmps49
  go_wp2_with fail
  (with_reducible refine (g_parts _ b A n c D m e (q) (k) ?_ ?_ ?_).mono ?_); (exact (h.belw (((Below.refl _ _).alloc (Nat.le_refl _) _).alloc (by simp) _))); (first | omega | decide | assumption); (first | omega | decide | assumption); rintro e w1 ⟨b1, A1, n1, c1, b'1, A'1, n'1, c'1, rfl, h1, h'1, hb1⟩
  have q1 : Below w.heap.size w w1 := (((Below.refl _ _).alloc (Nat.le_refl _) _).alloc (by simp) _).trans (hb1.mono (by simp <;> omega))
  replace h := h.belw q1
  have x1_0 : Blk w1 (w.heap.size) 24 #[.bool b, .slice A n c, .slice D m e] := ((blkAt _ _ _ (by simp)).alloc _).below hb1 (by simp <;> omega)
  have x1_1 : Blk w1 (w.heap.size + 1) 24 #[.bool false, .slice none 0 0, .slice none 0 0] := (blkAt _ _ _ (by simp)).below hb1 (by simp)
  have bw1 : Below w.heap.size w w1 := (brefl w).trans (q1.mono (brefl w).size)
  have lw1 : w.heap.size + 2 ≤ w1.heap.size := by have := hb1.size; simp at this; omega
  clear hb1 q1
  go_wp2_with fail
  have p2 : Kp w1 ((w1.alloc (.cells #[.bool b1, .slice A1 n1 c1] 48)).alloc (.cells #[.bool b'1, .slice A'1 n'1 c'1] 48)) := (((Kp.refl w1).alloc (.cells #[.bool b1, .slice A1 n1 c1] 48)).alloc (.cells #[.bool b'1, .slice A'1 n'1 c'1] 48))
  have bw2 : Below w.heap.size w ((w1.alloc (.cells #[.bool b1, .slice A1 n1 c1] 48)).alloc (.cells #[.bool b'1, .slice A'1 n'1 c'1] 48)) := ((bw1.alloc (by first | omega | (simp <;> omega)) (.cells #[.bool b1, .slice A1 n1 c1] 48)).alloc (by first | omega | (simp <;> omega)) (.cells #[.bool b'1, .slice A'1 n'1 c'1] 48))
  have x2_0 : Blk ((w1.alloc (.cells #[.bool b1, .slice A1 n1 c1] 48)).alloc (.cells #[.bool b'1, .slice A'1 n'1 c'1] 48)) (w1.heap.size) 48 #[.bool b1, .slice A1 n1 c1] := ((blkAt _ _ _ (by simp)).alloc (.cells #[.bool b'1, .slice A'1 n'1 c'1] 48))
  have x2_1 : Blk ((w1.alloc (.cells #[.bool b1, .slice A1 n1 c1] 48)).alloc (.cells #[.bool b'1, .slice A'1 n'1 c'1] 48)) (w1.heap.size + 1) 48 #[.bool b'1, .slice A'1 n'1 c'1] := (blkAt _ _ _ (by simp))
  replace x1_0 : Blk ((w1.alloc (.cells #[.bool b1, .slice A1 n1 c1] 48)).alloc (.cells #[.bool b'1, .slice A'1 n'1 c'1] 48)) (w.heap.size) 24 #[.bool b, .slice A n c, .slice D m e] := ((x1_0.alloc (.cells #[.bool b1, .slice A1 n1 c1] 48)).alloc (.cells #[.bool b'1, .slice A'1 n'1 c'1] 48))
  replace x1_1 : Blk ((w1.alloc (.cells #[.bool b1, .slice A1 n1 c1] 48)).alloc (.cells #[.bool b'1, .slice A'1 n'1 c'1] 48)) (w.heap.size + 1) 24 #[.bool false, .slice none 0 0, .slice none 0 0] := ((x1_1.alloc (.cells #[.bool b1, .slice A1 n1 c1] 48)).alloc (.cells #[.bool b'1, .slice A'1 n'1 c'1] 48))
  have lw2 : w1.heap.size + 2 ≤ ((w1.alloc (.cells #[.bool b1, .slice A1 n1 c1] 48)).alloc (.cells #[.bool b'1, .slice A'1 n'1 c'1] 48)).heap.size := by simp
  generalize hE2 : ((w1.alloc (.cells #[.bool b1, .slice A1 n1 c1] 48)).alloc (.cells #[.bool b'1, .slice A'1 n'1 c'1] 48)) = w2 at p2 bw2 lw2 x2_0 x2_1 x1_0 x1_1 ⊢
  clear hE2
  replace h := h.keep p2
  replace h1 := h1.keep p2
  replace h'1 := h'1.keep p2
  clear bw1
  obtain ⟨lx1_0_0, lx1_0_1, lx1_0_2, lx1_0_3⟩ := lts0 x1_0.lt
  have cx1_1_0 : w2.cell? ⟨w.heap.size + 1, 0, none⟩ = some (.bool false) := x1_1.cell 0
  have fx1_1_0 : w2.frozen? ⟨w.heap.size + 1, 0, none⟩ = false := x1_1.frozen 0
  have cx1_1_1 : w2.cell? ⟨w.heap.size + 1, 1, none⟩ = some (.slice none 0 0) := x1_1.cell 1
  have fx1_1_1 : w2.frozen? ⟨w.heap.size + 1, 1, none⟩ = false := x1_1.frozen 1
  have cx1_1_2 : w2.cell? ⟨w.heap.size + 1, 2, none⟩ = some (.slice none 0 0) := x1_1.cell 2
  have fx1_1_2 : w2.frozen? ⟨w.heap.size + 1, 2, none⟩ = false := x1_1.frozen 2
  obtain ⟨lx1_1_0, lx1_1_1, lx1_1_2, lx1_1_3⟩ := lts1 x1_1.lt
  obtain ⟨cx2_0_0, cx2_0_1⟩ := x2_0.c2
  obtain ⟨lx2_0_0, lx2_0_1, lx2_0_2, lx2_0_3⟩ := lts0 x2_0.lt
  obtain ⟨cx2_1_0, cx2_1_1⟩ := x2_1.c2
  obtain ⟨lx2_1_0, lx2_1_1, lx2_1_2, lx2_1_3⟩ := lts1 x2_1.lt
  have nfx1_0_0 : ¬ w.heap.size = w.heap.size + 1 := by omega
  have nex1_0_0 : ¬ w.heap.size = w.heap.size + 1 := by omega
  have nfx2_0_0 : ¬ w1.heap.size = w.heap.size + 1 := by omega
  have nex2_0_0 : ¬ w1.heap.size = w.heap.size + 1 := by omega
  have nfx2_1_0 : ¬ w1.heap.size + 1 = w.heap.size + 1 := by omega
  have nex2_1_0 : ¬ w1.heap.size = w.heap.size := by omega
  go_region_held3 (fun w' => SeesX w2.heap.size (w.heap.size + 1) w2 w') (first | with_reducible exact SeesX.of (Nat.le_refl _) (by assumption) | with_reducible exact SeesX.of (Nat.le_refl _) (brefl _).drew | with_reducible exact (SeesX.set (SeesX.set (SeesX.set (SeesX.of (Nat.le_refl _) (by assumption))))) | with_reducible exact (SeesX.set (SeesX.set (SeesX.of (Nat.le_refl _) (by assumption)))) | with_reducible exact (SeesX.set (SeesX.of (Nat.le_refl _) (by assumption))) | exact SeesX.of (Nat.le_refl _) (below_drewN (brefl _) 1) | exact SeesX.of (Nat.le_refl _) (below_drewN (by assumption) _))
    (first
      | (go_at_call 99; (with_reducible refine (r01_neg _ b1 A1 n1 c1 ((q).num) ((k)) ?_ ?_).mono ?_); (exact h1.iz); (first | omega | decide | assumption); rintro e w3 ⟨b3, A3, n3, c3, rfl, h3, hb3⟩; replace hb3 := bnext (below_drewN (brefl _) 1) hb3; have q3 : Below w2.heap.size w2 w3 := bnext (brefl w2) hb3; replace h := h.belw hb3; replace h1 := h1.belw hb3; replace h'1 := h'1.belw hb3)
      | (go_at_call 95; (with_reducible refine (g_form _ b3 A3 n3 c3 (-((q).num)) (((k))) ?_ b'1 A'1 n'1 c'1 (((q).den : Int)) ((k)) ?_ (-q) (k) ?_ ?_ ?_ ?_).mono ?_); (exact h3.iz); (exact h'1.iz); (exact den_ne _); (exact (neg_q q).symm); (exact Sz_neg HS.out); (omega); rintro e w4 ⟨b4, A4, n4, c4, A'4, n'4, c'4, rfl, h4, hb4⟩; have q4 : Below w2.heap.size w2 w4 := bnext q3 hb4; replace h := h.belw hb4; replace h1 := h1.belw hb4; replace h'1 := h'1.belw hb4; replace h3 := h3.belw hb4; have x1_1 : Blk w4 (w.heap.size + 1) 24 #[.bool false, .slice none 0 0, .slice none 0 0] := x1_1.below q4 x1_1.lt; obtain ⟨cx1_1_0, cx1_1_1, cx1_1_2⟩ := x1_1.c3; obtain ⟨fx1_1_0, fx1_1_1, fx1_1_2⟩ := x1_1.f3))
  have bw4 : Below w.heap.size w w4 := bw2.trans (q4.mono bw2.size)
  clear lx1_0_0 lx1_0_1 lx1_0_2 lx1_0_3 cx1_1_0 fx1_1_0 cx1_1_1 fx1_1_1 cx1_1_2 fx1_1_2 lx1_1_0 lx1_1_1 lx1_1_2 lx1_1_3 cx2_0_0 cx2_0_1 lx2_0_0 lx2_0_1 lx2_0_2 lx2_0_3 cx2_1_0 cx2_1_1 lx2_1_0 lx2_1_1 lx2_1_2 lx2_1_3
  replace x1_0 := x1_0.below q4 x1_0.lt
  replace x2_0 := x2_0.below q4 x2_0.lt
  replace x2_1 := x2_1.below q4 x2_1.lt
  have lw4 : w2.heap.size ≤ w4.heap.size := q4.size
  obtain ⟨cx1_1_0, cx1_1_1, cx1_1_2⟩ := x1_1.c3
  obtain ⟨fx1_1_0, fx1_1_1, fx1_1_2⟩ := x1_1.f3
  go_wp2_with fail
  refine bodyPost_ret (v := .agg #[.bool b4, .slice A4 n4 c4, .slice A'4 n'4 c'4]) (by simp [results, Tryz.results49, go_sem, *] <;> first | rfl | exact ⟨rfl, rfl⟩) rfl ?_
  exact ⟨b4, A4, n4, c4, A'4, n'4, c'4, rfl, h4.keep ((((Kp.refl w4).setB (p := ⟨w.heap.size + 1, 0, none⟩) x1_1.box (by decide) (.bool b4)).setB (p := ⟨w.heap.size + 1, 1, none⟩) (x1_1.box.set ⟨w.heap.size + 1, 0, none⟩ (.bool b4)) (by decide) (.slice A4 n4 c4)).setB (p := ⟨w.heap.size + 1, 2, none⟩) ((x1_1.box.set ⟨w.heap.size + 1, 0, none⟩ (.bool b4)).set ⟨w.heap.size + 1, 1, none⟩ (.slice A4 n4 c4)) (by decide) (.slice A'4 n'4 c'4)), (((bw4.setCell (p := ⟨w.heap.size + 1, 0, none⟩) (by dsimp only; omega) (.bool b4)).setCell (p := ⟨w.heap.size + 1, 1, none⟩) (by dsimp only; omega) (.slice A4 n4 c4)).setCell (p := ⟨w.heap.size + 1, 2, none⟩) (by dsimp only; omega) (.slice A'4 n'4 c'4))⟩
set_option maxRecDepth 100000 in
set_option maxHeartbeats 2000000 in
/-- linkworkref02.Add -/
theorem g_add (w : World) (b : Bool) (A : Option Addr) (n c : Nat) (D : Option Addr) (m e : Nat) (q : Rat) (k : Nat) (h : QZ w b A n c D m e q k) (b' : Bool) (A' : Option Addr) (n' c' : Nat) (D' : Option Addr) (m' e' : Nat) (q' : Rat) (k' : Nat) (h' : QZ w b' A' n' c' D' m' e' q' k') (h0 : 0 < k) (hk : k ≤ 40000000) (h0' : 0 < k') (hk' : k' ≤ 40000000) :
    Calls Tryz.prog 47 #[.agg #[.bool b, .slice A n c, .slice D m e], .agg #[.bool b', .slice A' n' c', .slice D' m' e']] w (RetF w (q + q') (k + k' + 1)) := by
  have HS := Lib.hid (h.sz h0)
  have HS' := Lib.hid (h'.sz h0')
  go_enter Tryz.func47, Tryz.ntmps47
  go_wp2_with fail
  (with_reducible refine (g_parts _ b A n c D m e (q) (k) ?_ ?_ ?_).mono ?_); (exact (h.belw ((((Below.refl _ _).alloc (Nat.le_refl _) _).alloc (by simp) _).alloc (by simp <;> omega) _))); (first | omega | decide | assumption); (first | omega | decide | assumption); rintro e w1 ⟨b1, A1, n1, c1, b'1, A'1, n'1, c'1, rfl, h1, h'1, hb1⟩
  have q1 : Below w.heap.size w w1 := ((((Below.refl _ _).alloc (Nat.le_refl _) _).alloc (by simp) _).alloc (by simp <;> omega) _).trans (hb1.mono (by simp <;> omega))
  replace h := h.belw q1
  replace h' := h'.belw q1
  have x1_0 : Blk w1 (w.heap.size) 24 #[.bool b, .slice A n c, .slice D m e] := (((blkAt _ _ _ (by simp)).alloc _).alloc _).below hb1 (by simp <;> omega)
  have x1_1 : Blk w1 (w.heap.size + 1) 24 #[.bool b', .slice A' n' c', .slice D' m' e'] := ((blkAt _ _ _ (by simp)).alloc _).below hb1 (by simp <;> omega)
  have x1_2 : Blk w1 (w.heap.size + 1 + 1) 24 #[.bool false, .slice none 0 0, .slice none 0 0] := (blkAt _ _ _ (by simp)).below hb1 (by simp)
  have bw1 : Below w.heap.size w w1 := (brefl w).trans (q1.mono (brefl w).size)
  have lw1 : w.heap.size + 3 ≤ w1.heap.size := by have := hb1.size; simp at this; omega
  clear hb1 q1
  obtain ⟨cx1_1_0, cx1_1_1, cx1_1_2⟩ := x1_1.c3
  obtain ⟨lx1_1_0, lx1_1_1, lx1_1_2, lx1_1_3⟩ := lts1 x1_1.lt
  go_wp2_with fail
  (with_reducible refine (g_parts _ b' A' n' c' D' m' e' (q') (k') ?_ ?_ ?_).mono ?_); (exact (h'.belw (((Below.refl _ _).alloc (Nat.le_refl _) _).alloc (by simp) _))); (first | omega | decide | assumption); (first | omega | decide | assumption); rintro e w2 ⟨b2, A2, n2, c2, b'2, A'2, n'2, c'2, rfl, h2, h'2, hb2⟩
  clear cx1_1_0 cx1_1_1 cx1_1_2 lx1_1_0 lx1_1_1 lx1_1_2 lx1_1_3
  have q2 : Below w1.heap.size w1 w2 := (((Below.refl _ _).alloc (Nat.le_refl _) _).alloc (by simp) _).trans (hb2.mono (by simp <;> omega))
  replace h := h.belw q2
  replace h' := h'.belw q2
  replace h1 := h1.belw q2
  replace h'1 := h'1.belw q2
  replace x1_0 := x1_0.below q2 x1_0.lt
  replace x1_1 := x1_1.below q2 x1_1.lt
  replace x1_2 := x1_2.below q2 x1_2.lt
  have x2_0 : Blk w2 (w1.heap.size) 48 #[.bool b1, .slice A1 n1 c1] := ((blkAt _ _ _ (by simp)).alloc _).below hb2 (by simp <;> omega)
  have x2_1 : Blk w2 (w1.heap.size + 1) 48 #[.bool b'1, .slice A'1 n'1 c'1] := (blkAt _ _ _ (by simp)).below hb2 (by simp)
  have bw2 : Below w.heap.size w w2 := bw1.trans (q2.mono bw1.size)
  have lw2 : w1.heap.size + 2 ≤ w2.heap.size := by have := hb2.size; simp at this; omega
  clear hb2 q2 bw1
  go_wp2_with fail
  have p3 : Kp w2 ((w2.alloc (.cells #[.bool b2, .slice A2 n2 c2] 48)).alloc (.cells #[.bool b'2, .slice A'2 n'2 c'2] 48)) := (((Kp.refl w2).alloc (.cells #[.bool b2, .slice A2 n2 c2] 48)).alloc (.cells #[.bool b'2, .slice A'2 n'2 c'2] 48))
  have bw3 : Below w.heap.size w ((w2.alloc (.cells #[.bool b2, .slice A2 n2 c2] 48)).alloc (.cells #[.bool b'2, .slice A'2 n'2 c'2] 48)) := ((bw2.alloc (by first | omega | (simp <;> omega)) (.cells #[.bool b2, .slice A2 n2 c2] 48)).alloc (by first | omega | (simp <;> omega)) (.cells #[.bool b'2, .slice A'2 n'2 c'2] 48))
  have x3_0 : Blk ((w2.alloc (.cells #[.bool b2, .slice A2 n2 c2] 48)).alloc (.cells #[.bool b'2, .slice A'2 n'2 c'2] 48)) (w2.heap.size) 48 #[.bool b2, .slice A2 n2 c2] := ((blkAt _ _ _ (by simp)).alloc (.cells #[.bool b'2, .slice A'2 n'2 c'2] 48))
  have x3_1 : Blk ((w2.alloc (.cells #[.bool b2, .slice A2 n2 c2] 48)).alloc (.cells #[.bool b'2, .slice A'2 n'2 c'2] 48)) (w2.heap.size + 1) 48 #[.bool b'2, .slice A'2 n'2 c'2] := (blkAt _ _ _ (by simp))
  replace x1_0 : Blk ((w2.alloc (.cells #[.bool b2, .slice A2 n2 c2] 48)).alloc (.cells #[.bool b'2, .slice A'2 n'2 c'2] 48)) (w.heap.size) 24 #[.bool b, .slice A n c, .slice D m e] := ((x1_0.alloc (.cells #[.bool b2, .slice A2 n2 c2] 48)).alloc (.cells #[.bool b'2, .slice A'2 n'2 c'2] 48))
  replace x1_1 : Blk ((w2.alloc (.cells #[.bool b2, .slice A2 n2 c2] 48)).alloc (.cells #[.bool b'2, .slice A'2 n'2 c'2] 48)) (w.heap.size + 1) 24 #[.bool b', .slice A' n' c', .slice D' m' e'] := ((x1_1.alloc (.cells #[.bool b2, .slice A2 n2 c2] 48)).alloc (.cells #[.bool b'2, .slice A'2 n'2 c'2] 48))
  replace x1_2 : Blk ((w2.alloc (.cells #[.bool b2, .slice A2 n2 c2] 48)).alloc (.cells #[.bool b'2, .slice A'2 n'2 c'2] 48)) (w.heap.size + 1 + 1) 24 #[.bool false, .slice none 0 0, .slice none 0 0] := ((x1_2.alloc (.cells #[.bool b2, .slice A2 n2 c2] 48)).alloc (.cells #[.bool b'2, .slice A'2 n'2 c'2] 48))
  replace x2_0 : Blk ((w2.alloc (.cells #[.bool b2, .slice A2 n2 c2] 48)).alloc (.cells #[.bool b'2, .slice A'2 n'2 c'2] 48)) (w1.heap.size) 48 #[.bool b1, .slice A1 n1 c1] := ((x2_0.alloc (.cells #[.bool b2, .slice A2 n2 c2] 48)).alloc (.cells #[.bool b'2, .slice A'2 n'2 c'2] 48))
  replace x2_1 : Blk ((w2.alloc (.cells #[.bool b2, .slice A2 n2 c2] 48)).alloc (.cells #[.bool b'2, .slice A'2 n'2 c'2] 48)) (w1.heap.size + 1) 48 #[.bool b'1, .slice A'1 n'1 c'1] := ((x2_1.alloc (.cells #[.bool b2, .slice A2 n2 c2] 48)).alloc (.cells #[.bool b'2, .slice A'2 n'2 c'2] 48))
  have lw3 : w2.heap.size + 2 ≤ ((w2.alloc (.cells #[.bool b2, .slice A2 n2 c2] 48)).alloc (.cells #[.bool b'2, .slice A'2 n'2 c'2] 48)).heap.size := by simp
  generalize hE3 : ((w2.alloc (.cells #[.bool b2, .slice A2 n2 c2] 48)).alloc (.cells #[.bool b'2, .slice A'2 n'2 c'2] 48)) = w3 at p3 bw3 lw3 x3_0 x3_1 x1_0 x1_1 x1_2 x2_0 x2_1 ⊢
  clear hE3
  replace h := h.keep p3
  replace h' := h'.keep p3
  replace h1 := h1.keep p3
  replace h'1 := h'1.keep p3
  replace h2 := h2.keep p3
  replace h'2 := h'2.keep p3
  clear bw2
  obtain ⟨cx2_0_0, cx2_0_1⟩ := x2_0.c2
  obtain ⟨lx2_0_0, lx2_0_1, lx2_0_2, lx2_0_3⟩ := lts0 x2_0.lt
  obtain ⟨cx2_1_0, cx2_1_1⟩ := x2_1.c2
  obtain ⟨lx2_1_0, lx2_1_1, lx2_1_2, lx2_1_3⟩ := lts1 x2_1.lt
  obtain ⟨cx3_0_0, cx3_0_1⟩ := x3_0.c2
  obtain ⟨lx3_0_0, lx3_0_1, lx3_0_2, lx3_0_3⟩ := lts0 x3_0.lt
  obtain ⟨cx3_1_0, cx3_1_1⟩ := x3_1.c2
  obtain ⟨lx3_1_0, lx3_1_1, lx3_1_2, lx3_1_3⟩ := lts1 x3_1.lt
  refine wp_region_lin (B := w.heap.size) (fr := fun xf => ⟨List.toArray (.agg #[.bool b, .slice A n c, .slice D m e] :: .agg #[.bool b', .slice A' n' c', .slice D' m' e'] :: .pointer (some ⟨w.heap.size, 0, none⟩) :: .pointer (some ⟨w.heap.size + 1, 0, none⟩) :: .pointer (some ⟨w.heap.size + 1 + 1, 0, none⟩) :: .pointer (some ⟨w1.heap.size, 0, none⟩) :: .pointer (some ⟨w1.heap.size + 1, 0, none⟩) :: .pointer (some ⟨w2.heap.size, 0, none⟩) :: .pointer (some ⟨w2.heap.size + 1, 0, none⟩) :: .tuple #[.agg #[.bool b1, .slice A1 n1 c1], .agg #[.bool b'1, .slice A'1 n'1 c'1]] :: .agg #[.bool b, .slice A n c, .slice D m e] :: .tuple #[.agg #[.bool b1, .slice A1 n1 c1], .agg #[.bool b'1, .slice A'1 n'1 c'1]] :: .agg #[.bool b1, .slice A1 n1 c1] :: .agg #[.bool b'1, .slice A'1 n'1 c'1] :: .tuple #[.agg #[.bool b2, .slice A2 n2 c2], .agg #[.bool b'2, .slice A'2 n'2 c'2]] :: .agg #[.bool b', .slice A' n' c', .slice D' m' e'] :: .tuple #[.agg #[.bool b2, .slice A2 n2 c2], .agg #[.bool b'2, .slice A'2 n'2 c'2]] :: .agg #[.bool b2, .slice A2 n2 c2] :: .agg #[.bool b'2, .slice A'2 n'2 c'2] :: xf 0 :: xf 1 :: xf 2 :: xf 3 :: xf 4 :: xf 5 :: xf 6 :: xf 7 :: xf 8 :: xf 9 :: xf 10 :: []), []⟩) (R := fun i => List.getD ((PEq (.agg #[.bool b1, .slice A1 n1 c1])) :: (PEq (.agg #[.bool b'2, .slice A'2 n'2 c'2])) :: (VI (((q).num) * (((q').den : Int))) (((k)) + ((k')))) :: (PEq (.agg #[.bool b2, .slice A2 n2 c2])) :: (PEq (.agg #[.bool b'1, .slice A'1 n'1 c'1])) :: (VI (((q').num) * (((q).den : Int))) (((k')) + ((k)))) :: (VI ((((q).num) * (((q').den : Int))) + (((q').num) * (((q).den : Int)))) ((((k)) + ((k'))) + (((k')) + ((k))) + 1)) :: (PEq (.agg #[.bool b'1, .slice A'1 n'1 c'1])) :: (PEq (.agg #[.bool b'2, .slice A'2 n'2 c'2])) :: (VI ((((q).den : Int)) * (((q').den : Int))) (((k)) + ((k')))) :: (VQ (q + q') (k + k' + 1)) :: PAny :: []) i (fun _ _ => True)) (es := []) (ow := [⟨w.heap.size, 12, 0, 24, #[.bool b, .slice A n c, .slice D m e], CAny⟩, ⟨w.heap.size + 1, 12, 0, 24, #[.bool b', .slice A' n' c', .slice D' m' e'], CAny⟩, ⟨w.heap.size + 1 + 1, 11, 0, 24, #[.bool false, .slice none 0 0, .slice none 0 0], CQ (q + q') (k + k' + 1)⟩, ⟨w1.heap.size, 12, 0, 48, #[.bool b1, .slice A1 n1 c1], CAny⟩, ⟨w1.heap.size + 1, 12, 0, 48, #[.bool b'1, .slice A'1 n'1 c'1], CAny⟩, ⟨w2.heap.size, 12, 0, 48, #[.bool b2, .slice A2 n2 c2], CAny⟩, ⟨w2.heap.size + 1, 12, 0, 48, #[.bool b'2, .slice A'2 n'2 c'2], CAny⟩]) (x0 := (fun _ => undef)) (by kernel_rfl)
    (each_of ⟨fun _ _ => rfl, fun _ _ => rfl, fun _ _ => rfl, fun _ _ => rfl, fun _ _ => rfl, fun _ _ => rfl, fun _ _ => rfl, fun _ _ => rfl, fun _ _ => rfl, fun _ _ => rfl, fun _ _ => rfl, fun _ _ => rfl, trivial⟩) (each_of (acyc_from _ 0 (by kernel_rfl))) (AllStab.get _ ⟨stEq _, stEq _, stI _ _, stEq _, stEq _, stI _ _, stI _ _, stEq _, stEq _, stI _ _, stQ _ _, stAny, trivial⟩)
    (fun _ h => nomatch h) (List.forall_mem_cons.2 ⟨scAny, List.forall_mem_cons.2 ⟨scAny, List.forall_mem_cons.2 ⟨scQ _ _, List.forall_mem_cons.2 ⟨scAny, List.forall_mem_cons.2 ⟨scAny, List.forall_mem_cons.2 ⟨scAny, List.forall_mem_cons.2 ⟨scAny, fun _ h => nomatch h⟩⟩⟩⟩⟩⟩⟩) (fun _ h => nomatch h) bw3.size
    (List.forall_mem_cons.2 ⟨⟨x1_0, by show w.heap.size ≤ w.heap.size; omega⟩, List.forall_mem_cons.2 ⟨⟨x1_1, by show w.heap.size ≤ w.heap.size + 1; omega⟩, List.forall_mem_cons.2 ⟨⟨x1_2, by show w.heap.size ≤ w.heap.size + 1 + 1; omega⟩, List.forall_mem_cons.2 ⟨⟨x2_0, by show w.heap.size ≤ w1.heap.size; omega⟩, List.forall_mem_cons.2 ⟨⟨x2_1, by show w.heap.size ≤ w1.heap.size + 1; omega⟩, List.forall_mem_cons.2 ⟨⟨x3_0, by show w.heap.size ≤ w2.heap.size; omega⟩, List.forall_mem_cons.2 ⟨⟨x3_1, by show w.heap.size ≤ w2.heap.size + 1; omega⟩, fun _ h => nomatch h⟩⟩⟩⟩⟩⟩⟩) (ownDist (by simp <;> omega))
    (each_of ⟨?_, ?_, ?_, ?_, ?_, ?_, ?_, ?_, ?_, ?_, ?_, ?_, trivial⟩) ?_
  · exact .inl ⟨by simp, by simp, fun xf wq hk hbl hd K hK => by
      have y : Blk wq (w1.heap.size) 48 #[.bool b1, .slice A1 n1 c1] := hbl _ (List.Mem.tail _ (List.Mem.tail _ (List.Mem.tail _ (List.Mem.head _)))) (by simp [Region.binds])
      obtain ⟨hcl0, hcl1⟩ := y.c2
      (try dsimp only)
      go_simp
      exact hK.out (.agg #[.bool b1, .slice A1 n1 c1]) _ rfl (brefl _)⟩
  · exact .inl ⟨by simp, by simp, fun xf wq hk hbl hd K hK => by
      have y : Blk wq (w2.heap.size + 1) 48 #[.bool b'2, .slice A'2 n'2 c'2] := hbl _ (List.Mem.tail _ (List.Mem.tail _ (List.Mem.tail _ (List.Mem.tail _ (List.Mem.tail _ (List.Mem.tail _ (List.Mem.head _))))))) (by simp [Region.binds])
      obtain ⟨hcl0, hcl1⟩ := y.c2
      (try dsimp only)
      go_simp
      exact hK.out (.agg #[.bool b'2, .slice A'2 n'2 c'2]) _ rfl (brefl _)⟩
  · exact .inl ⟨by simp, by simp, fun xf wq hk hbl hd K hK => by
      have d0 : xf 0 = .agg #[.bool b1, .slice A1 n1 c1] := hd ⟨0, .data⟩ (by simp) rfl
      have d1 : xf 1 = .agg #[.bool b'2, .slice A'2 n'2 c'2] := hd ⟨1, .data⟩ (by simp) rfl
      (try dsimp only); (try simp only [d0, d1])
      go_simp
      go_at_call 96
      (with_reducible refine (r01_mul _ b1 A1 n1 c1 ((q).num) ((k)) ?_ b'2 A'2 n'2 c'2 (((q').den : Int)) ((k')) ?_ ?_).mono ?_); (exact (h1.keep hk).iz); (exact (h'2.keep hk).iz); (first | omega | decide | assumption); rintro e wr ⟨b5, A5, n5, c5, rfl, h5, hbr⟩
      have hz := hK.out _ _ ⟨b5, A5, n5, c5, rfl, h5⟩ hbr
      simp only [d0, d1] at hz
      exact hz⟩
  · exact .inl ⟨by simp, by simp, fun xf wq hk hbl hd K hK => by
      have y : Blk wq (w2.heap.size) 48 #[.bool b2, .slice A2 n2 c2] := hbl _ (List.Mem.tail _ (List.Mem.tail _ (List.Mem.tail _ (List.Mem.tail _ (List.Mem.tail _ (List.Mem.head _)))))) (by simp [Region.binds])
      obtain ⟨hcl0, hcl1⟩ := y.c2
      (try dsimp only)
      go_simp
      exact hK.out (.agg #[.bool b2, .slice A2 n2 c2]) _ rfl (brefl _)⟩
  · exact .inl ⟨by simp, by simp, fun xf wq hk hbl hd K hK => by
      have y : Blk wq (w1.heap.size + 1) 48 #[.bool b'1, .slice A'1 n'1 c'1] := hbl _ (List.Mem.tail _ (List.Mem.tail _ (List.Mem.tail _ (List.Mem.tail _ (List.Mem.head _))))) (by simp [Region.binds])
      obtain ⟨hcl0, hcl1⟩ := y.c2
      (try dsimp only)
      go_simp
      exact hK.out (.agg #[.bool b'1, .slice A'1 n'1 c'1]) _ rfl (brefl _)⟩
  · exact .inl ⟨by simp, by simp, fun xf wq hk hbl hd K hK => by
      have d3 : xf 3 = .agg #[.bool b2, .slice A2 n2 c2] := hd ⟨3, .data⟩ (by simp) rfl
      have d4 : xf 4 = .agg #[.bool b'1, .slice A'1 n'1 c'1] := hd ⟨4, .data⟩ (by simp) rfl
      (try dsimp only); (try simp only [d3, d4])
      go_simp
      go_at_call 96
      (with_reducible refine (r01_mul _ b2 A2 n2 c2 ((q').num) ((k')) ?_ b'1 A'1 n'1 c'1 (((q).den : Int)) ((k)) ?_ ?_).mono ?_); (exact (h2.keep hk).iz); (exact (h'1.keep hk).iz); (first | omega | decide | assumption); rintro e wr ⟨b6, A6, n6, c6, rfl, h6, hbr⟩
      have hz := hK.out _ _ ⟨b6, A6, n6, c6, rfl, h6⟩ hbr
      simp only [d3, d4] at hz
      exact hz⟩
  · exact .inl ⟨by simp, by simp, fun xf wq hk hbl hd K hK => by
      obtain ⟨b5, A5, n5, c5, d2, h5⟩ : VI (((q).num) * (((q').den : Int))) (((k)) + ((k'))) (xf 2) wq := hd ⟨2, .data⟩ (by simp) rfl
      obtain ⟨b6, A6, n6, c6, d5, h6⟩ : VI (((q').num) * (((q).den : Int))) (((k')) + ((k))) (xf 5) wq := hd ⟨5, .data⟩ (by simp) rfl
      (try dsimp only); (try simp only [d2, d5])
      go_simp
      go_at_call 98
      (with_reducible refine (r01_add _ b5 A5 n5 c5 (((q).num) * (((q').den : Int))) (((k)) + ((k'))) ?_ b6 A6 n6 c6 (((q').num) * (((q).den : Int))) (((k')) + ((k))) ?_ ?_).mono ?_); (exact h5.iz); (exact h6.iz); (first | omega | decide | assumption); rintro e wr ⟨b7, A7, n7, c7, rfl, h7, hbr⟩
      have hz := hK.out _ _ ⟨b7, A7, n7, c7, rfl, h7⟩ hbr
      simp only [d2, d5] at hz
      exact hz⟩
  · exact .inl ⟨by simp, by simp, fun xf wq hk hbl hd K hK => by
      have y : Blk wq (w1.heap.size + 1) 48 #[.bool b'1, .slice A'1 n'1 c'1] := hbl _ (List.Mem.tail _ (List.Mem.tail _ (List.Mem.tail _ (List.Mem.tail _ (List.Mem.head _))))) (by simp [Region.binds])
      obtain ⟨hcl0, hcl1⟩ := y.c2
      (try dsimp only)
      go_simp
      exact hK.out (.agg #[.bool b'1, .slice A'1 n'1 c'1]) _ rfl (brefl _)⟩
  · exact .inl ⟨by simp, by simp, fun xf wq hk hbl hd K hK => by
      have y : Blk wq (w2.heap.size + 1) 48 #[.bool b'2, .slice A'2 n'2 c'2] := hbl _ (List.Mem.tail _ (List.Mem.tail _ (List.Mem.tail _ (List.Mem.tail _ (List.Mem.tail _ (List.Mem.tail _ (List.Mem.head _))))))) (by simp [Region.binds])
      obtain ⟨hcl0, hcl1⟩ := y.c2
      (try dsimp only)
      go_simp
      exact hK.out (.agg #[.bool b'2, .slice A'2 n'2 c'2]) _ rfl (brefl _)⟩
  · exact .inl ⟨by simp, by simp, fun xf wq hk hbl hd K hK => by
      have d7 : xf 7 = .agg #[.bool b'1, .slice A'1 n'1 c'1] := hd ⟨7, .data⟩ (by simp) rfl
      have d8 : xf 8 = .agg #[.bool b'2, .slice A'2 n'2 c'2] := hd ⟨8, .data⟩ (by simp) rfl
      (try dsimp only); (try simp only [d7, d8])
      go_simp
      go_at_call 96
      (with_reducible refine (r01_mul _ b'1 A'1 n'1 c'1 (((q).den : Int)) ((k)) ?_ b'2 A'2 n'2 c'2 (((q').den : Int)) ((k')) ?_ ?_).mono ?_); (exact (h'1.keep hk).iz); (exact (h'2.keep hk).iz); (first | omega | decide | assumption); rintro e wr ⟨b8, A8, n8, c8, rfl, h8, hbr⟩
      have hz := hK.out _ _ ⟨b8, A8, n8, c8, rfl, h8⟩ hbr
      simp only [d7, d8] at hz
      exact hz⟩
  · exact .inl ⟨by simp, by simp, fun xf wq hk hbl hd K hK => by
      obtain ⟨b7, A7, n7, c7, d6, h7⟩ : VI ((((q).num) * (((q').den : Int))) + (((q').num) * (((q).den : Int)))) ((((k)) + ((k'))) + (((k')) + ((k))) + 1) (xf 6) wq := hd ⟨6, .data⟩ (by simp) rfl
      obtain ⟨b8, A8, n8, c8, d9, h8⟩ : VI ((((q).den : Int)) * (((q').den : Int))) (((k)) + ((k'))) (xf 9) wq := hd ⟨9, .data⟩ (by simp) rfl
      (try dsimp only); (try simp only [d6, d9])
      go_simp
      go_at_call 95
      (with_reducible refine (g_form _ b7 A7 n7 c7 ((((q).num) * (((q').den : Int))) + (((q').num) * (((q).den : Int)))) ((((k)) + ((k'))) + (((k')) + ((k))) + 1) ?_ b8 A8 n8 c8 ((((q).den : Int)) * (((q').den : Int))) (((k)) + ((k'))) ?_ (q + q') (k + k' + 1) ?_ ?_ ?_ ?_).mono ?_); (exact h7.iz); (exact h8.iz); (exact Int.mul_ne_zero (den_ne _) (den_ne _)); (exact (add_q _ _).symm); (exact Sz_add HS.out HS'.out); (omega); rintro e wr ⟨b9, A9, n9, c9, A'9, n'9, c'9, rfl, h9, hbr⟩
      have hz := hK.out _ _ ⟨b9, A9, n9, c9, A'9, n'9, c'9, rfl, h9⟩ hbr
      simp only [d6, d9] at hz
      exact hz⟩
  · exact .inr (.inr (.inr ⟨⟨w.heap.size + 1 + 1, 11, 0, 24, #[.bool false, .slice none 0 0, .slice none 0 0], CQ (q + q') (k + k' + 1)⟩, by simp, rfl, by simp, by simp, (show KT 24 = false by decide), fun _ _ => True.intro, fun xf wq hblk hd => by
      obtain ⟨b9, A9, n9, c9, A'9, n'9, c'9, d10, h9⟩ : VQ (q + q') (k + k' + 1) (xf 10) wq := hd ⟨10, .data⟩ (by simp) rfl
      dsimp only at hblk
      refine ⟨[.bool b9, .slice A9 n9 c9, .slice A'9 n'9 c'9], fun w' hk => ⟨b9, A9, n9, c9, A'9, n'9, c'9, rfl, h9.keep hk⟩, fun K hK => ?_⟩
      have hc0 : wq.cell? ⟨w.heap.size + 1 + 1, 0, none⟩ = some (.bool false) := hblk.cell 0
      have hc1 : wq.cell? ⟨w.heap.size + 1 + 1, 1, none⟩ = some (.slice none 0 0) := hblk.cell 1
      have hc2 : wq.cell? ⟨w.heap.size + 1 + 1, 2, none⟩ = some (.slice none 0 0) := hblk.cell 2
      have hf0 : wq.frozen? ⟨w.heap.size + 1 + 1, 0, none⟩ = false := hblk.frozen 0
      have hf1 : wq.frozen? ⟨w.heap.size + 1 + 1, 1, none⟩ = false := hblk.frozen 1
      have hf2 : wq.frozen? ⟨w.heap.size + 1 + 1, 2, none⟩ = false := hblk.frozen 2
      (try dsimp only)
      simp only [d10]
      go_simp
      have hz := hK.out undef
      simp only [d10] at hz
      exact hz⟩))
  clear cx2_0_0 cx2_0_1 lx2_0_0 lx2_0_1 lx2_0_2 lx2_0_3 cx2_1_0 cx2_1_1 lx2_1_0 lx2_1_1 lx2_1_2 lx2_1_3 cx3_0_0 cx3_0_1 lx3_0_0 lx3_0_1 lx3_0_2 lx3_0_3 cx3_1_0 cx3_1_1 lx3_1_0 lx3_1_1 lx3_1_2 lx3_1_3
  intro y4 w4 kq4 hbl4 lw4 how hrr hfl hds
  replace h := h.keep kq4
  replace h' := h'.keep kq4
  replace h1 := h1.keep kq4
  replace h'1 := h'1.keep kq4
  replace h2 := h2.keep kq4
  replace h'2 := h'2.keep kq4
  obtain ⟨_, z4_0, ez, _⟩ := how _ (List.Mem.head _)
  obtain rfl := ez (by simp)
  dsimp only at z4_0
  obtain ⟨_, z4_1, ez, _⟩ := how _ (List.Mem.tail _ (List.Mem.head _))
  obtain rfl := ez (by simp)
  dsimp only at z4_1
  obtain ⟨_, z4_2, _, ez⟩ := how _ (List.Mem.tail _ (List.Mem.tail _ (List.Mem.head _)))
  obtain ⟨b9, A9, n9, c9, A'9, n'9, c'9, rfl, h9⟩ := ez (by simp)
  dsimp only at z4_2
  obtain ⟨_, z4_3, ez, _⟩ := how _ (List.Mem.tail _ (List.Mem.tail _ (List.Mem.tail _ (List.Mem.head _))))
  obtain rfl := ez (by simp)
  dsimp only at z4_3
  obtain ⟨_, z4_4, ez, _⟩ := how _ (List.Mem.tail _ (List.Mem.tail _ (List.Mem.tail _ (List.Mem.tail _ (List.Mem.head _)))))
  obtain rfl := ez (by simp)
  dsimp only at z4_4
  obtain ⟨_, z4_5, ez, _⟩ := how _ (List.Mem.tail _ (List.Mem.tail _ (List.Mem.tail _ (List.Mem.tail _ (List.Mem.tail _ (List.Mem.head _))))))
  obtain rfl := ez (by simp)
  dsimp only at z4_5
  obtain ⟨_, z4_6, ez, _⟩ := how _ (List.Mem.tail _ (List.Mem.tail _ (List.Mem.tail _ (List.Mem.tail _ (List.Mem.tail _ (List.Mem.tail _ (List.Mem.head _)))))))
  obtain rfl := ez (by simp)
  dsimp only at z4_6
  (try dsimp only)
  clear hrr hfl how hds 
  clear x1_0 x1_1 x1_2 x2_0 x2_1 x3_0 x3_1
  have bw4 : Below w.heap.size w w4 := bw3.trans hbl4
  clear bw3
  have cz4_2_0 : w4.cell? ⟨w.heap.size + 1 + 1, 0, none⟩ = some (.bool b9) := z4_2.cell 0
  have cz4_2_1 : w4.cell? ⟨w.heap.size + 1 + 1, 1, none⟩ = some (.slice A9 n9 c9) := z4_2.cell 1
  have cz4_2_2 : w4.cell? ⟨w.heap.size + 1 + 1, 2, none⟩ = some (.slice A'9 n'9 c'9) := z4_2.cell 2
  obtain ⟨lz4_2_0, lz4_2_1, lz4_2_2, lz4_2_3⟩ := lts2 z4_2.lt
  go_wp2_with fail
  refine bodyPost_ret (v := .agg #[.bool b9, .slice A9 n9 c9, .slice A'9 n'9 c'9]) (by simp [results, Tryz.results47, go_sem, *] <;> first | rfl | exact ⟨rfl, rfl⟩) rfl ?_
  exact ⟨b9, A9, n9, c9, A'9, n'9, c'9, rfl, h9.keep (Kp.refl w4), bw4⟩
set_option maxRecDepth 100000 in
set_option maxHeartbeats 2000000 in
/-- linkworkref02.Sub -/
theorem g_sub (w : World) (b : Bool) (A : Option Addr) (n c : Nat) (D : Option Addr) (m e : Nat) (q : Rat) (k : Nat) (h : QZ w b A n c D m e q k) (b' : Bool) (A' : Option Addr) (n' c' : Nat) (D' : Option Addr) (m' e' : Nat) (q' : Rat) (k' : Nat) (h' : QZ w b' A' n' c' D' m' e' q' k') (h0 : 0 < k) (hk : k ≤ 40000000) (h0' : 0 < k') (hk' : k' ≤ 40000000) :
    Calls Tryz.prog 45 #[.agg #[.bool b, .slice A n c, .slice D m e], .agg #[.bool b', .slice A' n' c', .slice D' m' e']] w (RetF w (q - q') (k + k' + 1)) := by
  rw [show q - q' = q + -q' from Rat.sub_eq_add_neg q q']
  go_enter Tryz.func45, Tryz.ntmps45
  go_wp2_with fail
  have p1 : Kp w (((w.alloc (.cells #[.bool b, .slice A n c, .slice D m e] 24)).alloc (.cells #[.bool b', .slice A' n' c', .slice D' m' e'] 24)).alloc (.cells #[.bool false, .slice none 0 0, .slice none 0 0] 24)) := ((((Kp.refl w).alloc (.cells #[.bool b, .slice A n c, .slice D m e] 24)).alloc (.cells #[.bool b', .slice A' n' c', .slice D' m' e'] 24)).alloc (.cells #[.bool false, .slice none 0 0, .slice none 0 0] 24))
  have bw1 : Below w.heap.size w (((w.alloc (.cells #[.bool b, .slice A n c, .slice D m e] 24)).alloc (.cells #[.bool b', .slice A' n' c', .slice D' m' e'] 24)).alloc (.cells #[.bool false, .slice none 0 0, .slice none 0 0] 24)) := ((((brefl w).alloc (by first | omega | (simp <;> omega)) (.cells #[.bool b, .slice A n c, .slice D m e] 24)).alloc (by first | omega | (simp <;> omega)) (.cells #[.bool b', .slice A' n' c', .slice D' m' e'] 24)).alloc (by first | omega | (simp <;> omega)) (.cells #[.bool false, .slice none 0 0, .slice none 0 0] 24))
  have x1_0 : Blk (((w.alloc (.cells #[.bool b, .slice A n c, .slice D m e] 24)).alloc (.cells #[.bool b', .slice A' n' c', .slice D' m' e'] 24)).alloc (.cells #[.bool false, .slice none 0 0, .slice none 0 0] 24)) (w.heap.size) 24 #[.bool b, .slice A n c, .slice D m e] := (((blkAt _ _ _ (by simp)).alloc (.cells #[.bool b', .slice A' n' c', .slice D' m' e'] 24)).alloc (.cells #[.bool false, .slice none 0 0, .slice none 0 0] 24))
  have x1_1 : Blk (((w.alloc (.cells #[.bool b, .slice A n c, .slice D m e] 24)).alloc (.cells #[.bool b', .slice A' n' c', .slice D' m' e'] 24)).alloc (.cells #[.bool false, .slice none 0 0, .slice none 0 0] 24)) (w.heap.size + 1) 24 #[.bool b', .slice A' n' c', .slice D' m' e'] := ((blkAt _ _ _ (by simp)).alloc (.cells #[.bool false, .slice none 0 0, .slice none 0 0] 24))
  have x1_2 : Blk (((w.alloc (.cells #[.bool b, .slice A n c, .slice D m e] 24)).alloc (.cells #[.bool b', .slice A' n' c', .slice D' m' e'] 24)).alloc (.cells #[.bool false, .slice none 0 0, .slice none 0 0] 24)) (w.heap.size + 1 + 1) 24 #[.bool false, .slice none 0 0, .slice none 0 0] := (blkAt _ _ _ (by simp))
  have lw1 : w.heap.size + 3 ≤ (((w.alloc (.cells #[.bool b, .slice A n c, .slice D m e] 24)).alloc (.cells #[.bool b', .slice A' n' c', .slice D' m' e'] 24)).alloc (.cells #[.bool false, .slice none 0 0, .slice none 0 0] 24)).heap.size := by simp
  generalize hE1 : (((w.alloc (.cells #[.bool b, .slice A n c, .slice D m e] 24)).alloc (.cells #[.bool b', .slice A' n' c', .slice D' m' e'] 24)).alloc (.cells #[.bool false, .slice none 0 0, .slice none 0 0] 24)) = w1 at p1 bw1 lw1 x1_0 x1_1 x1_2 ⊢
  clear hE1
  replace h := h.keep p1
  replace h' := h'.keep p1
  obtain ⟨cx1_0_0, cx1_0_1, cx1_0_2⟩ := x1_0.c3
  obtain ⟨lx1_0_0, lx1_0_1, lx1_0_2, lx1_0_3⟩ := lts0 x1_0.lt
  obtain ⟨cx1_1_0, cx1_1_1, cx1_1_2⟩ := x1_1.c3
  obtain ⟨lx1_1_0, lx1_1_1, lx1_1_2, lx1_1_3⟩ := lts1 x1_1.lt
  obtain ⟨cx1_2_0, cx1_2_1, cx1_2_2⟩ := x1_2.c3
  obtain ⟨fx1_2_0, fx1_2_1, fx1_2_2⟩ := x1_2.f3
  obtain ⟨lx1_2_0, lx1_2_1, lx1_2_2, lx1_2_3⟩ := lts2 x1_2.lt
  have nfx1_0_0 : ¬ w.heap.size = w.heap.size + 1 + 1 := by omega
  have nex1_0_0 : ¬ w.heap.size = w.heap.size + 2 := by omega
  have nfx1_1_0 : ¬ w.heap.size + 1 = w.heap.size + 1 + 1 := by omega
  have nex1_1_0 : ¬ w.heap.size = w.heap.size + 1 := by omega
  go_region_held3 (fun w' => SeesX w1.heap.size (w.heap.size + 1 + 1) w1 w') (first | with_reducible exact SeesX.of (Nat.le_refl _) (by assumption) | with_reducible exact SeesX.of (Nat.le_refl _) (brefl _).drew | with_reducible exact (SeesX.set (SeesX.set (SeesX.set (SeesX.of (Nat.le_refl _) (by assumption))))) | with_reducible exact (SeesX.set (SeesX.set (SeesX.of (Nat.le_refl _) (by assumption)))) | with_reducible exact (SeesX.set (SeesX.of (Nat.le_refl _) (by assumption))) | exact SeesX.of (Nat.le_refl _) (below_drewN (brefl _) 1) | exact SeesX.of (Nat.le_refl _) (below_drewN (by assumption) _))
    (first
      | (go_at_call 49; (with_reducible refine (g_neg _ b' A' n' c' D' m' e' (q') (k') ?_ ?_ ?_).mono ?_); (exact h'); (first | omega | decide | assumption); (first | omega | decide | assumption); rintro e w2 ⟨b2, A2, n2, c2, A'2, n'2, c'2, rfl, h2, hb2⟩; replace hb2 := bnext (below_drewN (brefl _) 1) hb2; have q2 : Below w1.heap.size w1 w2 := bnext (brefl w1) hb2; replace h := h.belw hb2; replace h' := h'.belw hb2)
      | (go_at_call 47; (with_reducible refine (g_add _ b A n c D m e (q) (k) ?_ b2 A2 n2 c2 A'2 n'2 c'2 (-(q')) ((k')) ?_ ?_ ?_ ?_ ?_).mono ?_); (exact h); (exact h2.qz); (first | omega | decide | assumption); (first | omega | decide | assumption); (first | omega | decide | assumption); (first | omega | decide | assumption); rintro e w3 ⟨b3, A3, n3, c3, A'3, n'3, c'3, rfl, h3, hb3⟩; have q3 : Below w1.heap.size w1 w3 := bnext q2 hb3; replace h := h.belw hb3; replace h' := h'.belw hb3; replace h2 := h2.belw hb3; have x1_2 : Blk w3 (w.heap.size + 1 + 1) 24 #[.bool false, .slice none 0 0, .slice none 0 0] := x1_2.below q3 x1_2.lt; obtain ⟨cx1_2_0, cx1_2_1, cx1_2_2⟩ := x1_2.c3; obtain ⟨fx1_2_0, fx1_2_1, fx1_2_2⟩ := x1_2.f3))
  have bw3 : Below w.heap.size w w3 := bw1.trans (q3.mono bw1.size)
  clear cx1_0_0 cx1_0_1 cx1_0_2 lx1_0_0 lx1_0_1 lx1_0_2 lx1_0_3 cx1_1_0 cx1_1_1 cx1_1_2 lx1_1_0 lx1_1_1 lx1_1_2 lx1_1_3 cx1_2_0 fx1_2_0 cx1_2_1 fx1_2_1 cx1_2_2 fx1_2_2 lx1_2_0 lx1_2_1 lx1_2_2 lx1_2_3
  replace x1_0 := x1_0.below q3 x1_0.lt
  replace x1_1 := x1_1.below q3 x1_1.lt
  have lw3 : w1.heap.size ≤ w3.heap.size := q3.size
  obtain ⟨cx1_2_0, cx1_2_1, cx1_2_2⟩ := x1_2.c3
  obtain ⟨fx1_2_0, fx1_2_1, fx1_2_2⟩ := x1_2.f3
  go_wp2_with fail
  refine bodyPost_ret (v := .agg #[.bool b3, .slice A3 n3 c3, .slice A'3 n'3 c'3]) (by simp [results, Tryz.results45, go_sem, *] <;> first | rfl | exact ⟨rfl, rfl⟩) rfl ?_
  exact ⟨b3, A3, n3, c3, A'3, n'3, c'3, rfl, h3.keep ((((Kp.refl w3).setB (p := ⟨w.heap.size + 1 + 1, 0, none⟩) x1_2.box (by decide) (.bool b3)).setB (p := ⟨w.heap.size + 1 + 1, 1, none⟩) (x1_2.box.set ⟨w.heap.size + 1 + 1, 0, none⟩ (.bool b3)) (by decide) (.slice A3 n3 c3)).setB (p := ⟨w.heap.size + 1 + 1, 2, none⟩) ((x1_2.box.set ⟨w.heap.size + 1 + 1, 0, none⟩ (.bool b3)).set ⟨w.heap.size + 1 + 1, 1, none⟩ (.slice A3 n3 c3)) (by decide) (.slice A'3 n'3 c'3)), (((bw3.setCell (p := ⟨w.heap.size + 1 + 1, 0, none⟩) (by dsimp only; omega) (.bool b3)).setCell (p := ⟨w.heap.size + 1 + 1, 1, none⟩) (by dsimp only; omega) (.slice A3 n3 c3)).setCell (p := ⟨w.heap.size + 1 + 1, 2, none⟩) (by dsimp only; omega) (.slice A'3 n'3 c'3))⟩
set_option maxRecDepth 100000 in
set_option maxHeartbeats 2000000 in
/-- linkworkref02.Cmp -/
theorem g_cmp (w : World) (b : Bool) (A : Option Addr) (n c : Nat) (D : Option Addr) (m e : Nat) (q : Rat) (k : Nat) (h : QZ w b A n c D m e q k) (b' : Bool) (A' : Option Addr) (n' c' : Nat) (D' : Option Addr) (m' e' : Nat) (q' : Rat) (k' : Nat) (h' : QZ w b' A' n' c' D' m' e' q' k') (h0 : 0 < k) (hk : k ≤ 10000000) (h0' : 0 < k') (hk' : k' ≤ 10000000) :
    Calls Tryz.prog 48 #[.agg #[.bool b, .slice A n c, .slice D m e], .agg #[.bool b', .slice A' n' c', .slice D' m' e']] w (RetV w (.int .i64 (q - q').num.sign)) := by
  go_enter Tryz.func48, Tryz.ntmps48
  go_wp2_with fail
  (with_reducible refine (g_sub _ b A n c D m e (q) (k) ?_ b' A' n' c' D' m' e' (q') (k') ?_ ?_ ?_ ?_ ?_).mono ?_); (exact (h.belw (((Below.refl _ _).alloc (Nat.le_refl _) _).alloc (by simp) _))); (exact (h'.belw (((Below.refl _ _).alloc (Nat.le_refl _) _).alloc (by simp) _))); (first | omega | decide | assumption); (first | omega | decide | assumption); (first | omega | decide | assumption); (first | omega | decide | assumption); rintro e w1 ⟨b1, A1, n1, c1, A'1, n'1, c'1, rfl, h1, hb1⟩
  have q1 : Below w.heap.size w w1 := (((Below.refl _ _).alloc (Nat.le_refl _) _).alloc (by simp) _).trans (hb1.mono (by simp <;> omega))
  replace h := h.belw q1
  replace h' := h'.belw q1
  have x1_0 : Blk w1 (w.heap.size) 24 #[.bool b, .slice A n c, .slice D m e] := ((blkAt _ _ _ (by simp)).alloc _).below hb1 (by simp <;> omega)
  have x1_1 : Blk w1 (w.heap.size + 1) 24 #[.bool b', .slice A' n' c', .slice D' m' e'] := (blkAt _ _ _ (by simp)).below hb1 (by simp)
  have bw1 : Below w.heap.size w w1 := (brefl w).trans (q1.mono (brefl w).size)
  have lw1 : w.heap.size + 2 ≤ w1.heap.size := by have := hb1.size; simp at this; omega
  clear hb1 q1
  go_wp2_with fail
  (with_reducible refine (g_sign _ b1 A1 n1 c1 A'1 n'1 c'1 ((q) - (q')) ((k) + (k') + 1) ?_ ?_ ?_).mono ?_); (exact h1.qz); (first | omega | decide | assumption); (first | omega | decide | assumption); rintro e w2 ⟨rfl, hb2⟩
  have q2 : Below w1.heap.size w1 w2 := hb2
  replace h := h.belw q2
  replace h' := h'.belw q2
  replace h1 := h1.belw q2
  replace x1_0 := x1_0.below q2 x1_0.lt
  replace x1_1 := x1_1.below q2 x1_1.lt
  have bw2 : Below w.heap.size w w2 := bw1.trans (q2.mono bw1.size)
  have lw2 : w1.heap.size ≤ w2.heap.size := q2.size
  clear hb2 q2 bw1
  go_wp2_with fail
  go_ret
  exact retI rfl bw2
set_option maxRecDepth 100000 in
set_option maxHeartbeats 2000000 in
/-- linkworkref02.From -/
theorem g_from (w : World) (b : Bool) (A : Option Addr) (n c : Nat) (z : Int) (k : Nat) (h : IZ w b A n c z k) (b' : Bool) (A' : Option Addr) (n' c' : Nat) (z' : Int) (k' : Nat) (h' : IZ w b' A' n' c' z' k') (q : Rat) (K : Nat) (hd : z' ≠ 0) (hq : Rat.divInt z z' = q) (hs : Sz q K) (hk : k + k' ≤ 300000000) :
    Calls Tryz.prog 123 #[.agg #[.bool b, .slice A n c], .agg #[.bool b', .slice A' n' c']] w (RetFe w (.int .i64 0) q K) := by
  obtain ⟨s, hs1⟩ : ∃ s, z'.sign = s := ⟨_, rfl⟩
  have e0 : ((s : Int) == 0) = false := by simp; rintro rfl; exact hd (Int.sign_eq_zero_iff_zero.1 hs1)
  have HS1 := Lib.hid hs1
  have HD := Lib.hid hd
  have HQ := Lib.hid hq
  have HS := Lib.hid hs
  clear hs1 hd hq hs
  go_enter Tryz.func123, Tryz.ntmps123
  go_wp2_with fail
  (with_reducible refine (r01_sign_e _ b' A' n' c' (z') (k') ?_ s ?_ ?_).mono ?_); (exact (h'.belw ((((Below.refl _ _).alloc (Nat.le_refl _) _).alloc (by simp) _).alloc (by simp <;> omega) _))); (exact HS1.out); (omega); rintro e w1 ⟨rfl, hb1⟩
  have q1 : Below w.heap.size w w1 := ((((Below.refl _ _).alloc (Nat.le_refl _) _).alloc (by simp) _).alloc (by simp <;> omega) _).trans (hb1.mono (by simp <;> omega))
  replace h := h.belw q1
  replace h' := h'.belw q1
  have x1_0 : Blk w1 (w.heap.size) 48 #[.bool b, .slice A n c] := (((blkAt _ _ _ (by simp)).alloc _).alloc _).below hb1 (by simp <;> omega)
  have x1_1 : Blk w1 (w.heap.size + 1) 48 #[.bool b', .slice A' n' c'] := ((blkAt _ _ _ (by simp)).alloc _).below hb1 (by simp <;> omega)
  have x1_2 : Blk w1 (w.heap.size + 1 + 1) 24 #[.bool false, .slice none 0 0, .slice none 0 0] := (blkAt _ _ _ (by simp)).below hb1 (by simp)
  have bw1 : Below w.heap.size w w1 := (brefl w).trans (q1.mono (brefl w).size)
  have lw1 : w.heap.size + 3 ≤ w1.heap.size := by have := hb1.size; simp at this; omega
  clear hb1 q1
  obtain ⟨cx1_0_0, cx1_0_1⟩ := x1_0.c2
  obtain ⟨lx1_0_0, lx1_0_1, lx1_0_2, lx1_0_3⟩ := lts0 x1_0.lt
  obtain ⟨cx1_1_0, cx1_1_1⟩ := x1_1.c2
  obtain ⟨lx1_1_0, lx1_1_1, lx1_1_2, lx1_1_3⟩ := lts1 x1_1.lt
  go_wp2_with fail
  (with_reducible refine (g_form _ b A n c (z) (k) ?_ b' A' n' c' (z') (k') ?_ q K ?_ ?_ ?_ ?_).mono ?_); (exact h); (exact h'); (exact HD.out); (exact HQ.out); (exact HS.out); (omega); rintro e w2 ⟨b2, A2, n2, c2, A'2, n'2, c'2, rfl, h2, hb2⟩
  clear cx1_0_0 cx1_0_1 lx1_0_0 lx1_0_1 lx1_0_2 lx1_0_3 cx1_1_0 cx1_1_1 lx1_1_0 lx1_1_1 lx1_1_2 lx1_1_3
  have q2 : Below w1.heap.size w1 w2 := hb2
  replace h := h.belw q2
  replace h' := h'.belw q2
  replace x1_0 := x1_0.below q2 x1_0.lt
  replace x1_1 := x1_1.below q2 x1_1.lt
  replace x1_2 := x1_2.below q2 x1_2.lt
  have bw2 : Below w.heap.size w w2 := bw1.trans (q2.mono bw1.size)
  have lw2 : w1.heap.size ≤ w2.heap.size := q2.size
  clear hb2 q2 bw1
  obtain ⟨cx1_2_0, cx1_2_1, cx1_2_2⟩ := x1_2.c3
  obtain ⟨fx1_2_0, fx1_2_1, fx1_2_2⟩ := x1_2.f3
  obtain ⟨lx1_2_0, lx1_2_1, lx1_2_2, lx1_2_3⟩ := lts2 x1_2.lt
  go_wp2_with fail
  refine bodyPost_ret (v := .tuple #[.agg #[.bool b2, .slice A2 n2 c2, .slice A'2 n'2 c'2], .int .i64 0]) (by simp [results, Tryz.results123, go_sem, *] <;> first | rfl | exact ⟨rfl, rfl⟩) rfl ?_
  exact ⟨b2, A2, n2, c2, A'2, n'2, c'2, rfl, h2.keep ((((Kp.refl w2).setB (p := ⟨w.heap.size + 1 + 1, 0, none⟩) x1_2.box (by decide) (.bool b2)).setB (p := ⟨w.heap.size + 1 + 1, 1, none⟩) (x1_2.box.set ⟨w.heap.size + 1 + 1, 0, none⟩ (.bool b2)) (by decide) (.slice A2 n2 c2)).setB (p := ⟨w.heap.size + 1 + 1, 2, none⟩) ((x1_2.box.set ⟨w.heap.size + 1 + 1, 0, none⟩ (.bool b2)).set ⟨w.heap.size + 1 + 1, 1, none⟩ (.slice A2 n2 c2)) (by decide) (.slice A'2 n'2 c'2)), (((bw2.setCell (p := ⟨w.heap.size + 1 + 1, 0, none⟩) (by dsimp only; omega) (.bool b2)).setCell (p := ⟨w.heap.size + 1 + 1, 1, none⟩) (by dsimp only; omega) (.slice A2 n2 c2)).setCell (p := ⟨w.heap.size + 1 + 1, 2, none⟩) (by dsimp only; omega) (.slice A'2 n'2 c'2))⟩
set_option maxRecDepth 100000 in
set_option maxHeartbeats 2000000 in
/-- linkworkref02.Make -/
theorem g_make (w : World) (i j : Int) (hi : -4294967296 < i) (hi2 : i < 4294967296) (hj : -4294967296 < j) (hj2 : j < 4294967296) (q : Rat) (K : Nat) (hd : j ≠ 0) (hq : Rat.divInt i j = q) (hs : Sz q K) :
    Calls Tryz.prog 78 #[.int .i64 i, .int .i64 j] w (RetFe w (.int .i64 0) q K) := by
  have HD := Lib.hid hd
  have HQ := Lib.hid hq
  have HS := Lib.hid hs
  clear hd hq hs
  go_enter Tryz.func78, Tryz.ntmps78
  go_wp2_with fail
  (with_reducible refine (r01_of1 _ (i) ?_ ?_).mono ?_); (first | omega | decide | assumption); (first | omega | decide | assumption); rintro e w1 ⟨b1, A1, n1, c1, rfl, h1, hb1⟩
  have q1 : Below w.heap.size w w1 := ((Below.refl _ _).alloc (Nat.le_refl _) _).trans (hb1.mono (by simp))
  have x1_0 : Blk w1 (w.heap.size) 24 #[.bool false, .slice none 0 0, .slice none 0 0] := (blkAt _ _ _ (by simp)).below hb1 (by simp)
  have bw1 : Below w.heap.size w w1 := (brefl w).trans (q1.mono (brefl w).size)
  have lw1 : w.heap.size + 1 ≤ w1.heap.size := by have := hb1.size; simp at this; omega
  clear hb1 q1
  go_wp2_with fail
  (with_reducible refine (r01_of1 _ (j) ?_ ?_).mono ?_); (first | omega | decide | assumption); (first | omega | decide | assumption); rintro e w2 ⟨b2, A2, n2, c2, rfl, h2, hb2⟩
  have q2 : Below w1.heap.size w1 w2 := hb2
  replace h1 := h1.belw q2
  replace x1_0 := x1_0.below q2 x1_0.lt
  have bw2 : Below w.heap.size w w2 := bw1.trans (q2.mono bw1.size)
  have lw2 : w1.heap.size ≤ w2.heap.size := q2.size
  clear hb2 q2 bw1
  go_wp2_with fail
  (with_reducible refine (g_from _ b1 A1 n1 c1 (i) (1) ?_ b2 A2 n2 c2 (j) (1) ?_ q K ?_ ?_ ?_ ?_).mono ?_); (exact h1.iz); (exact h2.iz); (exact HD.out); (exact HQ.out); (exact HS.out); (decide); rintro e w3 ⟨b3, A3, n3, c3, A'3, n'3, c'3, rfl, h3, hb3⟩
  have q3 : Below w2.heap.size w2 w3 := hb3
  replace h1 := h1.belw q3
  replace h2 := h2.belw q3
  replace x1_0 := x1_0.below q3 x1_0.lt
  have bw3 : Below w.heap.size w w3 := bw2.trans (q3.mono bw2.size)
  have lw3 : w2.heap.size ≤ w3.heap.size := q3.size
  clear hb3 q3 bw2
  obtain ⟨cx1_0_0, cx1_0_1, cx1_0_2⟩ := x1_0.c3
  obtain ⟨fx1_0_0, fx1_0_1, fx1_0_2⟩ := x1_0.f3
  obtain ⟨lx1_0_0, lx1_0_1, lx1_0_2, lx1_0_3⟩ := lts0 x1_0.lt
  go_wp2_with fail
  refine bodyPost_ret (v := .tuple #[.agg #[.bool b3, .slice A3 n3 c3, .slice A'3 n'3 c'3], .int .i64 0]) (by simp [results, Tryz.results78, go_sem, *] <;> first | rfl | exact ⟨rfl, rfl⟩) rfl ?_
  exact ⟨b3, A3, n3, c3, A'3, n'3, c'3, rfl, h3.keep ((((Kp.refl w3).setB (p := ⟨w.heap.size, 0, none⟩) x1_0.box (by decide) (.bool b3)).setB (p := ⟨w.heap.size, 1, none⟩) (x1_0.box.set ⟨w.heap.size, 0, none⟩ (.bool b3)) (by decide) (.slice A3 n3 c3)).setB (p := ⟨w.heap.size, 2, none⟩) ((x1_0.box.set ⟨w.heap.size, 0, none⟩ (.bool b3)).set ⟨w.heap.size, 1, none⟩ (.slice A3 n3 c3)) (by decide) (.slice A'3 n'3 c'3)), (((bw3.setCell (p := ⟨w.heap.size, 0, none⟩) (by dsimp only; omega) (.bool b3)).setCell (p := ⟨w.heap.size, 1, none⟩) (by dsimp only; omega) (.slice A3 n3 c3)).setCell (p := ⟨w.heap.size, 2, none⟩) (by dsimp only; omega) (.slice A'3 n'3 c'3))⟩
end Go.Proofs.YtpnnfbodphflpaaGreatDoor

/- Walks: the texts of fractions. -/
namespace Go.Proofs.YtpnnfbodphflpaaGreatDoor
open Go Go.RowKit Bn
attribute [local go_sem ↓] Go.wp_at_zero Go.wp_at_succ
/-- The text of a fraction. -/
def ratText (q : Rat) : List UInt8 := if q.den = 1 then Lib.itoa q.num else Lib.itoa q.num ++ 47 :: Lib.itoa (q.den : Int)
theorem itoa_le {z : Int} {k K : Nat} (h : z.natAbs < 4294967296 ^ k) (hk : k ≤ K) (h0 : 0 < K) : (Lib.itoa z).length ≤ 10 * K + 1 := by
  have h2 : Lib.nDigits z.natAbs ≤ 10 * K := nDig_words' hk h0 h
  rw [itoa_abs, List.length_append, Lib.decDigits_length]
  split <;> simp <;> omega
theorem cat_slash (X Y : List UInt8) : ((⟨X.toArray⟩ : ByteArray) ++ ⟨#[47]⟩) ++ ⟨Y.toArray⟩ = ⟨(X ++ 47 :: Y).toArray⟩ := by
  rw [show (⟨#[47]⟩ : ByteArray) = ⟨[47].toArray⟩ from rfl, cat_v, cat_v, List.append_assoc]; rfl
theorem ratText_1 {q : Rat} (h : q.den = 1) : ratText q = Lib.itoa q.num := if_pos h
theorem ratText_2 {q : Rat} (h : q.den ≠ 1) : ratText q = Lib.itoa q.num ++ 47 :: Lib.itoa (q.den : Int) := if_neg h
theorem r01_cmp_v (w : World) (b : Bool) (A : Option Addr) (n c : Nat) (z : Int) (k : Nat) (h : IZ w b A n c z k) (b' : Bool) (A' : Option Addr) (n' c' : Nat) (z' : Int) (k' : Nat) (h' : IZ w b' A' n' c' z' k') (v : Int) (hv : cmpI z z' = v) (hk : k + k' ≤ 999999999) : Calls Tryz.prog 90 #[.agg #[.bool b, .slice A n c], .agg #[.bool b', .slice A' n' c']] w (RetV w (.int .i64 v)) := by
  subst hv; exact r01_cmp w b A n c z k h b' A' n' c' z' k' h' hk
theorem cmpI_ne {x y : Int} (h : x ≠ y) : cmpI x y ≠ 0 := by
  unfold cmpI; (repeat' split) <;> omega
theorem cmpI_one : cmpI 1 1 = 0 := by decide
set_option maxRecDepth 100000 in
set_option maxHeartbeats 2000000 in
/-- fraction.Text -/
theorem f_text_1 (w : World) (b : Bool) (A : Option Addr) (n c : Nat) (D : Option Addr) (m e : Nat) (q : Rat) (k : Nat) (h : QZ w b A n c D m e q k) (h0 : 0 < k) (hk : k ≤ 40000000) (htab : Tab w) (hd : q.den = 1) :
    Calls Tryz.prog 36 #[.agg #[.bool b, .slice A n c, .slice D m e]] w (RetV w (strV (ratText q))) := by
  rw [ratText_1 hd]
  have HC := Lib.hid (show cmpI (q.den : Int) 1 = 0 by rw [hd]; exact cmpI_one)
  clear hd
  go_enter Tryz.func36, Tryz.ntmps36
  go_wp2_with fail
  (with_reducible refine (f_parts _ b A n c D m e (q) (k) ?_ ?_ ?_).mono ?_); (exact (h.belw ((Below.refl _ _).alloc (Nat.le_refl _) _))); (first | omega | decide | assumption); (first | omega | decide | assumption); rintro e w1 ⟨b1, A1, n1, c1, b'1, A'1, n'1, c'1, rfl, h1, h'1, hb1⟩
  have q1 : Below w.heap.size w w1 := ((Below.refl _ _).alloc (Nat.le_refl _) _).trans (hb1.mono (by simp))
  replace h := h.belw q1
  have x1_0 : Blk w1 (w.heap.size) 24 #[.bool b, .slice A n c, .slice D m e] := (blkAt _ _ _ (by simp)).below hb1 (by simp)
  have bw1 : Below w.heap.size w w1 := (brefl w).trans (q1.mono (brefl w).size)
  have lw1 : w.heap.size + 1 ≤ w1.heap.size := by have := hb1.size; simp at this; omega
  clear hb1 q1
  go_wp2_with fail
  have p2 : Kp w1 ((w1.alloc (.cells #[.bool b1, .slice A1 n1 c1] 48)).alloc (.cells #[.bool b'1, .slice A'1 n'1 c'1] 48)) := (((Kp.refl w1).alloc (.cells #[.bool b1, .slice A1 n1 c1] 48)).alloc (.cells #[.bool b'1, .slice A'1 n'1 c'1] 48))
  have bw2 : Below w.heap.size w ((w1.alloc (.cells #[.bool b1, .slice A1 n1 c1] 48)).alloc (.cells #[.bool b'1, .slice A'1 n'1 c'1] 48)) := ((bw1.alloc (by first | omega | (simp <;> omega)) (.cells #[.bool b1, .slice A1 n1 c1] 48)).alloc (by first | omega | (simp <;> omega)) (.cells #[.bool b'1, .slice A'1 n'1 c'1] 48))
  have x2_0 : Blk ((w1.alloc (.cells #[.bool b1, .slice A1 n1 c1] 48)).alloc (.cells #[.bool b'1, .slice A'1 n'1 c'1] 48)) (w1.heap.size) 48 #[.bool b1, .slice A1 n1 c1] := ((blkAt _ _ _ (by simp)).alloc (.cells #[.bool b'1, .slice A'1 n'1 c'1] 48))
  have x2_1 : Blk ((w1.alloc (.cells #[.bool b1, .slice A1 n1 c1] 48)).alloc (.cells #[.bool b'1, .slice A'1 n'1 c'1] 48)) (w1.heap.size + 1) 48 #[.bool b'1, .slice A'1 n'1 c'1] := (blkAt _ _ _ (by simp))
  replace x1_0 : Blk ((w1.alloc (.cells #[.bool b1, .slice A1 n1 c1] 48)).alloc (.cells #[.bool b'1, .slice A'1 n'1 c'1] 48)) (w.heap.size) 24 #[.bool b, .slice A n c, .slice D m e] := ((x1_0.alloc (.cells #[.bool b1, .slice A1 n1 c1] 48)).alloc (.cells #[.bool b'1, .slice A'1 n'1 c'1] 48))
  have lw2 : w1.heap.size + 2 ≤ ((w1.alloc (.cells #[.bool b1, .slice A1 n1 c1] 48)).alloc (.cells #[.bool b'1, .slice A'1 n'1 c'1] 48)).heap.size := by simp
  generalize hE2 : ((w1.alloc (.cells #[.bool b1, .slice A1 n1 c1] 48)).alloc (.cells #[.bool b'1, .slice A'1 n'1 c'1] 48)) = w2 at p2 bw2 lw2 x2_0 x2_1 x1_0 ⊢
  clear hE2
  replace h := h.keep p2
  replace h1 := h1.keep p2
  replace h'1 := h'1.keep p2
  clear bw1
  obtain ⟨lx1_0_0, lx1_0_1, lx1_0_2, lx1_0_3⟩ := lts0 x1_0.lt
  obtain ⟨lx2_0_0, lx2_0_1, lx2_0_2, lx2_0_3⟩ := lts0 x2_0.lt
  obtain ⟨cx2_1_0, cx2_1_1⟩ := x2_1.c2
  obtain ⟨lx2_1_0, lx2_1_1, lx2_1_2, lx2_1_3⟩ := lts1 x2_1.lt
  go_region_held3 (fun w' => Sees w2.heap.size w2 w') (first | with_reducible exact Sees.of (Nat.le_refl _) (by assumption) | with_reducible exact Sees.of (Nat.le_refl _) (brefl _).drew | exact Sees.of (Nat.le_refl _) (below_drewN (brefl _) 1) | exact Sees.of (Nat.le_refl _) (below_drewN (by assumption) _))
    (first
      | (go_at_call 88; (with_reducible refine (f_one _).mono ?_); rintro e w3 ⟨b3, A3, n3, c3, rfl, h3, hb3⟩; replace hb3 := bnext (below_drewN (brefl _) 1) hb3; have q3 : Below w2.heap.size w2 w3 := bnext (brefl w2) hb3; replace h := h.belw hb3; replace h1 := h1.belw hb3; replace h'1 := h'1.belw hb3)
      | (go_at_call 30; (with_reducible refine (i_cmp_w _ b'1 A'1 n'1 c'1 (((q).den : Int)) ((k)) ?_ b3 A3 n3 c3 (1) (1) ?_ 0 HC.out ?_).mono ?_); (exact h'1.iz); (exact h3.iz); (first | omega | decide | assumption); rintro e w4 ⟨rfl, hb4⟩; have q4 : Below w2.heap.size w2 w4 := bnext q3 hb4; replace h := h.belw hb4; replace h1 := h1.belw hb4; replace h'1 := h'1.belw hb4; replace h3 := h3.belw hb4))
  have bw4 : Below w.heap.size w w4 := bw2.trans (q4.mono bw2.size)
  clear lx1_0_0 lx1_0_1 lx1_0_2 lx1_0_3 lx2_0_0 lx2_0_1 lx2_0_2 lx2_0_3 cx2_1_0 cx2_1_1 lx2_1_0 lx2_1_1 lx2_1_2 lx2_1_3
  replace x1_0 := x1_0.below q4 x1_0.lt
  replace x2_0 := x2_0.below q4 x2_0.lt
  replace x2_1 := x2_1.below q4 x2_1.lt
  have lw4 : w2.heap.size ≤ w4.heap.size := q4.size
  obtain ⟨cx2_0_0, cx2_0_1⟩ := x2_0.c2
  obtain ⟨lx2_0_0, lx2_0_1, lx2_0_2, lx2_0_3⟩ := lts0 x2_0.lt
  go_wp2_with fail
  (with_reducible refine (i_text_l _ b1 A1 n1 c1 ((q).num) ((k)) ?_ (Lib.itoa q.num) ?_ ?_ ?_).mono ?_); (exact h1.iz); (first | omega | decide | assumption); (first | exact htab.belw bw4 | exact (htab.belw bw4).belw (below_drewN (brefl _) 1) | exact (htab.belw bw4).belw (brefl _).drew | exact (htab.belw bw4).belw (by assumption) | fail); (exact rfl); rintro e w5 ⟨rfl, hb5⟩
  clear cx2_0_0 cx2_0_1 lx2_0_0 lx2_0_1 lx2_0_2 lx2_0_3
  have q5 : Below w4.heap.size w4 w5 := hb5
  replace h := h.belw q5
  replace h1 := h1.belw q5
  replace h'1 := h'1.belw q5
  replace h3 := h3.belw q5
  replace x1_0 := x1_0.below q5 x1_0.lt
  replace x2_0 := x2_0.below q5 x2_0.lt
  replace x2_1 := x2_1.below q5 x2_1.lt
  have bw5 : Below w.heap.size w w5 := bw4.trans (q5.mono bw4.size)
  have lw5 : w4.heap.size ≤ w5.heap.size := q5.size
  clear hb5 q5 bw4
  go_wp2_with fail
  go_ret
  exact ⟨rfl, bw5⟩
set_option maxRecDepth 100000 in
set_option maxHeartbeats 2000000 in
/-- fraction.Text -/
theorem f_text_2 (w : World) (b : Bool) (A : Option Addr) (n c : Nat) (D : Option Addr) (m e : Nat) (q : Rat) (k : Nat) (h : QZ w b A n c D m e q k) (h0 : 0 < k) (hk : k ≤ 40000000) (htab : Tab w) (hd : q.den ≠ 1) :
    Calls Tryz.prog 36 #[.agg #[.bool b, .slice A n c, .slice D m e]] w (RetV w (strV (ratText q))) := by
  rw [ratText_2 hd]
  obtain ⟨u, hu⟩ : ∃ u, cmpI (q.den : Int) 1 = u := ⟨_, rfl⟩
  have hu0 : u ≠ 0 := by rw [← hu]; exact cmpI_ne (by omega)
  have e0 : ((u : Int) == 0) = false := by simp; exact hu0
  have HC := Lib.hid hu
  obtain ⟨X, hX⟩ : ∃ X, Lib.itoa q.num = X := ⟨_, rfl⟩
  obtain ⟨Y, hY⟩ : ∃ Y, Lib.itoa (q.den : Int) = Y := ⟨_, rfl⟩
  have hs := h.sz h0
  have hx1 : (⟨X.toArray⟩ : ByteArray).size ≤ 1000000000 := by show X.length ≤ _; rw [← hX]; have := itoa_le hs.1 hk (by omega); omega
  have hy1 : (⟨Y.toArray⟩ : ByteArray).size ≤ 1000000000 := by show Y.length ≤ _; rw [← hY]; have := itoa_le (z := (q.den : Int)) (by simpa using hs.2) hk (by omega); omega
  obtain ⟨N, hN⟩ : ∃ N, (⟨X.toArray⟩ : ByteArray).size = N := ⟨_, rfl⟩
  obtain ⟨M, hM⟩ : ∃ M, (⟨Y.toArray⟩ : ByteArray).size = M := ⟨_, rfl⟩
  rw [hN] at hx1
  rw [hM] at hy1
  have hc1 : (9223372036854775807 < N + 1) = False := by simp; omega
  have hc2 : (9223372036854775807 ≤ N) = False := by simp; omega
  have hc3 : (9223372036854775807 < N + 1 + M) = False := by simp; omega
  rw [hX, hY]
  have HX := Lib.hid hX
  have HY := Lib.hid hY
  clear hd hu hu0 hX hY hs
  go_enter Tryz.func36, Tryz.ntmps36
  go_wp2_with fail
  (with_reducible refine (f_parts _ b A n c D m e (q) (k) ?_ ?_ ?_).mono ?_); (exact (h.belw ((Below.refl _ _).alloc (Nat.le_refl _) _))); (first | omega | decide | assumption); (first | omega | decide | assumption); rintro e w1 ⟨b1, A1, n1, c1, b'1, A'1, n'1, c'1, rfl, h1, h'1, hb1⟩
  have q1 : Below w.heap.size w w1 := ((Below.refl _ _).alloc (Nat.le_refl _) _).trans (hb1.mono (by simp))
  replace h := h.belw q1
  have x1_0 : Blk w1 (w.heap.size) 24 #[.bool b, .slice A n c, .slice D m e] := (blkAt _ _ _ (by simp)).below hb1 (by simp)
  have bw1 : Below w.heap.size w w1 := (brefl w).trans (q1.mono (brefl w).size)
  have lw1 : w.heap.size + 1 ≤ w1.heap.size := by have := hb1.size; simp at this; omega
  clear hb1 q1
  go_wp2_with fail
  have p2 : Kp w1 ((w1.alloc (.cells #[.bool b1, .slice A1 n1 c1] 48)).alloc (.cells #[.bool b'1, .slice A'1 n'1 c'1] 48)) := (((Kp.refl w1).alloc (.cells #[.bool b1, .slice A1 n1 c1] 48)).alloc (.cells #[.bool b'1, .slice A'1 n'1 c'1] 48))
  have bw2 : Below w.heap.size w ((w1.alloc (.cells #[.bool b1, .slice A1 n1 c1] 48)).alloc (.cells #[.bool b'1, .slice A'1 n'1 c'1] 48)) := ((bw1.alloc (by first | omega | (simp <;> omega)) (.cells #[.bool b1, .slice A1 n1 c1] 48)).alloc (by first | omega | (simp <;> omega)) (.cells #[.bool b'1, .slice A'1 n'1 c'1] 48))
  have x2_0 : Blk ((w1.alloc (.cells #[.bool b1, .slice A1 n1 c1] 48)).alloc (.cells #[.bool b'1, .slice A'1 n'1 c'1] 48)) (w1.heap.size) 48 #[.bool b1, .slice A1 n1 c1] := ((blkAt _ _ _ (by simp)).alloc (.cells #[.bool b'1, .slice A'1 n'1 c'1] 48))
  have x2_1 : Blk ((w1.alloc (.cells #[.bool b1, .slice A1 n1 c1] 48)).alloc (.cells #[.bool b'1, .slice A'1 n'1 c'1] 48)) (w1.heap.size + 1) 48 #[.bool b'1, .slice A'1 n'1 c'1] := (blkAt _ _ _ (by simp))
  replace x1_0 : Blk ((w1.alloc (.cells #[.bool b1, .slice A1 n1 c1] 48)).alloc (.cells #[.bool b'1, .slice A'1 n'1 c'1] 48)) (w.heap.size) 24 #[.bool b, .slice A n c, .slice D m e] := ((x1_0.alloc (.cells #[.bool b1, .slice A1 n1 c1] 48)).alloc (.cells #[.bool b'1, .slice A'1 n'1 c'1] 48))
  have lw2 : w1.heap.size + 2 ≤ ((w1.alloc (.cells #[.bool b1, .slice A1 n1 c1] 48)).alloc (.cells #[.bool b'1, .slice A'1 n'1 c'1] 48)).heap.size := by simp
  generalize hE2 : ((w1.alloc (.cells #[.bool b1, .slice A1 n1 c1] 48)).alloc (.cells #[.bool b'1, .slice A'1 n'1 c'1] 48)) = w2 at p2 bw2 lw2 x2_0 x2_1 x1_0 ⊢
  clear hE2
  replace h := h.keep p2
  replace h1 := h1.keep p2
  replace h'1 := h'1.keep p2
  clear bw1
  obtain ⟨lx1_0_0, lx1_0_1, lx1_0_2, lx1_0_3⟩ := lts0 x1_0.lt
  obtain ⟨lx2_0_0, lx2_0_1, lx2_0_2, lx2_0_3⟩ := lts0 x2_0.lt
  obtain ⟨cx2_1_0, cx2_1_1⟩ := x2_1.c2
  obtain ⟨lx2_1_0, lx2_1_1, lx2_1_2, lx2_1_3⟩ := lts1 x2_1.lt
  go_region_held3 (fun w' => Sees w2.heap.size w2 w') (first | with_reducible exact Sees.of (Nat.le_refl _) (by assumption) | with_reducible exact Sees.of (Nat.le_refl _) (brefl _).drew | exact Sees.of (Nat.le_refl _) (below_drewN (brefl _) 1) | exact Sees.of (Nat.le_refl _) (below_drewN (by assumption) _))
    (first
      | (go_at_call 88; (with_reducible refine (f_one _).mono ?_); rintro e w3 ⟨b3, A3, n3, c3, rfl, h3, hb3⟩; replace hb3 := bnext (below_drewN (brefl _) 1) hb3; have q3 : Below w2.heap.size w2 w3 := bnext (brefl w2) hb3; replace h := h.belw hb3; replace h1 := h1.belw hb3; replace h'1 := h'1.belw hb3)
      | (go_at_call 30; (with_reducible refine (i_cmp_w _ b'1 A'1 n'1 c'1 (((q).den : Int)) ((k)) ?_ b3 A3 n3 c3 (1) (1) ?_ u HC.out ?_).mono ?_); (exact h'1.iz); (exact h3.iz); (first | omega | decide | assumption); rintro e w4 ⟨rfl, hb4⟩; have q4 : Below w2.heap.size w2 w4 := bnext q3 hb4; replace h := h.belw hb4; replace h1 := h1.belw hb4; replace h'1 := h'1.belw hb4; replace h3 := h3.belw hb4))
  have bw4 : Below w.heap.size w w4 := bw2.trans (q4.mono bw2.size)
  clear lx1_0_0 lx1_0_1 lx1_0_2 lx1_0_3 lx2_0_0 lx2_0_1 lx2_0_2 lx2_0_3 cx2_1_0 cx2_1_1 lx2_1_0 lx2_1_1 lx2_1_2 lx2_1_3
  replace x1_0 := x1_0.below q4 x1_0.lt
  replace x2_0 := x2_0.below q4 x2_0.lt
  replace x2_1 := x2_1.below q4 x2_1.lt
  have lw4 : w2.heap.size ≤ w4.heap.size := q4.size
  obtain ⟨lx1_0_0, lx1_0_1, lx1_0_2, lx1_0_3⟩ := lts0 x1_0.lt
  obtain ⟨cx2_0_0, cx2_0_1⟩ := x2_0.c2
  obtain ⟨lx2_0_0, lx2_0_1, lx2_0_2, lx2_0_3⟩ := lts0 x2_0.lt
  obtain ⟨cx2_1_0, cx2_1_1⟩ := x2_1.c2
  obtain ⟨lx2_1_0, lx2_1_1, lx2_1_2, lx2_1_3⟩ := lts1 x2_1.lt
  go_wp2_with fail
  go_region_held3 (fun w' => Sees w4.heap.size w4 w') (first | with_reducible exact Sees.of (Nat.le_refl _) (by assumption) | with_reducible exact Sees.of (Nat.le_refl _) (brefl _).drew | exact Sees.of (Nat.le_refl _) (below_drewN (brefl _) 1) | exact Sees.of (Nat.le_refl _) (below_drewN (by assumption) _))
    (first
      | (go_at_call 25; (with_reducible refine (i_text_l _ b1 A1 n1 c1 ((q).num) ((k)) ?_ X ?_ ?_ ?_).mono ?_); (exact h1.iz); (first | omega | decide | assumption); (first | exact htab.belw bw4 | exact (htab.belw bw4).belw (below_drewN (brefl _) 1) | exact (htab.belw bw4).belw (brefl _).drew | exact (htab.belw bw4).belw (by assumption) | fail); (exact HX.out); rintro e w5 ⟨rfl, hb5⟩; replace hb5 := bnext (below_drewN (brefl _) 1) hb5; have q5 : Below w4.heap.size w4 w5 := bnext (brefl w4) hb5; replace h := h.belw hb5; replace h1 := h1.belw hb5; replace h'1 := h'1.belw hb5; replace h3 := h3.belw hb5)
      | (go_at_call 25; (with_reducible refine (i_text_l _ b'1 A'1 n'1 c'1 (((q).den : Int)) ((k)) ?_ Y ?_ ?_ ?_).mono ?_); (exact h'1.iz); (first | omega | decide | assumption); (first | exact htab.belw bw4 | exact (htab.belw bw4).belw (below_drewN (brefl _) 1) | exact (htab.belw bw4).belw (brefl _).drew | exact (htab.belw bw4).belw (by assumption) | fail); (exact HY.out); rintro e w6 ⟨rfl, hb6⟩; have q6 : Below w4.heap.size w4 w6 := bnext q5 hb6; replace h := h.belw hb6; replace h1 := h1.belw hb6; replace h'1 := h'1.belw hb6; replace h3 := h3.belw hb6))
  have bw6 : Below w.heap.size w w6 := bw4.trans (q6.mono bw4.size)
  clear lx1_0_0 lx1_0_1 lx1_0_2 lx1_0_3 cx2_0_0 cx2_0_1 lx2_0_0 lx2_0_1 lx2_0_2 lx2_0_3 cx2_1_0 cx2_1_1 lx2_1_0 lx2_1_1 lx2_1_2 lx2_1_3
  replace x1_0 := x1_0.below q6 x1_0.lt
  replace x2_0 := x2_0.below q6 x2_0.lt
  replace x2_1 := x2_1.below q6 x2_1.lt
  have lw6 : w4.heap.size ≤ w6.heap.size := q6.size
  go_wp2_with fail
  go_ret
  refine ⟨?_, bw6⟩
  exact congrArg (fun x => Ending.returned (.string x)) (cat_slash X Y)
theorem f_text (w : World) (b : Bool) (A : Option Addr) (n c : Nat) (D : Option Addr) (m e : Nat) (q : Rat) (k : Nat) (h : QZ w b A n c D m e q k) (h0 : 0 < k) (hk : k ≤ 40000000) (htab : Tab w) (T : List UInt8) (hT : ratText q = T) : Calls Tryz.prog 36 #[.agg #[.bool b, .slice A n c, .slice D m e]] w (RetV w (strV T)) := by
  subst hT
  by_cases hd : q.den = 1
  · exact f_text_1 w b A n c D m e q k h h0 hk htab hd
  · exact f_text_2 w b A n c D m e q k h h0 hk htab hd
set_option maxRecDepth 100000 in
set_option maxHeartbeats 2000000 in
/-- linkworkref02.Text -/
theorem g_text_1 (w : World) (b : Bool) (A : Option Addr) (n c : Nat) (D : Option Addr) (m e : Nat) (q : Rat) (k : Nat) (h : QZ w b A n c D m e q k) (h0 : 0 < k) (hk : k ≤ 40000000) (hd : q.den = 1) :
    Calls Tryz.prog 50 #[.agg #[.bool b, .slice A n c, .slice D m e]] w (RetV w (strV (ratText q))) := by
  rw [ratText_1 hd]
  have HC := Lib.hid (show cmpI (q.den : Int) 1 = 0 by rw [hd]; exact cmpI_one)
  clear hd
  go_enter Tryz.func50, Tryz.ntmps50
  go_wp2_with fail
  (with_reducible refine (g_parts _ b A n c D m e (q) (k) ?_ ?_ ?_).mono ?_); (exact (h.belw ((Below.refl _ _).alloc (Nat.le_refl _) _))); (first | omega | decide | assumption); (first | omega | decide | assumption); rintro e w1 ⟨b1, A1, n1, c1, b'1, A'1, n'1, c'1, rfl, h1, h'1, hb1⟩
  have q1 : Below w.heap.size w w1 := ((Below.refl _ _).alloc (Nat.le_refl _) _).trans (hb1.mono (by simp))
  replace h := h.belw q1
  have x1_0 : Blk w1 (w.heap.size) 24 #[.bool b, .slice A n c, .slice D m e] := (blkAt _ _ _ (by simp)).below hb1 (by simp)
  have bw1 : Below w.heap.size w w1 := (brefl w).trans (q1.mono (brefl w).size)
  have lw1 : w.heap.size + 1 ≤ w1.heap.size := by have := hb1.size; simp at this; omega
  clear hb1 q1
  go_wp2_with fail
  have p2 : Kp w1 ((w1.alloc (.cells #[.bool b1, .slice A1 n1 c1] 48)).alloc (.cells #[.bool b'1, .slice A'1 n'1 c'1] 48)) := (((Kp.refl w1).alloc (.cells #[.bool b1, .slice A1 n1 c1] 48)).alloc (.cells #[.bool b'1, .slice A'1 n'1 c'1] 48))
  have bw2 : Below w.heap.size w ((w1.alloc (.cells #[.bool b1, .slice A1 n1 c1] 48)).alloc (.cells #[.bool b'1, .slice A'1 n'1 c'1] 48)) := ((bw1.alloc (by first | omega | (simp <;> omega)) (.cells #[.bool b1, .slice A1 n1 c1] 48)).alloc (by first | omega | (simp <;> omega)) (.cells #[.bool b'1, .slice A'1 n'1 c'1] 48))
  have x2_0 : Blk ((w1.alloc (.cells #[.bool b1, .slice A1 n1 c1] 48)).alloc (.cells #[.bool b'1, .slice A'1 n'1 c'1] 48)) (w1.heap.size) 48 #[.bool b1, .slice A1 n1 c1] := ((blkAt _ _ _ (by simp)).alloc (.cells #[.bool b'1, .slice A'1 n'1 c'1] 48))
  have x2_1 : Blk ((w1.alloc (.cells #[.bool b1, .slice A1 n1 c1] 48)).alloc (.cells #[.bool b'1, .slice A'1 n'1 c'1] 48)) (w1.heap.size + 1) 48 #[.bool b'1, .slice A'1 n'1 c'1] := (blkAt _ _ _ (by simp))
  replace x1_0 : Blk ((w1.alloc (.cells #[.bool b1, .slice A1 n1 c1] 48)).alloc (.cells #[.bool b'1, .slice A'1 n'1 c'1] 48)) (w.heap.size) 24 #[.bool b, .slice A n c, .slice D m e] := ((x1_0.alloc (.cells #[.bool b1, .slice A1 n1 c1] 48)).alloc (.cells #[.bool b'1, .slice A'1 n'1 c'1] 48))
  have lw2 : w1.heap.size + 2 ≤ ((w1.alloc (.cells #[.bool b1, .slice A1 n1 c1] 48)).alloc (.cells #[.bool b'1, .slice A'1 n'1 c'1] 48)).heap.size := by simp
  generalize hE2 : ((w1.alloc (.cells #[.bool b1, .slice A1 n1 c1] 48)).alloc (.cells #[.bool b'1, .slice A'1 n'1 c'1] 48)) = w2 at p2 bw2 lw2 x2_0 x2_1 x1_0 ⊢
  clear hE2
  replace h := h.keep p2
  replace h1 := h1.keep p2
  replace h'1 := h'1.keep p2
  clear bw1
  obtain ⟨lx1_0_0, lx1_0_1, lx1_0_2, lx1_0_3⟩ := lts0 x1_0.lt
  obtain ⟨lx2_0_0, lx2_0_1, lx2_0_2, lx2_0_3⟩ := lts0 x2_0.lt
  obtain ⟨cx2_1_0, cx2_1_1⟩ := x2_1.c2
  obtain ⟨lx2_1_0, lx2_1_1, lx2_1_2, lx2_1_3⟩ := lts1 x2_1.lt
  go_region_held3 (fun w' => Sees w2.heap.size w2 w') (first | with_reducible exact Sees.of (Nat.le_refl _) (by assumption) | with_reducible exact Sees.of (Nat.le_refl _) (brefl _).drew | exact Sees.of (Nat.le_refl _) (below_drewN (brefl _) 1) | exact Sees.of (Nat.le_refl _) (below_drewN (by assumption) _))
    (first
      | (go_at_call 92; (with_reducible refine (g_one _).mono ?_); rintro e w3 ⟨b3, A3, n3, c3, rfl, h3, hb3⟩; replace hb3 := bnext (below_drewN (brefl _) 1) hb3; have q3 : Below w2.heap.size w2 w3 := bnext (brefl w2) hb3; replace h := h.belw hb3; replace h1 := h1.belw hb3; replace h'1 := h'1.belw hb3)
      | (go_at_call 90; (with_reducible refine (r01_cmp_v _ b'1 A'1 n'1 c'1 (((q).den : Int)) ((k)) ?_ b3 A3 n3 c3 (1) (1) ?_ 0 HC.out ?_).mono ?_); (exact h'1.iz); (exact h3.iz); (first | omega | decide | assumption); rintro e w4 ⟨rfl, hb4⟩; have q4 : Below w2.heap.size w2 w4 := bnext q3 hb4; replace h := h.belw hb4; replace h1 := h1.belw hb4; replace h'1 := h'1.belw hb4; replace h3 := h3.belw hb4))
  have bw4 : Below w.heap.size w w4 := bw2.trans (q4.mono bw2.size)
  clear lx1_0_0 lx1_0_1 lx1_0_2 lx1_0_3 lx2_0_0 lx2_0_1 lx2_0_2 lx2_0_3 cx2_1_0 cx2_1_1 lx2_1_0 lx2_1_1 lx2_1_2 lx2_1_3
  replace x1_0 := x1_0.below q4 x1_0.lt
  replace x2_0 := x2_0.below q4 x2_0.lt
  replace x2_1 := x2_1.below q4 x2_1.lt
  have lw4 : w2.heap.size ≤ w4.heap.size := q4.size
  obtain ⟨cx2_0_0, cx2_0_1⟩ := x2_0.c2
  obtain ⟨lx2_0_0, lx2_0_1, lx2_0_2, lx2_0_3⟩ := lts0 x2_0.lt
  go_wp2_with fail
  (with_reducible refine (r01_text_l _ b1 A1 n1 c1 ((q).num) ((k)) ?_ (Lib.itoa q.num) ?_ ?_).mono ?_); (exact h1.iz); (first | omega | decide | assumption); (exact rfl); rintro e w5 ⟨rfl, hb5⟩
  clear cx2_0_0 cx2_0_1 lx2_0_0 lx2_0_1 lx2_0_2 lx2_0_3
  have q5 : Below w4.heap.size w4 w5 := hb5
  replace h := h.belw q5
  replace h1 := h1.belw q5
  replace h'1 := h'1.belw q5
  replace h3 := h3.belw q5
  replace x1_0 := x1_0.below q5 x1_0.lt
  replace x2_0 := x2_0.below q5 x2_0.lt
  replace x2_1 := x2_1.below q5 x2_1.lt
  have bw5 : Below w.heap.size w w5 := bw4.trans (q5.mono bw4.size)
  have lw5 : w4.heap.size ≤ w5.heap.size := q5.size
  clear hb5 q5 bw4
  go_wp2_with fail
  go_ret
  exact ⟨rfl, bw5⟩
set_option maxRecDepth 100000 in
set_option maxHeartbeats 2000000 in
/-- linkworkref02.Text -/
theorem g_text_2 (w : World) (b : Bool) (A : Option Addr) (n c : Nat) (D : Option Addr) (m e : Nat) (q : Rat) (k : Nat) (h : QZ w b A n c D m e q k) (h0 : 0 < k) (hk : k ≤ 40000000) (hd : q.den ≠ 1) :
    Calls Tryz.prog 50 #[.agg #[.bool b, .slice A n c, .slice D m e]] w (RetV w (strV (ratText q))) := by
  rw [ratText_2 hd]
  obtain ⟨u, hu⟩ : ∃ u, cmpI (q.den : Int) 1 = u := ⟨_, rfl⟩
  have hu0 : u ≠ 0 := by rw [← hu]; exact cmpI_ne (by omega)
  have e0 : ((u : Int) == 0) = false := by simp; exact hu0
  have HC := Lib.hid hu
  obtain ⟨X, hX⟩ : ∃ X, Lib.itoa q.num = X := ⟨_, rfl⟩
  obtain ⟨Y, hY⟩ : ∃ Y, Lib.itoa (q.den : Int) = Y := ⟨_, rfl⟩
  have hs := h.sz h0
  have hx1 : (⟨X.toArray⟩ : ByteArray).size ≤ 1000000000 := by show X.length ≤ _; rw [← hX]; have := itoa_le hs.1 hk (by omega); omega
  have hy1 : (⟨Y.toArray⟩ : ByteArray).size ≤ 1000000000 := by show Y.length ≤ _; rw [← hY]; have := itoa_le (z := (q.den : Int)) (by simpa using hs.2) hk (by omega); omega
  obtain ⟨N, hN⟩ : ∃ N, (⟨X.toArray⟩ : ByteArray).size = N := ⟨_, rfl⟩
  obtain ⟨M, hM⟩ : ∃ M, (⟨Y.toArray⟩ : ByteArray).size = M := ⟨_, rfl⟩
  rw [hN] at hx1
  rw [hM] at hy1
  have hc1 : (9223372036854775807 < N + 1) = False := by simp; omega
  have hc2 : (9223372036854775807 ≤ N) = False := by simp; omega
  have hc3 : (9223372036854775807 < N + 1 + M) = False := by simp; omega
  rw [hX, hY]
  have HX := Lib.hid hX
  have HY := Lib.hid hY
  clear hd hu hu0 hX hY hs
  go_enter Tryz.func50, Tryz.ntmps50
  go_wp2_with fail
  (with_reducible refine (g_parts _ b A n c D m e (q) (k) ?_ ?_ ?_).mono ?_); (exact (h.belw ((Below.refl _ _).alloc (Nat.le_refl _) _))); (first | omega | decide | assumption); (first | omega | decide | assumption); rintro e w1 ⟨b1, A1, n1, c1, b'1, A'1, n'1, c'1, rfl, h1, h'1, hb1⟩
  have q1 : Below w.heap.size w w1 := ((Below.refl _ _).alloc (Nat.le_refl _) _).trans (hb1.mono (by simp))
  replace h := h.belw q1
  have x1_0 : Blk w1 (w.heap.size) 24 #[.bool b, .slice A n c, .slice D m e] := (blkAt _ _ _ (by simp)).below hb1 (by simp)
  have bw1 : Below w.heap.size w w1 := (brefl w).trans (q1.mono (brefl w).size)
  have lw1 : w.heap.size + 1 ≤ w1.heap.size := by have := hb1.size; simp at this; omega
  clear hb1 q1
  go_wp2_with fail
  have p2 : Kp w1 ((w1.alloc (.cells #[.bool b1, .slice A1 n1 c1] 48)).alloc (.cells #[.bool b'1, .slice A'1 n'1 c'1] 48)) := (((Kp.refl w1).alloc (.cells #[.bool b1, .slice A1 n1 c1] 48)).alloc (.cells #[.bool b'1, .slice A'1 n'1 c'1] 48))
  have bw2 : Below w.heap.size w ((w1.alloc (.cells #[.bool b1, .slice A1 n1 c1] 48)).alloc (.cells #[.bool b'1, .slice A'1 n'1 c'1] 48)) := ((bw1.alloc (by first | omega | (simp <;> omega)) (.cells #[.bool b1, .slice A1 n1 c1] 48)).alloc (by first | omega | (simp <;> omega)) (.cells #[.bool b'1, .slice A'1 n'1 c'1] 48))
  have x2_0 : Blk ((w1.alloc (.cells #[.bool b1, .slice A1 n1 c1] 48)).alloc (.cells #[.bool b'1, .slice A'1 n'1 c'1] 48)) (w1.heap.size) 48 #[.bool b1, .slice A1 n1 c1] := ((blkAt _ _ _ (by simp)).alloc (.cells #[.bool b'1, .slice A'1 n'1 c'1] 48))
  have x2_1 : Blk ((w1.alloc (.cells #[.bool b1, .slice A1 n1 c1] 48)).alloc (.cells #[.bool b'1, .slice A'1 n'1 c'1] 48)) (w1.heap.size + 1) 48 #[.bool b'1, .slice A'1 n'1 c'1] := (blkAt _ _ _ (by simp))
  replace x1_0 : Blk ((w1.alloc (.cells #[.bool b1, .slice A1 n1 c1] 48)).alloc (.cells #[.bool b'1, .slice A'1 n'1 c'1] 48)) (w.heap.size) 24 #[.bool b, .slice A n c, .slice D m e] := ((x1_0.alloc (.cells #[.bool b1, .slice A1 n1 c1] 48)).alloc (.cells #[.bool b'1, .slice A'1 n'1 c'1] 48))
  have lw2 : w1.heap.size + 2 ≤ ((w1.alloc (.cells #[.bool b1, .slice A1 n1 c1] 48)).alloc (.cells #[.bool b'1, .slice A'1 n'1 c'1] 48)).heap.size := by simp
  generalize hE2 : ((w1.alloc (.cells #[.bool b1, .slice A1 n1 c1] 48)).alloc (.cells #[.bool b'1, .slice A'1 n'1 c'1] 48)) = w2 at p2 bw2 lw2 x2_0 x2_1 x1_0 ⊢
  clear hE2
  replace h := h.keep p2
  replace h1 := h1.keep p2
  replace h'1 := h'1.keep p2
  clear bw1
  obtain ⟨lx1_0_0, lx1_0_1, lx1_0_2, lx1_0_3⟩ := lts0 x1_0.lt
  obtain ⟨lx2_0_0, lx2_0_1, lx2_0_2, lx2_0_3⟩ := lts0 x2_0.lt
  obtain ⟨cx2_1_0, cx2_1_1⟩ := x2_1.c2
  obtain ⟨lx2_1_0, lx2_1_1, lx2_1_2, lx2_1_3⟩ := lts1 x2_1.lt
  go_region_held3 (fun w' => Sees w2.heap.size w2 w') (first | with_reducible exact Sees.of (Nat.le_refl _) (by assumption) | with_reducible exact Sees.of (Nat.le_refl _) (brefl _).drew | exact Sees.of (Nat.le_refl _) (below_drewN (brefl _) 1) | exact Sees.of (Nat.le_refl _) (below_drewN (by assumption) _))
    (first
      | (go_at_call 92; (with_reducible refine (g_one _).mono ?_); rintro e w3 ⟨b3, A3, n3, c3, rfl, h3, hb3⟩; replace hb3 := bnext (below_drewN (brefl _) 1) hb3; have q3 : Below w2.heap.size w2 w3 := bnext (brefl w2) hb3; replace h := h.belw hb3; replace h1 := h1.belw hb3; replace h'1 := h'1.belw hb3)
      | (go_at_call 90; (with_reducible refine (r01_cmp_v _ b'1 A'1 n'1 c'1 (((q).den : Int)) ((k)) ?_ b3 A3 n3 c3 (1) (1) ?_ u HC.out ?_).mono ?_); (exact h'1.iz); (exact h3.iz); (first | omega | decide | assumption); rintro e w4 ⟨rfl, hb4⟩; have q4 : Below w2.heap.size w2 w4 := bnext q3 hb4; replace h := h.belw hb4; replace h1 := h1.belw hb4; replace h'1 := h'1.belw hb4; replace h3 := h3.belw hb4))
  have bw4 : Below w.heap.size w w4 := bw2.trans (q4.mono bw2.size)
  clear lx1_0_0 lx1_0_1 lx1_0_2 lx1_0_3 lx2_0_0 lx2_0_1 lx2_0_2 lx2_0_3 cx2_1_0 cx2_1_1 lx2_1_0 lx2_1_1 lx2_1_2 lx2_1_3
  replace x1_0 := x1_0.below q4 x1_0.lt
  replace x2_0 := x2_0.below q4 x2_0.lt
  replace x2_1 := x2_1.below q4 x2_1.lt
  have lw4 : w2.heap.size ≤ w4.heap.size := q4.size
  obtain ⟨lx1_0_0, lx1_0_1, lx1_0_2, lx1_0_3⟩ := lts0 x1_0.lt
  obtain ⟨cx2_0_0, cx2_0_1⟩ := x2_0.c2
  obtain ⟨lx2_0_0, lx2_0_1, lx2_0_2, lx2_0_3⟩ := lts0 x2_0.lt
  obtain ⟨cx2_1_0, cx2_1_1⟩ := x2_1.c2
  obtain ⟨lx2_1_0, lx2_1_1, lx2_1_2, lx2_1_3⟩ := lts1 x2_1.lt
  go_wp2_with fail
  go_region_held3 (fun w' => Sees w4.heap.size w4 w') (first | with_reducible exact Sees.of (Nat.le_refl _) (by assumption) | with_reducible exact Sees.of (Nat.le_refl _) (brefl _).drew | exact Sees.of (Nat.le_refl _) (below_drewN (brefl _) 1) | exact Sees.of (Nat.le_refl _) (below_drewN (by assumption) _))
    (first
      | (go_at_call 26; (with_reducible refine (r01_text_l _ b1 A1 n1 c1 ((q).num) ((k)) ?_ X ?_ ?_).mono ?_); (exact h1.iz); (first | omega | decide | assumption); (exact HX.out); rintro e w5 ⟨rfl, hb5⟩; replace hb5 := bnext (below_drewN (brefl _) 1) hb5; have q5 : Below w4.heap.size w4 w5 := bnext (brefl w4) hb5; replace h := h.belw hb5; replace h1 := h1.belw hb5; replace h'1 := h'1.belw hb5; replace h3 := h3.belw hb5)
      | (go_at_call 26; (with_reducible refine (r01_text_l _ b'1 A'1 n'1 c'1 (((q).den : Int)) ((k)) ?_ Y ?_ ?_).mono ?_); (exact h'1.iz); (first | omega | decide | assumption); (exact HY.out); rintro e w6 ⟨rfl, hb6⟩; have q6 : Below w4.heap.size w4 w6 := bnext q5 hb6; replace h := h.belw hb6; replace h1 := h1.belw hb6; replace h'1 := h'1.belw hb6; replace h3 := h3.belw hb6))
  have bw6 : Below w.heap.size w w6 := bw4.trans (q6.mono bw4.size)
  clear lx1_0_0 lx1_0_1 lx1_0_2 lx1_0_3 cx2_0_0 cx2_0_1 lx2_0_0 lx2_0_1 lx2_0_2 lx2_0_3 cx2_1_0 cx2_1_1 lx2_1_0 lx2_1_1 lx2_1_2 lx2_1_3
  replace x1_0 := x1_0.below q6 x1_0.lt
  replace x2_0 := x2_0.below q6 x2_0.lt
  replace x2_1 := x2_1.below q6 x2_1.lt
  have lw6 : w4.heap.size ≤ w6.heap.size := q6.size
  go_wp2_with fail
  go_ret
  refine ⟨?_, bw6⟩
  exact congrArg (fun x => Ending.returned (.string x)) (cat_slash X Y)
theorem g_text (w : World) (b : Bool) (A : Option Addr) (n c : Nat) (D : Option Addr) (m e : Nat) (q : Rat) (k : Nat) (h : QZ w b A n c D m e q k) (h0 : 0 < k) (hk : k ≤ 40000000) (T : List UInt8) (hT : ratText q = T) : Calls Tryz.prog 50 #[.agg #[.bool b, .slice A n c, .slice D m e]] w (RetV w (strV T)) := by
  subst hT
  by_cases hd : q.den = 1
  · exact g_text_1 w b A n c D m e q k h h0 hk hd
  · exact g_text_2 w b A n c D m e q k h h0 hk hd
end Go.Proofs.YtpnnfbodphflpaaGreatDoor

/- Walks: turns. -/
namespace Go.Proofs.YtpnnfbodphflpaaGreatDoor
open Go Go.RowKit Bn
attribute [local go_sem ↓] Go.wp_at_zero Go.wp_at_succ
set_option maxRecDepth 100000 in
set_option maxHeartbeats 2000000 in
/-- turn.over -/
theorem t_over (w : World) (b : Bool) (A : Option Addr) (n c : Nat) (D : Option Addr) (m e : Nat) (q : Rat) (k : Nat) (h : QZ w b A n c D m e q k) (b' : Bool) (A' : Option Addr) (n' c' : Nat) (D' : Option Addr) (m' e' : Nat) (q' : Rat) (k' : Nat) (h' : QZ w b' A' n' c' D' m' e' q' k') (h0 : 0 < k) (hk : k ≤ 40000000) (h0' : 0 < k') (hk' : k' ≤ 40000000) (hne : q' ≠ 0) :
    Calls Tryz.prog 84 #[.agg #[.bool b, .slice A n c, .slice D m e], .agg #[.bool b', .slice A' n' c', .slice D' m' e']] w (RetF w (q / q') (k + k')) := by
  have HN := Lib.hid hne
  clear hne
  go_enter Tryz.func84, Tryz.ntmps84
  go_wp2_with fail
  (with_reducible refine (f_div _ b A n c D m e (q) (k) ?_ b' A' n' c' D' m' e' (q') (k') ?_ ?_ ?_ ?_ ?_ ?_).mono ?_); (exact (h.belw ((((Below.refl _ _).alloc (Nat.le_refl _) _).alloc (by simp) _).alloc (by simp <;> omega) _))); (exact (h'.belw ((((Below.refl _ _).alloc (Nat.le_refl _) _).alloc (by simp) _).alloc (by simp <;> omega) _))); (first | omega | decide | assumption); (first | omega | decide | assumption); (first | omega | decide | assumption); (first | omega | decide | assumption); (exact HN.out); rintro e w1 ⟨b1, A1, n1, c1, A'1, n'1, c'1, rfl, h1, hb1⟩
  have q1 : Below w.heap.size w w1 := ((((Below.refl _ _).alloc (Nat.le_refl _) _).alloc (by simp) _).alloc (by simp <;> omega) _).trans (hb1.mono (by simp <;> omega))
  replace h := h.belw q1
  replace h' := h'.belw q1
  have x1_0 : Blk w1 (w.heap.size) 24 #[.bool b, .slice A n c, .slice D m e] := (((blkAt _ _ _ (by simp)).alloc _).alloc _).below hb1 (by simp <;> omega)
  have x1_1 : Blk w1 (w.heap.size + 1) 24 #[.bool b', .slice A' n' c', .slice D' m' e'] := ((blkAt _ _ _ (by simp)).alloc _).below hb1 (by simp <;> omega)
  have x1_2 : Blk w1 (w.heap.size + 1 + 1) 24 #[.bool false, .slice none 0 0, .slice none 0 0] := (blkAt _ _ _ (by simp)).below hb1 (by simp)
  have bw1 : Below w.heap.size w w1 := (brefl w).trans (q1.mono (brefl w).size)
  have lw1 : w.heap.size + 3 ≤ w1.heap.size := by have := hb1.size; simp at this; omega
  clear hb1 q1
  obtain ⟨cx1_2_0, cx1_2_1, cx1_2_2⟩ := x1_2.c3
  obtain ⟨fx1_2_0, fx1_2_1, fx1_2_2⟩ := x1_2.f3
  obtain ⟨lx1_2_0, lx1_2_1, lx1_2_2, lx1_2_3⟩ := lts2 x1_2.lt
  go_wp2_with fail
  refine bodyPost_ret (v := .agg #[.bool b1, .slice A1 n1 c1, .slice A'1 n'1 c'1]) (by simp [results, Tryz.results84, go_sem, *] <;> first | rfl | exact ⟨rfl, rfl⟩) rfl ?_
  exact ⟨b1, A1, n1, c1, A'1, n'1, c'1, rfl, h1.keep (((((Kp.refl w1).setB (p := ⟨w.heap.size + 1 + 1, 0, none⟩) x1_2.box (by decide) (.bool b1)).setB (p := ⟨w.heap.size + 1 + 1, 1, none⟩) (x1_2.box.set ⟨w.heap.size + 1 + 1, 0, none⟩ (.bool b1)) (by decide) (.slice A1 n1 c1)).setB (p := ⟨w.heap.size + 1 + 1, 2, none⟩) ((x1_2.box.set ⟨w.heap.size + 1 + 1, 0, none⟩ (.bool b1)).set ⟨w.heap.size + 1 + 1, 1, none⟩ (.slice A1 n1 c1)) (by decide) (.slice A'1 n'1 c'1)).alloc (.cells #[.bool b1, .slice A1 n1 c1, .slice A'1 n'1 c'1] 24)), ((((bw1.setCell (p := ⟨w.heap.size + 1 + 1, 0, none⟩) (by dsimp only; omega) (.bool b1)).setCell (p := ⟨w.heap.size + 1 + 1, 1, none⟩) (by dsimp only; omega) (.slice A1 n1 c1)).setCell (p := ⟨w.heap.size + 1 + 1, 2, none⟩) (by dsimp only; omega) (.slice A'1 n'1 c'1)).alloc (by first | omega | (simp <;> omega)) (.cells #[.bool b1, .slice A1 n1 c1, .slice A'1 n'1 c'1] 24))⟩
set_option maxRecDepth 100000 in
set_option maxHeartbeats 2000000 in
/-- turn.half -/
theorem t_half (w : World)  :
    Calls Tryz.prog 124 #[] w (RetT w thalf 1) := by
  go_enter Tryz.func124, Tryz.ntmps124
  go_wp2_with fail
  refine bodyPost_ret (v := .agg #[.bool false, .slice none 0 0, .slice none 0 0, .bool true]) (by simp [results, Tryz.results124, go_sem, *] <;> first | rfl | exact ⟨rfl, rfl⟩) rfl ?_
  exact ⟨false, none, 0, 0, none, 0, 0, true, rfl, ⟨QV.zero _ _, rfl, fun _ => rfl⟩, (Below.refl _ _).alloc (Nat.le_refl _) _⟩
theorem f_sign_e (w : World) (b : Bool) (A : Option Addr) (n c : Nat) (D : Option Addr) (m e : Nat) (q : Rat) (k : Nat) (h : QZ w b A n c D m e q k) (s : Int) (hs : q.num.sign = s) (h0 : 0 < k) (hk : k ≤ 40000000) : Calls Tryz.prog 40 #[.agg #[.bool b, .slice A n c, .slice D m e]] w (RetV w (.int .i64 s)) := by subst hs; exact f_sign w b A n c D m e q k h h0 hk
set_option maxRecDepth 100000 in
set_option maxHeartbeats 2000000 in
/-- turn.Check -/
theorem t_check_false (w : World) (b : Bool) (A : Option Addr) (n c : Nat) (D : Option Addr) (m e : Nat) (t : TN) (k : Nat) (h : TK w b A n c D m e false t k) (h0 : 0 < k) (hk : k ≤ 1000000) :
    Calls Tryz.prog 14 #[.agg #[.bool b, .slice A n c, .slice D m e, .bool false]] w (RetV w .nilIface) := by
  obtain ⟨⟨a, ha, hq, ho⟩, hx, hok⟩ := id h
  have HO := Lib.hid ho
  have HQ := Lib.hid (show (t.t).num.sign = 0 ∨ t.h = false by cases hh : t.h; exact .inr rfl; exact .inl (by rw [hok hh]; rfl))
  have HX := Lib.hid hx
  clear hq ho hx hok
  go_enter Tryz.func14, Tryz.ntmps14
  go_wp2_with fail
  (with_reducible refine (f_valid_e _ b A n c D m e a k true ?_ ?_ ?_).mono ?_); (exact ha.belw ((Below.refl _ _).alloc (Nat.le_refl _) _)); (omega); (exact HO.out); rintro e w1 ⟨rfl, hb1⟩
  have q1 : Below w.heap.size w w1 := ((Below.refl _ _).alloc (Nat.le_refl _) _).trans (hb1.mono (by simp))
  replace h := h.belw q1
  replace ha := ha.belw q1
  have x1_0 : Blk w1 (w.heap.size) 26 #[.bool b, .slice A n c, .slice D m e, .bool false] := (blkAt _ _ _ (by simp)).below hb1 (by simp)
  have bw1 : Below w.heap.size w w1 := (brefl w).trans (q1.mono (brefl w).size)
  have lw1 : w.heap.size + 1 ≤ w1.heap.size := by have := hb1.size; simp at this; omega
  clear hb1 q1
  obtain ⟨cx1_0_0, cx1_0_1, cx1_0_2, cx1_0_3⟩ := x1_0.c4
  obtain ⟨lx1_0_0, lx1_0_1, lx1_0_2, lx1_0_3⟩ := lts0 x1_0.lt
  go_wp2_with fail
  go_ret
  exact ⟨rfl, bw1⟩
set_option maxRecDepth 100000 in
set_option maxHeartbeats 2000000 in
/-- turn.Check -/
theorem t_check_true (w : World) (b : Bool) (A : Option Addr) (n c : Nat) (D : Option Addr) (m e : Nat) (t : TN) (k : Nat) (h : TK w b A n c D m e true t k) (h0 : 0 < k) (hk : k ≤ 1000000) :
    Calls Tryz.prog 14 #[.agg #[.bool b, .slice A n c, .slice D m e, .bool true]] w (RetV w .nilIface) := by
  obtain ⟨⟨a, ha, hq, ho⟩, hx, hok⟩ := id h
  have HO := Lib.hid ho
  have HQ := Lib.hid (show (t.t).num.sign = 0 ∨ t.h = false by cases hh : t.h; exact .inr rfl; exact .inl (by rw [hok hh]; rfl))
  have HX := Lib.hid hx
  clear hq ho hx hok
  go_enter Tryz.func14, Tryz.ntmps14
  go_wp2_with fail
  (with_reducible refine (f_valid_e _ b A n c D m e a k true ?_ ?_ ?_).mono ?_); (exact ha.belw ((Below.refl _ _).alloc (Nat.le_refl _) _)); (omega); (exact HO.out); rintro e w1 ⟨rfl, hb1⟩
  have q1 : Below w.heap.size w w1 := ((Below.refl _ _).alloc (Nat.le_refl _) _).trans (hb1.mono (by simp))
  replace h := h.belw q1
  replace ha := ha.belw q1
  have x1_0 : Blk w1 (w.heap.size) 26 #[.bool b, .slice A n c, .slice D m e, .bool true] := (blkAt _ _ _ (by simp)).below hb1 (by simp)
  have bw1 : Below w.heap.size w w1 := (brefl w).trans (q1.mono (brefl w).size)
  have lw1 : w.heap.size + 1 ≤ w1.heap.size := by have := hb1.size; simp at this; omega
  clear hb1 q1
  obtain ⟨cx1_0_0, cx1_0_1, cx1_0_2, cx1_0_3⟩ := x1_0.c4
  obtain ⟨lx1_0_0, lx1_0_1, lx1_0_2, lx1_0_3⟩ := lts0 x1_0.lt
  go_wp2_with fail
  (with_reducible refine (f_sign_e _ b A n c D m e ((t).t) (k) ?_ 0 ?_ ?_ ?_).mono ?_); (exact h.qz); (exact HQ.out.resolve_right (by rw [← HX.out]; decide)); (omega); (omega); rintro e w2 ⟨rfl, hb2⟩
  clear cx1_0_0 cx1_0_1 cx1_0_2 cx1_0_3 lx1_0_0 lx1_0_1 lx1_0_2 lx1_0_3
  have q2 : Below w1.heap.size w1 w2 := hb2
  replace h := h.belw q2
  replace ha := ha.belw q2
  replace x1_0 := x1_0.below q2 x1_0.lt
  have bw2 : Below w.heap.size w w2 := bw1.trans (q2.mono bw1.size)
  have lw2 : w1.heap.size ≤ w2.heap.size := q2.size
  clear hb2 q2 bw1
  go_wp2_with fail
  go_ret
  exact ⟨rfl, bw2⟩
theorem t_check (w : World) (b : Bool) (A : Option Addr) (n c : Nat) (D : Option Addr) (m e : Nat) (x : Bool) (t : TN) (k : Nat) (h : TK w b A n c D m e x t k) (h0 : 0 < k) (hk : k ≤ 1000000) : Calls Tryz.prog 14 #[.agg #[.bool b, .slice A n c, .slice D m e, .bool x]] w (RetV w .nilIface) := by
  cases x
  · exact t_check_false w b A n c D m e t k h h0 hk
  · exact t_check_true w b A n c D m e t k h h0 hk
set_option maxRecDepth 100000 in
set_option maxHeartbeats 4000000 in
/-- turn.direction -/
theorem t_direction_false (w : World) (b : Bool) (A : Option Addr) (n c : Nat) (D : Option Addr) (m e : Nat) (t : TN) (k : Nat) (h : TK w b A n c D m e false t k) (h0 : 0 < k) (hk : k ≤ 1000000) :
    Calls Tryz.prog 34 #[.agg #[.bool b, .slice A n c, .slice D m e, .bool false]] w (RetQQ w (tcos t) (tsin t) (4 * k + 4)) := by
  have HNE := Lib.hid (show ((1 : Int) : Rat) + t.t * t.t ≠ 0 from one_add_sq t.t)
  have HC := Lib.hid (show (((1 : Int) : Rat) - t.t * t.t) / (((1 : Int) : Rat) + t.t * t.t) = tcos t by unfold tcos; rw [if_neg (by rw [← h.2.1]; decide)]; rfl)
  have HS := Lib.hid (show (t.t + t.t) / (((1 : Int) : Rat) + t.t * t.t) = tsin t by unfold tsin; rw [if_neg (by rw [← h.2.1]; decide)]; rfl)
  go_enter Tryz.func34, Tryz.ntmps34
  go_wp2_with fail
  have p1 : Kp w (((w.alloc (.cells #[.bool b, .slice A n c, .slice D m e, .bool false] 26)).alloc (.cells #[.bool false, .slice none 0 0, .slice none 0 0] 24)).alloc (.cells #[.bool false, .slice none 0 0, .slice none 0 0] 24)) := ((((Kp.refl w).alloc (.cells #[.bool b, .slice A n c, .slice D m e, .bool false] 26)).alloc (.cells #[.bool false, .slice none 0 0, .slice none 0 0] 24)).alloc (.cells #[.bool false, .slice none 0 0, .slice none 0 0] 24))
  have bw1 : Below w.heap.size w (((w.alloc (.cells #[.bool b, .slice A n c, .slice D m e, .bool false] 26)).alloc (.cells #[.bool false, .slice none 0 0, .slice none 0 0] 24)).alloc (.cells #[.bool false, .slice none 0 0, .slice none 0 0] 24)) := ((((brefl w).alloc (by first | omega | (simp <;> omega)) (.cells #[.bool b, .slice A n c, .slice D m e, .bool false] 26)).alloc (by first | omega | (simp <;> omega)) (.cells #[.bool false, .slice none 0 0, .slice none 0 0] 24)).alloc (by first | omega | (simp <;> omega)) (.cells #[.bool false, .slice none 0 0, .slice none 0 0] 24))
  have x1_0 : Blk (((w.alloc (.cells #[.bool b, .slice A n c, .slice D m e, .bool false] 26)).alloc (.cells #[.bool false, .slice none 0 0, .slice none 0 0] 24)).alloc (.cells #[.bool false, .slice none 0 0, .slice none 0 0] 24)) (w.heap.size) 26 #[.bool b, .slice A n c, .slice D m e, .bool false] := (((blkAt _ _ _ (by simp)).alloc (.cells #[.bool false, .slice none 0 0, .slice none 0 0] 24)).alloc (.cells #[.bool false, .slice none 0 0, .slice none 0 0] 24))
  have x1_1 : Blk (((w.alloc (.cells #[.bool b, .slice A n c, .slice D m e, .bool false] 26)).alloc (.cells #[.bool false, .slice none 0 0, .slice none 0 0] 24)).alloc (.cells #[.bool false, .slice none 0 0, .slice none 0 0] 24)) (w.heap.size + 1) 24 #[.bool false, .slice none 0 0, .slice none 0 0] := ((blkAt _ _ _ (by simp)).alloc (.cells #[.bool false, .slice none 0 0, .slice none 0 0] 24))
  have x1_2 : Blk (((w.alloc (.cells #[.bool b, .slice A n c, .slice D m e, .bool false] 26)).alloc (.cells #[.bool false, .slice none 0 0, .slice none 0 0] 24)).alloc (.cells #[.bool false, .slice none 0 0, .slice none 0 0] 24)) (w.heap.size + 1 + 1) 24 #[.bool false, .slice none 0 0, .slice none 0 0] := (blkAt _ _ _ (by simp))
  have lw1 : w.heap.size + 3 ≤ (((w.alloc (.cells #[.bool b, .slice A n c, .slice D m e, .bool false] 26)).alloc (.cells #[.bool false, .slice none 0 0, .slice none 0 0] 24)).alloc (.cells #[.bool false, .slice none 0 0, .slice none 0 0] 24)).heap.size := by simp
  generalize hE1 : (((w.alloc (.cells #[.bool b, .slice A n c, .slice D m e, .bool false] 26)).alloc (.cells #[.bool false, .slice none 0 0, .slice none 0 0] 24)).alloc (.cells #[.bool false, .slice none 0 0, .slice none 0 0] 24)) = w1 at p1 bw1 lw1 x1_0 x1_1 x1_2 ⊢
  clear hE1
  replace h := h.keep p1
  obtain ⟨cx1_0_0, cx1_0_1, cx1_0_2, cx1_0_3⟩ := x1_0.c4
  obtain ⟨lx1_0_0, lx1_0_1, lx1_0_2, lx1_0_3⟩ := lts0 x1_0.lt
  refine wp_region_lin (B := w.heap.size) (fr := fun xf => ⟨#[.agg #[.bool b, .slice A n c, .slice D m e, .bool false], .pointer (some ⟨w.heap.size, 0, none⟩), .pointer (some ⟨w.heap.size + 1, 0, none⟩), .pointer (some ⟨w.heap.size + 1 + 1, 0, none⟩), xf 6, xf 7, undef, .pointer (some ⟨w.heap.size, 3, none⟩), .bool false, undef, undef, xf 0, xf 1, xf 2, xf 3, xf 4, xf 5, undef, undef, undef, undef, undef, undef, undef, undef, undef, undef, undef, undef, undef, undef, undef], []⟩) (R := fun i => List.getD [VQ (((1 : Int) : Rat)) (1), PEq (.pointer (some ⟨w.heap.size, 0, none⟩)), PEq (.agg #[.bool b, .slice A n c, .slice D m e]), PEq (.pointer (some ⟨w.heap.size, 0, none⟩)), PEq (.agg #[.bool b, .slice A n c, .slice D m e]), VQ (((t).t) * ((t).t)) ((k) + (k)), PAny, PAny, PAny, PAny] i (fun _ _ => True)) (es := [⟨6, 8, 24, #[.bool false, .slice none 0 0, .slice none 0 0], CQ (((1 : Int) : Rat)) (1)⟩, ⟨7, 9, 24, #[.bool false, .slice none 0 0, .slice none 0 0], CQ (((t).t) * ((t).t)) ((k) + (k))⟩]) (ow := [⟨w.heap.size, 10, 0, 26, #[.bool b, .slice A n c, .slice D m e, .bool false], CAny⟩, ⟨w.heap.size + 1, 10, 0, 24, #[.bool false, .slice none 0 0, .slice none 0 0], CAny⟩, ⟨w.heap.size + 1 + 1, 10, 0, 24, #[.bool false, .slice none 0 0, .slice none 0 0], CAny⟩]) (x0 := fun _ => undef) (by kernel_rfl)
    (each_of ⟨fun _ _ => rfl, fun _ _ => rfl, fun _ _ => rfl, fun _ _ => rfl, fun _ _ => rfl, fun _ _ => rfl, fun _ _ => rfl, fun _ _ => rfl, fun _ _ => rfl, fun _ _ => rfl, trivial⟩) (each_of (acyc_from _ 0 (by kernel_rfl))) (AllStab.get _ ⟨stQ _ _, stEq _, stEq _, stEq _, stEq _, stQ _ _, stAny, stAny, stAny, stAny, trivial⟩)
    (List.forall_mem_cons.2 ⟨scQ _ _, List.forall_mem_cons.2 ⟨scQ _ _, fun _ h => nomatch h⟩⟩) (List.forall_mem_cons.2 ⟨scAny, List.forall_mem_cons.2 ⟨scAny, List.forall_mem_cons.2 ⟨scAny, fun _ h => nomatch h⟩⟩⟩) (List.forall_mem_cons.2 ⟨⟨by simp, by simp⟩, List.forall_mem_cons.2 ⟨⟨by simp, by simp⟩, fun _ h => nomatch h⟩⟩) bw1.size
    (List.forall_mem_cons.2 ⟨⟨x1_0, by show w.heap.size ≤ w.heap.size; omega⟩, List.forall_mem_cons.2 ⟨⟨x1_1, by show w.heap.size ≤ w.heap.size + 1; omega⟩, List.forall_mem_cons.2 ⟨⟨x1_2, by show w.heap.size ≤ w.heap.size + 1 + 1; omega⟩, fun _ h => nomatch h⟩⟩⟩) (ownDist (by simp <;> omega))
    (each_of ⟨?_, ?_, ?_, ?_, ?_, ?_, ?_, ?_, ?_, ?_, trivial⟩) ?_
  · exact .inl ⟨by simp, by simp, fun xf wq hk hbl hd K hK => by
      (try dsimp only)
      go_simp
      go_at_call 81
      (with_reducible refine (f_of _ (1) ?_ ?_).mono ?_); (first | omega | decide | assumption); (first | omega | decide | assumption); rintro e wr ⟨b3, A3, n3, c3, A'3, n'3, c'3, rfl, h3, hbr⟩
      exact hK.out _ _ ⟨b3, A3, n3, c3, A'3, n'3, c'3, rfl, h3⟩ hbr⟩
  · exact .inl ⟨by simp, by simp, fun xf wq hk hbl hd K hK => by
      (try dsimp only)
      go_simp
      exact hK.out (.pointer (some ⟨w.heap.size, 0, none⟩)) _ rfl (brefl _)⟩
  · exact .inl ⟨by simp, by simp, fun xf wq hk hbl hd K hK => by
      have d1 : xf 1 = .pointer (some ⟨w.heap.size, 0, none⟩) := hd ⟨1, .data⟩ (by simp) rfl
      have y : Blk wq (w.heap.size) 26 #[.bool b, .slice A n c, .slice D m e, .bool false] := hbl _ (List.Mem.head _) (by simp [Region.binds])
      obtain ⟨c0, c1, c2, c3⟩ := y.c4
      (try dsimp only); (try simp only [d1])
      go_simp
      have hz := hK.out (.agg #[.bool b, .slice A n c, .slice D m e]) _ rfl (brefl _)
      simp only [d1] at hz
      exact hz⟩
  · exact .inl ⟨by simp, by simp, fun xf wq hk hbl hd K hK => by
      (try dsimp only)
      go_simp
      exact hK.out (.pointer (some ⟨w.heap.size, 0, none⟩)) _ rfl (brefl _)⟩
  · exact .inl ⟨by simp, by simp, fun xf wq hk hbl hd K hK => by
      have d3 : xf 3 = .pointer (some ⟨w.heap.size, 0, none⟩) := hd ⟨3, .data⟩ (by simp) rfl
      have y : Blk wq (w.heap.size) 26 #[.bool b, .slice A n c, .slice D m e, .bool false] := hbl _ (List.Mem.head _) (by simp [Region.binds])
      obtain ⟨c0, c1, c2, c3⟩ := y.c4
      (try dsimp only); (try simp only [d3])
      go_simp
      have hz := hK.out (.agg #[.bool b, .slice A n c, .slice D m e]) _ rfl (brefl _)
      simp only [d3] at hz
      exact hz⟩
  · exact .inl ⟨by simp, by simp, fun xf wq hk hbl hd K hK => by
      have d2 : xf 2 = .agg #[.bool b, .slice A n c, .slice D m e] := hd ⟨2, .data⟩ (by simp) rfl
      have d4 : xf 4 = .agg #[.bool b, .slice A n c, .slice D m e] := hd ⟨4, .data⟩ (by simp) rfl
      (try dsimp only); (try simp only [d2, d4])
      go_simp
      go_at_call 82
      (with_reducible refine (f_mul _ b A n c D m e ((t).t) (k) ?_ b A n c D m e ((t).t) (k) ?_ ?_ ?_ ?_ ?_).mono ?_); (exact (h.keep hk).qz); (exact (h.keep hk).qz); (first | omega | decide | assumption); (first | omega | decide | assumption); (first | omega | decide | assumption); (first | omega | decide | assumption); rintro e wr ⟨b4, A4, n4, c4, A'4, n'4, c'4, rfl, h4, hbr⟩
      have hz := hK.out _ _ ⟨b4, A4, n4, c4, A'4, n'4, c'4, rfl, h4⟩ hbr
      simp only [d2, d4] at hz
      exact hz⟩
  · exact .inr (.inl ⟨⟨6, 8, 24, #[.bool false, .slice none 0 0, .slice none 0 0], CQ (((1 : Int) : Rat)) (1)⟩, by simp, rfl, by simp, by simp, by simp, fun _ _ => True.intro, fun xf wq K hK => by
      (try dsimp only)
      go_simp
      exact hK.out⟩)
  · exact .inr (.inl ⟨⟨7, 9, 24, #[.bool false, .slice none 0 0, .slice none 0 0], CQ (((t).t) * ((t).t)) ((k) + (k))⟩, by simp, rfl, by simp, by simp, by simp, fun _ _ => True.intro, fun xf wq K hK => by
      (try dsimp only)
      go_simp
      exact hK.out⟩)
  · exact .inr (.inr (.inl ⟨⟨6, 8, 24, #[.bool false, .slice none 0 0, .slice none 0 0], CQ (((1 : Int) : Rat)) (1)⟩, by simp, rfl, by simp, by simp, by simp, by simp, (show KT 24 = false by decide), fun _ _ => True.intro, ⟨⟨6, .data⟩, by simp, rfl, rfl⟩, fun xf wq g hx hblk hd => by
      obtain ⟨b3, A3, n3, c3, A'3, n'3, c'3, d0, h3⟩ : VQ (((1 : Int) : Rat)) (1) (xf 0) wq := hd ⟨0, .data⟩ (by simp) rfl
      dsimp only at hx hblk
      refine ⟨[.bool b3, .slice A3 n3 c3, .slice A'3 n'3 c'3], fun w' hk => ⟨b3, A3, n3, c3, A'3, n'3, c'3, rfl, h3.keep hk⟩, fun K hK => ?_⟩
      have hc0 : wq.cell? ⟨g, 0, none⟩ = some (.bool false) := hblk.cell 0
      have hc1 : wq.cell? ⟨g, 1, none⟩ = some (.slice none 0 0) := hblk.cell 1
      have hc2 : wq.cell? ⟨g, 2, none⟩ = some (.slice none 0 0) := hblk.cell 2
      have hf0 : wq.frozen? ⟨g, 0, none⟩ = false := hblk.frozen 0
      have hf1 : wq.frozen? ⟨g, 1, none⟩ = false := hblk.frozen 1
      have hf2 : wq.frozen? ⟨g, 2, none⟩ = false := hblk.frozen 2
      (try dsimp only)
      simp only [hx, d0]
      go_simp
      have hz := hK.out undef
      simp only [hx, d0] at hz
      exact hz⟩))
  · exact .inr (.inr (.inl ⟨⟨7, 9, 24, #[.bool false, .slice none 0 0, .slice none 0 0], CQ (((t).t) * ((t).t)) ((k) + (k))⟩, by simp, rfl, by simp, by simp, by simp, by simp, (show KT 24 = false by decide), fun _ _ => True.intro, ⟨⟨7, .data⟩, by simp, rfl, rfl⟩, fun xf wq g hx hblk hd => by
      obtain ⟨b4, A4, n4, c4, A'4, n'4, c'4, d5, h4⟩ : VQ (((t).t) * ((t).t)) ((k) + (k)) (xf 5) wq := hd ⟨5, .data⟩ (by simp) rfl
      dsimp only at hx hblk
      refine ⟨[.bool b4, .slice A4 n4 c4, .slice A'4 n'4 c'4], fun w' hk => ⟨b4, A4, n4, c4, A'4, n'4, c'4, rfl, h4.keep hk⟩, fun K hK => ?_⟩
      have hc0 : wq.cell? ⟨g, 0, none⟩ = some (.bool false) := hblk.cell 0
      have hc1 : wq.cell? ⟨g, 1, none⟩ = some (.slice none 0 0) := hblk.cell 1
      have hc2 : wq.cell? ⟨g, 2, none⟩ = some (.slice none 0 0) := hblk.cell 2
      have hf0 : wq.frozen? ⟨g, 0, none⟩ = false := hblk.frozen 0
      have hf1 : wq.frozen? ⟨g, 1, none⟩ = false := hblk.frozen 1
      have hf2 : wq.frozen? ⟨g, 2, none⟩ = false := hblk.frozen 2
      (try dsimp only)
      simp only [hx, d5]
      go_simp
      have hz := hK.out undef
      simp only [hx, d5] at hz
      exact hz⟩))
  clear cx1_0_0 cx1_0_1 cx1_0_2 cx1_0_3 lx1_0_0 lx1_0_1 lx1_0_2 lx1_0_3
  intro y2 w2 kq2 hbl2 lw2 how hrr hfl hds
  replace h := h.keep kq2
  obtain ⟨_, z2_0, ez, _⟩ := how _ (List.Mem.head _)
  obtain rfl := ez (by simp)
  dsimp only at z2_0
  obtain ⟨_, z2_1, ez, _⟩ := how _ (List.Mem.tail _ (List.Mem.head _))
  obtain rfl := ez (by simp)
  dsimp only at z2_1
  obtain ⟨_, z2_2, ez, _⟩ := how _ (List.Mem.tail _ (List.Mem.tail _ (List.Mem.head _)))
  obtain rfl := ez (by simp)
  dsimp only at z2_2
  obtain ⟨g4_2, _, eg4_2, Gg4_2, xg4_2, ⟨b3, A3, n3, c3, A'3, n'3, c'3, rfl, h3⟩⟩ := hfl _ (List.Mem.head _)
  dsimp only at eg4_2 Gg4_2 xg4_2
  obtain ⟨g5_2, _, eg5_2, Gg5_2, xg5_2, ⟨b4, A4, n4, c4, A'4, n'4, c'4, rfl, h4⟩⟩ := hfl _ (List.Mem.tail _ (List.Mem.head _))
  dsimp only at eg5_2 Gg5_2 xg5_2
  have lgg4_2 : g4_2 < w2.heap.size := xg4_2.lt
  have lgg5_2 : g5_2 < w2.heap.size := xg5_2.lt
  have ngg4_2g5_2 : g4_2 ≠ g5_2 := fun e => hds _ (List.Mem.head _) _ (List.Mem.tail _ (List.Mem.head _)) (by simp) (by dsimp only; rw [eg4_2, eg5_2, e])
  (try dsimp only)
  simp only [eg4_2, eg5_2]
  clear hrr hfl how hds eg4_2 eg5_2
  clear x1_0 x1_1 x1_2
  have bw2 : Below w.heap.size w w2 := bw1.trans hbl2
  clear bw1
  have cxg4_2_0 : w2.cell? ⟨g4_2, 0, none⟩ = some (.bool b3) := xg4_2.cell 0
  have cxg4_2_1 : w2.cell? ⟨g4_2, 1, none⟩ = some (.slice A3 n3 c3) := xg4_2.cell 1
  have cxg4_2_2 : w2.cell? ⟨g4_2, 2, none⟩ = some (.slice A'3 n'3 c'3) := xg4_2.cell 2
  obtain ⟨lxg4_2_0, lxg4_2_1, lxg4_2_2, lxg4_2_3⟩ := lts0 xg4_2.lt
  have cxg5_2_0 : w2.cell? ⟨g5_2, 0, none⟩ = some (.bool b4) := xg5_2.cell 0
  have cxg5_2_1 : w2.cell? ⟨g5_2, 1, none⟩ = some (.slice A4 n4 c4) := xg5_2.cell 1
  have cxg5_2_2 : w2.cell? ⟨g5_2, 2, none⟩ = some (.slice A'4 n'4 c'4) := xg5_2.cell 2
  obtain ⟨lxg5_2_0, lxg5_2_1, lxg5_2_2, lxg5_2_3⟩ := lts0 xg5_2.lt
  go_wp2_with fail
  (with_reducible refine (f_add _ b3 A3 n3 c3 A'3 n'3 c'3 (((1 : Int) : Rat)) (1) ?_ b4 A4 n4 c4 A'4 n'4 c'4 (((t).t) * ((t).t)) ((k) + (k)) ?_ ?_ ?_ ?_ ?_).mono ?_); (exact h3.qz); (exact h4.qz); (first | omega | decide | assumption); (first | omega | decide | assumption); (first | omega | decide | assumption); (first | omega | decide | assumption); rintro e w6 ⟨b6, A6, n6, c6, A'6, n'6, c'6, rfl, h6, hb6⟩
  clear cxg4_2_0 cxg4_2_1 cxg4_2_2 lxg4_2_0 lxg4_2_1 lxg4_2_2 lxg4_2_3 cxg5_2_0 cxg5_2_1 cxg5_2_2 lxg5_2_0 lxg5_2_1 lxg5_2_2 lxg5_2_3
  have q6 : Below w2.heap.size w2 w6 := hb6
  replace h := h.belw q6
  replace h3 := h3.belw q6
  replace h4 := h4.belw q6
  replace z2_0 := z2_0.below q6 z2_0.lt
  replace z2_1 := z2_1.below q6 z2_1.lt
  replace z2_2 := z2_2.below q6 z2_2.lt
  replace xg4_2 := xg4_2.below q6 xg4_2.lt
  replace xg5_2 := xg5_2.below q6 xg5_2.lt
  have bw6 : Below w.heap.size w w6 := bw2.trans (q6.mono bw2.size)
  have lw6 : w2.heap.size ≤ w6.heap.size := q6.size
  clear hb6 q6 bw2
  go_wp2_with fail
  have p7 : Kp w6 (w6.alloc (.cells #[.bool b6, .slice A6 n6 c6, .slice A'6 n'6 c'6] 24)) := ((Kp.refl w6).alloc (.cells #[.bool b6, .slice A6 n6 c6, .slice A'6 n'6 c'6] 24))
  have bw7 : Below w.heap.size w (w6.alloc (.cells #[.bool b6, .slice A6 n6 c6, .slice A'6 n'6 c'6] 24)) := (bw6.alloc (by first | omega | (simp <;> omega)) (.cells #[.bool b6, .slice A6 n6 c6, .slice A'6 n'6 c'6] 24))
  have x7_0 : Blk (w6.alloc (.cells #[.bool b6, .slice A6 n6 c6, .slice A'6 n'6 c'6] 24)) (w6.heap.size) 24 #[.bool b6, .slice A6 n6 c6, .slice A'6 n'6 c'6] := (blkAt _ _ _ (by simp))
  replace z2_0 : Blk (w6.alloc (.cells #[.bool b6, .slice A6 n6 c6, .slice A'6 n'6 c'6] 24)) (w.heap.size) 26 #[.bool b, .slice A n c, .slice D m e, .bool false] := (z2_0.alloc (.cells #[.bool b6, .slice A6 n6 c6, .slice A'6 n'6 c'6] 24))
  replace z2_1 : Blk (w6.alloc (.cells #[.bool b6, .slice A6 n6 c6, .slice A'6 n'6 c'6] 24)) (w.heap.size + 1) 24 #[.bool false, .slice none 0 0, .slice none 0 0] := (z2_1.alloc (.cells #[.bool b6, .slice A6 n6 c6, .slice A'6 n'6 c'6] 24))
  replace z2_2 : Blk (w6.alloc (.cells #[.bool b6, .slice A6 n6 c6, .slice A'6 n'6 c'6] 24)) (w.heap.size + 1 + 1) 24 #[.bool false, .slice none 0 0, .slice none 0 0] := (z2_2.alloc (.cells #[.bool b6, .slice A6 n6 c6, .slice A'6 n'6 c'6] 24))
  replace xg4_2 : Blk (w6.alloc (.cells #[.bool b6, .slice A6 n6 c6, .slice A'6 n'6 c'6] 24)) (g4_2) 24 #[.bool b3, .slice A3 n3 c3, .slice A'3 n'3 c'3] := (xg4_2.alloc (.cells #[.bool b6, .slice A6 n6 c6, .slice A'6 n'6 c'6] 24))
  replace xg5_2 : Blk (w6.alloc (.cells #[.bool b6, .slice A6 n6 c6, .slice A'6 n'6 c'6] 24)) (g5_2) 24 #[.bool b4, .slice A4 n4 c4, .slice A'4 n'4 c'4] := (xg5_2.alloc (.cells #[.bool b6, .slice A6 n6 c6, .slice A'6 n'6 c'6] 24))
  have lw7 : w6.heap.size + 1 ≤ (w6.alloc (.cells #[.bool b6, .slice A6 n6 c6, .slice A'6 n'6 c'6] 24)).heap.size := by simp
  generalize hE7 : (w6.alloc (.cells #[.bool b6, .slice A6 n6 c6, .slice A'6 n'6 c'6] 24)) = w7 at p7 bw7 lw7 x7_0 z2_0 z2_1 z2_2 xg4_2 xg5_2 ⊢
  clear hE7
  replace h := h.keep p7
  replace h3 := h3.keep p7
  replace h4 := h4.keep p7
  replace h6 := h6.keep p7
  clear bw6
  have cz2_0_0 : w7.cell? ⟨w.heap.size, 0, none⟩ = some (.bool b) := z2_0.cell 0
  have cz2_0_1 : w7.cell? ⟨w.heap.size, 1, none⟩ = some (.slice A n c) := z2_0.cell 1
  have cz2_0_2 : w7.cell? ⟨w.heap.size, 2, none⟩ = some (.slice D m e) := z2_0.cell 2
  have cz2_0_3 : w7.cell? ⟨w.heap.size, 3, none⟩ = some (.bool false) := z2_0.cell 3
  obtain ⟨lz2_0_0, lz2_0_1, lz2_0_2, lz2_0_3⟩ := lts0 z2_0.lt
  obtain ⟨cxg4_2_0, cxg4_2_1, cxg4_2_2⟩ := xg4_2.c3
  obtain ⟨lxg4_2_0, lxg4_2_1, lxg4_2_2, lxg4_2_3⟩ := lts0 xg4_2.lt
  obtain ⟨cxg5_2_0, cxg5_2_1, cxg5_2_2⟩ := xg5_2.c3
  obtain ⟨lxg5_2_0, lxg5_2_1, lxg5_2_2, lxg5_2_3⟩ := lts0 xg5_2.lt
  obtain ⟨cx7_0_0, cx7_0_1, cx7_0_2⟩ := x7_0.c3
  obtain ⟨lx7_0_0, lx7_0_1, lx7_0_2, lx7_0_3⟩ := lts0 x7_0.lt
  refine wp_region_lin (B := w.heap.size) (fr := fun xf => ⟨#[.agg #[.bool b, .slice A n c, .slice D m e, .bool false], .pointer (some ⟨w.heap.size, 0, none⟩), .pointer (some ⟨w.heap.size + 1, 0, none⟩), .pointer (some ⟨w.heap.size + 1 + 1, 0, none⟩), .pointer (some ⟨g4_2, 0, none⟩), .pointer (some ⟨g5_2, 0, none⟩), .pointer (some ⟨w6.heap.size, 0, none⟩), .pointer (some ⟨w.heap.size, 3, none⟩), .bool false, undef, undef, y2 0, y2 1, y2 2, y2 3, y2 4, y2 5, .agg #[.bool b3, .slice A3 n3 c3, .slice A'3 n'3 c'3], .agg #[.bool b4, .slice A4 n4 c4, .slice A'4 n'4 c'4], .agg #[.bool b6, .slice A6 n6 c6, .slice A'6 n'6 c'6], xf 0, xf 1, xf 2, xf 3, xf 4, xf 5, xf 6, xf 7, xf 8, xf 9, xf 10, xf 11], []⟩) (R := fun i => List.getD [PEq (.agg #[.bool b3, .slice A3 n3 c3, .slice A'3 n'3 c'3]), PEq (.agg #[.bool b4, .slice A4 n4 c4, .slice A'4 n'4 c'4]), VQ ((((1 : Int) : Rat)) - (((t).t) * ((t).t))) ((1) + ((k) + (k)) + 1), PEq (.agg #[.bool b6, .slice A6 n6 c6, .slice A'6 n'6 c'6]), VQ (((((1 : Int) : Rat)) - (((t).t) * ((t).t))) / ((((1 : Int) : Rat)) + (((t).t) * ((t).t)))) (((1) + ((k) + (k)) + 1) + ((1) + ((k) + (k)) + 1)), PEq (.pointer (some ⟨w.heap.size, 0, none⟩)), PEq (.agg #[.bool b, .slice A n c, .slice D m e]), PEq (.pointer (some ⟨w.heap.size, 0, none⟩)), PEq (.agg #[.bool b, .slice A n c, .slice D m e]), VQ (((t).t) + ((t).t)) ((k) + (k) + 1), PEq (.agg #[.bool b6, .slice A6 n6 c6, .slice A'6 n'6 c'6]), VQ ((((t).t) + ((t).t)) / ((((1 : Int) : Rat)) + (((t).t) * ((t).t)))) (((k) + (k) + 1) + ((1) + ((k) + (k)) + 1)), PAny, PAny] i (fun _ _ => True)) (es := []) (ow := [⟨w.heap.size, 14, 0, 26, #[.bool b, .slice A n c, .slice D m e, .bool false], CAny⟩, ⟨w.heap.size + 1, 12, 0, 24, #[.bool false, .slice none 0 0, .slice none 0 0], CQ (((((1 : Int) : Rat)) - (((t).t) * ((t).t))) / ((((1 : Int) : Rat)) + (((t).t) * ((t).t)))) (((1) + ((k) + (k)) + 1) + ((1) + ((k) + (k)) + 1))⟩, ⟨w.heap.size + 1 + 1, 13, 0, 24, #[.bool false, .slice none 0 0, .slice none 0 0], CQ ((((t).t) + ((t).t)) / ((((1 : Int) : Rat)) + (((t).t) * ((t).t)))) (((k) + (k) + 1) + ((1) + ((k) + (k)) + 1))⟩, ⟨g4_2, 14, 0, 24, #[.bool b3, .slice A3 n3 c3, .slice A'3 n'3 c'3], CAny⟩, ⟨g5_2, 14, 0, 24, #[.bool b4, .slice A4 n4 c4, .slice A'4 n'4 c'4], CAny⟩, ⟨w6.heap.size, 14, 0, 24, #[.bool b6, .slice A6 n6 c6, .slice A'6 n'6 c'6], CAny⟩]) (x0 := fun _ => undef) (by kernel_rfl)
    (each_of ⟨fun _ _ => rfl, fun _ _ => rfl, fun _ _ => rfl, fun _ _ => rfl, fun _ _ => rfl, fun _ _ => rfl, fun _ _ => rfl, fun _ _ => rfl, fun _ _ => rfl, fun _ _ => rfl, fun _ _ => rfl, fun _ _ => rfl, fun _ _ => rfl, fun _ _ => rfl, trivial⟩) (each_of (acyc_from _ 0 (by kernel_rfl))) (AllStab.get _ ⟨stEq _, stEq _, stQ _ _, stEq _, stQ _ _, stEq _, stEq _, stEq _, stEq _, stQ _ _, stEq _, stQ _ _, stAny, stAny, trivial⟩)
    (fun _ h => nomatch h) (List.forall_mem_cons.2 ⟨scAny, List.forall_mem_cons.2 ⟨scQ _ _, List.forall_mem_cons.2 ⟨scQ _ _, List.forall_mem_cons.2 ⟨scAny, List.forall_mem_cons.2 ⟨scAny, List.forall_mem_cons.2 ⟨scAny, fun _ h => nomatch h⟩⟩⟩⟩⟩⟩) (fun _ h => nomatch h) bw7.size
    (List.forall_mem_cons.2 ⟨⟨z2_0, by show w.heap.size ≤ w.heap.size; omega⟩, List.forall_mem_cons.2 ⟨⟨z2_1, by show w.heap.size ≤ w.heap.size + 1; omega⟩, List.forall_mem_cons.2 ⟨⟨z2_2, by show w.heap.size ≤ w.heap.size + 1 + 1; omega⟩, List.forall_mem_cons.2 ⟨⟨xg4_2, by show w.heap.size ≤ g4_2; omega⟩, List.forall_mem_cons.2 ⟨⟨xg5_2, by show w.heap.size ≤ g5_2; omega⟩, List.forall_mem_cons.2 ⟨⟨x7_0, by show w.heap.size ≤ w6.heap.size; omega⟩, fun _ h => nomatch h⟩⟩⟩⟩⟩⟩) (ownDist (by simp <;> omega))
    (each_of ⟨?_, ?_, ?_, ?_, ?_, ?_, ?_, ?_, ?_, ?_, ?_, ?_, ?_, ?_, trivial⟩) ?_
  · exact .inl ⟨by simp, by simp, fun xf wq hk hbl hd K hK => by
      have y : Blk wq (g4_2) 24 #[.bool b3, .slice A3 n3 c3, .slice A'3 n'3 c'3] := hbl _ (List.Mem.tail _ (List.Mem.tail _ (List.Mem.tail _ (List.Mem.head _)))) (by simp [Region.binds])
      obtain ⟨c0, c1, c2⟩ := y.c3
      (try dsimp only)
      go_simp
      exact hK.out (.agg #[.bool b3, .slice A3 n3 c3, .slice A'3 n'3 c'3]) _ rfl (brefl _)⟩
  · exact .inl ⟨by simp, by simp, fun xf wq hk hbl hd K hK => by
      have y : Blk wq (g5_2) 24 #[.bool b4, .slice A4 n4 c4, .slice A'4 n'4 c'4] := hbl _ (List.Mem.tail _ (List.Mem.tail _ (List.Mem.tail _ (List.Mem.tail _ (List.Mem.head _))))) (by simp [Region.binds])
      obtain ⟨c0, c1, c2⟩ := y.c3
      (try dsimp only)
      go_simp
      exact hK.out (.agg #[.bool b4, .slice A4 n4 c4, .slice A'4 n'4 c'4]) _ rfl (brefl _)⟩
  · exact .inl ⟨by simp, by simp, fun xf wq hk hbl hd K hK => by
      have d0 : xf 0 = .agg #[.bool b3, .slice A3 n3 c3, .slice A'3 n'3 c'3] := hd ⟨0, .data⟩ (by simp) rfl
      have d1 : xf 1 = .agg #[.bool b4, .slice A4 n4 c4, .slice A'4 n'4 c'4] := hd ⟨1, .data⟩ (by simp) rfl
      (try dsimp only); (try simp only [d0, d1])
      go_simp
      go_at_call 85
      (with_reducible refine (f_sub _ b3 A3 n3 c3 A'3 n'3 c'3 (((1 : Int) : Rat)) (1) ?_ b4 A4 n4 c4 A'4 n'4 c'4 (((t).t) * ((t).t)) ((k) + (k)) ?_ ?_ ?_ ?_ ?_).mono ?_); (exact (h3.keep hk).qz); (exact (h4.keep hk).qz); (first | omega | decide | assumption); (first | omega | decide | assumption); (first | omega | decide | assumption); (first | omega | decide | assumption); rintro e wr ⟨b9, A9, n9, c9, A'9, n'9, c'9, rfl, h9, hbr⟩
      have hz := hK.out _ _ ⟨b9, A9, n9, c9, A'9, n'9, c'9, rfl, h9⟩ hbr
      simp only [d0, d1] at hz
      exact hz⟩
  · exact .inl ⟨by simp, by simp, fun xf wq hk hbl hd K hK => by
      have y : Blk wq (w6.heap.size) 24 #[.bool b6, .slice A6 n6 c6, .slice A'6 n'6 c'6] := hbl _ (List.Mem.tail _ (List.Mem.tail _ (List.Mem.tail _ (List.Mem.tail _ (List.Mem.tail _ (List.Mem.head _)))))) (by simp [Region.binds])
      obtain ⟨c0, c1, c2⟩ := y.c3
      (try dsimp only)
      go_simp
      exact hK.out (.agg #[.bool b6, .slice A6 n6 c6, .slice A'6 n'6 c'6]) _ rfl (brefl _)⟩
  · exact .inl ⟨by simp, by simp, fun xf wq hk hbl hd K hK => by
      obtain ⟨b9, A9, n9, c9, A'9, n'9, c'9, d2, h9⟩ : VQ ((((1 : Int) : Rat)) - (((t).t) * ((t).t))) ((1) + ((k) + (k)) + 1) (xf 2) wq := hd ⟨2, .data⟩ (by simp) rfl
      have d3 : xf 3 = .agg #[.bool b6, .slice A6 n6 c6, .slice A'6 n'6 c'6] := hd ⟨3, .data⟩ (by simp) rfl
      (try dsimp only); (try simp only [d2, d3])
      go_simp
      go_at_call 84
      (with_reducible refine (t_over _ b9 A9 n9 c9 A'9 n'9 c'9 ((((1 : Int) : Rat)) - (((t).t) * ((t).t))) ((1) + ((k) + (k)) + 1) ?_ b6 A6 n6 c6 A'6 n'6 c'6 ((((1 : Int) : Rat)) + (((t).t) * ((t).t))) ((1) + ((k) + (k)) + 1) ?_ ?_ ?_ ?_ ?_ ?_).mono ?_); (exact h9.qz); (exact (h6.keep hk).qz); (first | omega | decide | assumption); (first | omega | decide | assumption); (first | omega | decide | assumption); (first | omega | decide | assumption); (exact HNE.out); rintro e wr ⟨b10, A10, n10, c10, A'10, n'10, c'10, rfl, h10, hbr⟩
      have hz := hK.out _ _ ⟨b10, A10, n10, c10, A'10, n'10, c'10, rfl, h10⟩ hbr
      simp only [d2, d3] at hz
      exact hz⟩
  · exact .inl ⟨by simp, by simp, fun xf wq hk hbl hd K hK => by
      (try dsimp only)
      go_simp
      exact hK.out (.pointer (some ⟨w.heap.size, 0, none⟩)) _ rfl (brefl _)⟩
  · exact .inl ⟨by simp, by simp, fun xf wq hk hbl hd K hK => by
      have d5 : xf 5 = .pointer (some ⟨w.heap.size, 0, none⟩) := hd ⟨5, .data⟩ (by simp) rfl
      have y : Blk wq (w.heap.size) 26 #[.bool b, .slice A n c, .slice D m e, .bool false] := hbl _ (List.Mem.head _) (by simp [Region.binds])
      obtain ⟨c0, c1, c2, c3⟩ := y.c4
      (try dsimp only); (try simp only [d5])
      go_simp
      have hz := hK.out (.agg #[.bool b, .slice A n c, .slice D m e]) _ rfl (brefl _)
      simp only [d5] at hz
      exact hz⟩
  · exact .inl ⟨by simp, by simp, fun xf wq hk hbl hd K hK => by
      (try dsimp only)
      go_simp
      exact hK.out (.pointer (some ⟨w.heap.size, 0, none⟩)) _ rfl (brefl _)⟩
  · exact .inl ⟨by simp, by simp, fun xf wq hk hbl hd K hK => by
      have d7 : xf 7 = .pointer (some ⟨w.heap.size, 0, none⟩) := hd ⟨7, .data⟩ (by simp) rfl
      have y : Blk wq (w.heap.size) 26 #[.bool b, .slice A n c, .slice D m e, .bool false] := hbl _ (List.Mem.head _) (by simp [Region.binds])
      obtain ⟨c0, c1, c2, c3⟩ := y.c4
      (try dsimp only); (try simp only [d7])
      go_simp
      have hz := hK.out (.agg #[.bool b, .slice A n c, .slice D m e]) _ rfl (brefl _)
      simp only [d7] at hz
      exact hz⟩
  · exact .inl ⟨by simp, by simp, fun xf wq hk hbl hd K hK => by
      have d6 : xf 6 = .agg #[.bool b, .slice A n c, .slice D m e] := hd ⟨6, .data⟩ (by simp) rfl
      have d8 : xf 8 = .agg #[.bool b, .slice A n c, .slice D m e] := hd ⟨8, .data⟩ (by simp) rfl
      (try dsimp only); (try simp only [d6, d8])
      go_simp
      go_at_call 83
      (with_reducible refine (f_add _ b A n c D m e ((t).t) (k) ?_ b A n c D m e ((t).t) (k) ?_ ?_ ?_ ?_ ?_).mono ?_); (exact (h.keep hk).qz); (exact (h.keep hk).qz); (first | omega | decide | assumption); (first | omega | decide | assumption); (first | omega | decide | assumption); (first | omega | decide | assumption); rintro e wr ⟨b11, A11, n11, c11, A'11, n'11, c'11, rfl, h11, hbr⟩
      have hz := hK.out _ _ ⟨b11, A11, n11, c11, A'11, n'11, c'11, rfl, h11⟩ hbr
      simp only [d6, d8] at hz
      exact hz⟩
  · exact .inl ⟨by simp, by simp, fun xf wq hk hbl hd K hK => by
      have y : Blk wq (w6.heap.size) 24 #[.bool b6, .slice A6 n6 c6, .slice A'6 n'6 c'6] := hbl _ (List.Mem.tail _ (List.Mem.tail _ (List.Mem.tail _ (List.Mem.tail _ (List.Mem.tail _ (List.Mem.head _)))))) (by simp [Region.binds])
      obtain ⟨c0, c1, c2⟩ := y.c3
      (try dsimp only)
      go_simp
      exact hK.out (.agg #[.bool b6, .slice A6 n6 c6, .slice A'6 n'6 c'6]) _ rfl (brefl _)⟩
  · exact .inl ⟨by simp, by simp, fun xf wq hk hbl hd K hK => by
      obtain ⟨b11, A11, n11, c11, A'11, n'11, c'11, d9, h11⟩ : VQ (((t).t) + ((t).t)) ((k) + (k) + 1) (xf 9) wq := hd ⟨9, .data⟩ (by simp) rfl
      have d10 : xf 10 = .agg #[.bool b6, .slice A6 n6 c6, .slice A'6 n'6 c'6] := hd ⟨10, .data⟩ (by simp) rfl
      (try dsimp only); (try simp only [d9, d10])
      go_simp
      go_at_call 84
      (with_reducible refine (t_over _ b11 A11 n11 c11 A'11 n'11 c'11 (((t).t) + ((t).t)) ((k) + (k) + 1) ?_ b6 A6 n6 c6 A'6 n'6 c'6 ((((1 : Int) : Rat)) + (((t).t) * ((t).t))) ((1) + ((k) + (k)) + 1) ?_ ?_ ?_ ?_ ?_ ?_).mono ?_); (exact h11.qz); (exact (h6.keep hk).qz); (first | omega | decide | assumption); (first | omega | decide | assumption); (first | omega | decide | assumption); (first | omega | decide | assumption); (exact HNE.out); rintro e wr ⟨b12, A12, n12, c12, A'12, n'12, c'12, rfl, h12, hbr⟩
      have hz := hK.out _ _ ⟨b12, A12, n12, c12, A'12, n'12, c'12, rfl, h12⟩ hbr
      simp only [d9, d10] at hz
      exact hz⟩
  · exact .inr (.inr (.inr ⟨⟨w.heap.size + 1, 12, 0, 24, #[.bool false, .slice none 0 0, .slice none 0 0], CQ (((((1 : Int) : Rat)) - (((t).t) * ((t).t))) / ((((1 : Int) : Rat)) + (((t).t) * ((t).t)))) (((1) + ((k) + (k)) + 1) + ((1) + ((k) + (k)) + 1))⟩, by simp, rfl, by simp, by simp, (show KT 24 = false by decide), fun _ _ => True.intro, fun xf wq hblk hd => by
      obtain ⟨b10, A10, n10, c10, A'10, n'10, c'10, d4, h10⟩ : VQ (((((1 : Int) : Rat)) - (((t).t) * ((t).t))) / ((((1 : Int) : Rat)) + (((t).t) * ((t).t)))) (((1) + ((k) + (k)) + 1) + ((1) + ((k) + (k)) + 1)) (xf 4) wq := hd ⟨4, .data⟩ (by simp) rfl
      dsimp only at hblk
      refine ⟨[.bool b10, .slice A10 n10 c10, .slice A'10 n'10 c'10], fun w' hk => ⟨b10, A10, n10, c10, A'10, n'10, c'10, rfl, h10.keep hk⟩, fun K hK => ?_⟩
      have hc0 : wq.cell? ⟨w.heap.size + 1, 0, none⟩ = some (.bool false) := hblk.cell 0
      have hc1 : wq.cell? ⟨w.heap.size + 1, 1, none⟩ = some (.slice none 0 0) := hblk.cell 1
      have hc2 : wq.cell? ⟨w.heap.size + 1, 2, none⟩ = some (.slice none 0 0) := hblk.cell 2
      have hf0 : wq.frozen? ⟨w.heap.size + 1, 0, none⟩ = false := hblk.frozen 0
      have hf1 : wq.frozen? ⟨w.heap.size + 1, 1, none⟩ = false := hblk.frozen 1
      have hf2 : wq.frozen? ⟨w.heap.size + 1, 2, none⟩ = false := hblk.frozen 2
      (try dsimp only)
      simp only [d4]
      go_simp
      have hz := hK.out undef
      simp only [d4] at hz
      exact hz⟩))
  · exact .inr (.inr (.inr ⟨⟨w.heap.size + 1 + 1, 13, 0, 24, #[.bool false, .slice none 0 0, .slice none 0 0], CQ ((((t).t) + ((t).t)) / ((((1 : Int) : Rat)) + (((t).t) * ((t).t)))) (((k) + (k) + 1) + ((1) + ((k) + (k)) + 1))⟩, by simp, rfl, by simp, by simp, (show KT 24 = false by decide), fun _ _ => True.intro, fun xf wq hblk hd => by
      obtain ⟨b12, A12, n12, c12, A'12, n'12, c'12, d11, h12⟩ : VQ ((((t).t) + ((t).t)) / ((((1 : Int) : Rat)) + (((t).t) * ((t).t)))) (((k) + (k) + 1) + ((1) + ((k) + (k)) + 1)) (xf 11) wq := hd ⟨11, .data⟩ (by simp) rfl
      dsimp only at hblk
      refine ⟨[.bool b12, .slice A12 n12 c12, .slice A'12 n'12 c'12], fun w' hk => ⟨b12, A12, n12, c12, A'12, n'12, c'12, rfl, h12.keep hk⟩, fun K hK => ?_⟩
      have hc0 : wq.cell? ⟨w.heap.size + 1 + 1, 0, none⟩ = some (.bool false) := hblk.cell 0
      have hc1 : wq.cell? ⟨w.heap.size + 1 + 1, 1, none⟩ = some (.slice none 0 0) := hblk.cell 1
      have hc2 : wq.cell? ⟨w.heap.size + 1 + 1, 2, none⟩ = some (.slice none 0 0) := hblk.cell 2
      have hf0 : wq.frozen? ⟨w.heap.size + 1 + 1, 0, none⟩ = false := hblk.frozen 0
      have hf1 : wq.frozen? ⟨w.heap.size + 1 + 1, 1, none⟩ = false := hblk.frozen 1
      have hf2 : wq.frozen? ⟨w.heap.size + 1 + 1, 2, none⟩ = false := hblk.frozen 2
      (try dsimp only)
      simp only [d11]
      go_simp
      have hz := hK.out undef
      simp only [d11] at hz
      exact hz⟩))
  clear cz2_0_0 cz2_0_1 cz2_0_2 cz2_0_3 lz2_0_0 lz2_0_1 lz2_0_2 lz2_0_3 cxg4_2_0 cxg4_2_1 cxg4_2_2 lxg4_2_0 lxg4_2_1 lxg4_2_2 lxg4_2_3 cxg5_2_0 cxg5_2_1 cxg5_2_2 lxg5_2_0 lxg5_2_1 lxg5_2_2 lxg5_2_3 cx7_0_0 cx7_0_1 cx7_0_2 lx7_0_0 lx7_0_1 lx7_0_2 lx7_0_3
  intro y8 w8 kq8 hbl8 lw8 how hrr hfl hds
  replace h := h.keep kq8
  replace h3 := h3.keep kq8
  replace h4 := h4.keep kq8
  replace h6 := h6.keep kq8
  obtain ⟨_, z8_0, ez, _⟩ := how _ (List.Mem.head _)
  obtain rfl := ez (by simp)
  dsimp only at z8_0
  obtain ⟨_, z8_1, _, ez⟩ := how _ (List.Mem.tail _ (List.Mem.head _))
  obtain ⟨b10, A10, n10, c10, A'10, n'10, c'10, rfl, h10⟩ := ez (by simp)
  dsimp only at z8_1
  obtain ⟨_, z8_2, _, ez⟩ := how _ (List.Mem.tail _ (List.Mem.tail _ (List.Mem.head _)))
  obtain ⟨b12, A12, n12, c12, A'12, n'12, c'12, rfl, h12⟩ := ez (by simp)
  dsimp only at z8_2
  obtain ⟨_, z8_3, ez, _⟩ := how _ (List.Mem.tail _ (List.Mem.tail _ (List.Mem.tail _ (List.Mem.head _))))
  obtain rfl := ez (by simp)
  dsimp only at z8_3
  obtain ⟨_, z8_4, ez, _⟩ := how _ (List.Mem.tail _ (List.Mem.tail _ (List.Mem.tail _ (List.Mem.tail _ (List.Mem.head _)))))
  obtain rfl := ez (by simp)
  dsimp only at z8_4
  obtain ⟨_, z8_5, ez, _⟩ := how _ (List.Mem.tail _ (List.Mem.tail _ (List.Mem.tail _ (List.Mem.tail _ (List.Mem.tail _ (List.Mem.head _))))))
  obtain rfl := ez (by simp)
  dsimp only at z8_5
  (try dsimp only)
  clear hrr hfl how hds 
  clear z2_0 z2_1 z2_2 xg4_2 xg5_2 x7_0
  have bw8 : Below w.heap.size w w8 := bw7.trans hbl8
  clear bw7
  have cz8_1_0 : w8.cell? ⟨w.heap.size + 1, 0, none⟩ = some (.bool b10) := z8_1.cell 0
  have cz8_1_1 : w8.cell? ⟨w.heap.size + 1, 1, none⟩ = some (.slice A10 n10 c10) := z8_1.cell 1
  have cz8_1_2 : w8.cell? ⟨w.heap.size + 1, 2, none⟩ = some (.slice A'10 n'10 c'10) := z8_1.cell 2
  obtain ⟨lz8_1_0, lz8_1_1, lz8_1_2, lz8_1_3⟩ := lts1 z8_1.lt
  have cz8_2_0 : w8.cell? ⟨w.heap.size + 1 + 1, 0, none⟩ = some (.bool b12) := z8_2.cell 0
  have cz8_2_1 : w8.cell? ⟨w.heap.size + 1 + 1, 1, none⟩ = some (.slice A12 n12 c12) := z8_2.cell 1
  have cz8_2_2 : w8.cell? ⟨w.heap.size + 1 + 1, 2, none⟩ = some (.slice A'12 n'12 c'12) := z8_2.cell 2
  obtain ⟨lz8_2_0, lz8_2_1, lz8_2_2, lz8_2_3⟩ := lts2 z8_2.lt
  go_wp2_with fail
  rw [HC.out] at h10
  rw [HS.out] at h12
  refine bodyPost_ret (v := .tuple #[.agg #[.bool b10, .slice A10 n10 c10, .slice A'10 n'10 c'10], .agg #[.bool b12, .slice A12 n12 c12, .slice A'12 n'12 c'12]]) (by simp [results, Tryz.results34, go_sem, *] <;> first | rfl | exact ⟨rfl, rfl⟩) rfl ?_
  have kp := (Kp.refl w8)
  exact ⟨b10, A10, n10, c10, A'10, n'10, c'10, b12, A12, n12, c12, A'12, n'12, c'12, rfl, (h10.keep kp).mono (by omega), (h12.keep kp).mono (by omega), bw8⟩
set_option maxRecDepth 100000 in
set_option maxHeartbeats 4000000 in
/-- turn.direction -/
theorem t_direction_true (w : World) (b : Bool) (A : Option Addr) (n c : Nat) (D : Option Addr) (m e : Nat) (t : TN) (k : Nat) (h : TK w b A n c D m e true t k) (h0 : 0 < k) (hk : k ≤ 1000000) :
    Calls Tryz.prog 34 #[.agg #[.bool b, .slice A n c, .slice D m e, .bool true]] w (RetQQ w (tcos t) (tsin t) (4 * k + 4)) := by
  have HC := Lib.hid (show ((-1 : Int) : Rat) = tcos t by unfold tcos; rw [if_pos h.2.1.symm]; rfl)
  have HS := Lib.hid (show 0 = tsin t by unfold tsin; rw [if_pos h.2.1.symm])
  go_enter Tryz.func34, Tryz.ntmps34
  go_wp2_with fail
  (with_reducible refine (f_of _ ((-1)) ?_ ?_).mono ?_); (first | omega | decide | assumption); (first | omega | decide | assumption); rintro e w1 ⟨b1, A1, n1, c1, A'1, n'1, c'1, rfl, h1, hb1⟩
  have q1 : Below w.heap.size w w1 := ((((Below.refl _ _).alloc (Nat.le_refl _) _).alloc (by simp) _).alloc (by simp <;> omega) _).trans (hb1.mono (by simp <;> omega))
  replace h := h.belw q1
  have x1_0 : Blk w1 (w.heap.size) 26 #[.bool b, .slice A n c, .slice D m e, .bool true] := (((blkAt _ _ _ (by simp)).alloc _).alloc _).below hb1 (by simp <;> omega)
  have x1_1 : Blk w1 (w.heap.size + 1) 24 #[.bool false, .slice none 0 0, .slice none 0 0] := ((blkAt _ _ _ (by simp)).alloc _).below hb1 (by simp <;> omega)
  have x1_2 : Blk w1 (w.heap.size + 1 + 1) 24 #[.bool false, .slice none 0 0, .slice none 0 0] := (blkAt _ _ _ (by simp)).below hb1 (by simp)
  have bw1 : Below w.heap.size w w1 := (brefl w).trans (q1.mono (brefl w).size)
  have lw1 : w.heap.size + 3 ≤ w1.heap.size := by have := hb1.size; simp at this; omega
  clear hb1 q1
  obtain ⟨cx1_1_0, cx1_1_1, cx1_1_2⟩ := x1_1.c3
  obtain ⟨fx1_1_0, fx1_1_1, fx1_1_2⟩ := x1_1.f3
  obtain ⟨lx1_1_0, lx1_1_1, lx1_1_2, lx1_1_3⟩ := lts1 x1_1.lt
  obtain ⟨cx1_2_0, cx1_2_1, cx1_2_2⟩ := x1_2.c3
  obtain ⟨fx1_2_0, fx1_2_1, fx1_2_2⟩ := x1_2.f3
  obtain ⟨lx1_2_0, lx1_2_1, lx1_2_2, lx1_2_3⟩ := lts2 x1_2.lt
  go_wp2_with fail
  rw [HC.out] at h1
  rw [← HS.out]
  refine bodyPost_ret (v := .tuple #[.agg #[.bool b1, .slice A1 n1 c1, .slice A'1 n'1 c'1], .agg #[.bool false, .slice none 0 0, .slice none 0 0]]) (by simp [results, Tryz.results34, go_sem, *] <;> first | rfl | exact ⟨rfl, rfl⟩) rfl ?_
  have kp := (((((((Kp.refl w1).setB (p := ⟨w.heap.size + 1, 0, none⟩) x1_1.box (by decide) (.bool b1)).setB (p := ⟨w.heap.size + 1, 1, none⟩) (x1_1.box.set ⟨w.heap.size + 1, 0, none⟩ (.bool b1)) (by decide) (.slice A1 n1 c1)).setB (p := ⟨w.heap.size + 1, 2, none⟩) ((x1_1.box.set ⟨w.heap.size + 1, 0, none⟩ (.bool b1)).set ⟨w.heap.size + 1, 1, none⟩ (.slice A1 n1 c1)) (by decide) (.slice A'1 n'1 c'1)).setB (p := ⟨w.heap.size + 1 + 1, 0, none⟩) (((x1_2.box.set ⟨w.heap.size + 1, 0, none⟩ (.bool b1)).set ⟨w.heap.size + 1, 1, none⟩ (.slice A1 n1 c1)).set ⟨w.heap.size + 1, 2, none⟩ (.slice A'1 n'1 c'1)) (by decide) (.bool false)).setB (p := ⟨w.heap.size + 1 + 1, 1, none⟩) ((((x1_2.box.set ⟨w.heap.size + 1, 0, none⟩ (.bool b1)).set ⟨w.heap.size + 1, 1, none⟩ (.slice A1 n1 c1)).set ⟨w.heap.size + 1, 2, none⟩ (.slice A'1 n'1 c'1)).set ⟨w.heap.size + 1 + 1, 0, none⟩ (.bool false)) (by decide) (.slice none 0 0)).setB (p := ⟨w.heap.size + 1 + 1, 2, none⟩) (((((x1_2.box.set ⟨w.heap.size + 1, 0, none⟩ (.bool b1)).set ⟨w.heap.size + 1, 1, none⟩ (.slice A1 n1 c1)).set ⟨w.heap.size + 1, 2, none⟩ (.slice A'1 n'1 c'1)).set ⟨w.heap.size + 1 + 1, 0, none⟩ (.bool false)).set ⟨w.heap.size + 1 + 1, 1, none⟩ (.slice none 0 0)) (by decide) (.slice none 0 0))
  exact ⟨b1, A1, n1, c1, A'1, n'1, c'1, false, none, 0, 0, none, 0, 0, rfl, (h1.keep kp).mono (by omega), QV.zero _ _, ((((((bw1.setCell (p := ⟨w.heap.size + 1, 0, none⟩) (by dsimp only; omega) (.bool b1)).setCell (p := ⟨w.heap.size + 1, 1, none⟩) (by dsimp only; omega) (.slice A1 n1 c1)).setCell (p := ⟨w.heap.size + 1, 2, none⟩) (by dsimp only; omega) (.slice A'1 n'1 c'1)).setCell (p := ⟨w.heap.size + 1 + 1, 0, none⟩) (by dsimp only; omega) (.bool false)).setCell (p := ⟨w.heap.size + 1 + 1, 1, none⟩) (by dsimp only; omega) (.slice none 0 0)).setCell (p := ⟨w.heap.size + 1 + 1, 2, none⟩) (by dsimp only; omega) (.slice none 0 0))⟩
theorem t_direction (w : World) (b : Bool) (A : Option Addr) (n c : Nat) (D : Option Addr) (m e : Nat) (x : Bool) (t : TN) (k : Nat) (h : TK w b A n c D m e x t k) (h0 : 0 < k) (hk : k ≤ 1000000) : Calls Tryz.prog 34 #[.agg #[.bool b, .slice A n c, .slice D m e, .bool x]] w (RetQQ w (tcos t) (tsin t) (4 * k + 4)) := by
  cases x
  · exact t_direction_false w b A n c D m e t k h h0 hk
  · exact t_direction_true w b A n c D m e t k h h0 hk
set_option maxRecDepth 100000 in
set_option maxHeartbeats 2000000 in
/-- turn.Cos -/
theorem t_cos (w : World) (b : Bool) (A : Option Addr) (n c : Nat) (D : Option Addr) (m e : Nat) (x : Bool) (t : TN) (k : Nat) (h : TK w b A n c D m e x t k) (h0 : 0 < k) (hk : k ≤ 1000000) :
    Calls Tryz.prog 8 #[.agg #[.bool b, .slice A n c, .slice D m e, .bool x]] w (RetFe w .nilIface (tcos t) (4 * k + 4)) := by
  go_enter Tryz.func8, Tryz.ntmps8
  go_wp2_with fail
  (with_reducible refine (t_check _ b A n c D m e x (t) (k) ?_ ?_ ?_).mono ?_); (exact (h.belw (((Below.refl _ _).alloc (Nat.le_refl _) _).alloc (by simp) _))); (first | omega | decide | assumption); (first | omega | decide | assumption); rintro e w1 ⟨rfl, hb1⟩
  have q1 : Below w.heap.size w w1 := (((Below.refl _ _).alloc (Nat.le_refl _) _).alloc (by simp) _).trans (hb1.mono (by simp <;> omega))
  replace h := h.belw q1
  have x1_0 : Blk w1 (w.heap.size) 26 #[.bool b, .slice A n c, .slice D m e, .bool x] := ((blkAt _ _ _ (by simp)).alloc _).below hb1 (by simp <;> omega)
  have x1_1 : Blk w1 (w.heap.size + 1) 24 #[.bool false, .slice none 0 0, .slice none 0 0] := (blkAt _ _ _ (by simp)).below hb1 (by simp)
  have bw1 : Below w.heap.size w w1 := (brefl w).trans (q1.mono (brefl w).size)
  have lw1 : w.heap.size + 2 ≤ w1.heap.size := by have := hb1.size; simp at this; omega
  clear hb1 q1
  obtain ⟨cx1_0_0, cx1_0_1, cx1_0_2, cx1_0_3⟩ := x1_0.c4
  obtain ⟨lx1_0_0, lx1_0_1, lx1_0_2, lx1_0_3⟩ := lts0 x1_0.lt
  go_wp2_with fail
  (with_reducible refine (t_direction _ b A n c D m e x (t) (k) ?_ ?_ ?_).mono ?_); (exact h); (first | omega | decide | assumption); (first | omega | decide | assumption); rintro e w2 ⟨b2, A2, n2, c2, A'2, n'2, c'2, d2, D2, m2, e2, D'2, m'2, e'2, rfl, h2, h'2, hb2⟩
  clear cx1_0_0 cx1_0_1 cx1_0_2 cx1_0_3 lx1_0_0 lx1_0_1 lx1_0_2 lx1_0_3
  have q2 : Below w1.heap.size w1 w2 := hb2
  replace h := h.belw q2
  replace x1_0 := x1_0.below q2 x1_0.lt
  replace x1_1 := x1_1.below q2 x1_1.lt
  have bw2 : Below w.heap.size w w2 := bw1.trans (q2.mono bw1.size)
  have lw2 : w1.heap.size ≤ w2.heap.size := q2.size
  clear hb2 q2 bw1
  obtain ⟨cx1_1_0, cx1_1_1, cx1_1_2⟩ := x1_1.c3
  obtain ⟨fx1_1_0, fx1_1_1, fx1_1_2⟩ := x1_1.f3
  obtain ⟨lx1_1_0, lx1_1_1, lx1_1_2, lx1_1_3⟩ := lts1 x1_1.lt
  go_wp2_with fail
  refine bodyPost_ret (v := .tuple #[.agg #[.bool b2, .slice A2 n2 c2, .slice A'2 n'2 c'2], .nilIface]) (by simp [results, Tryz.results8, go_sem, *] <;> first | rfl | exact ⟨rfl, rfl⟩) rfl ?_
  exact ⟨b2, A2, n2, c2, A'2, n'2, c'2, rfl, h2.keep ((((((Kp.refl w2).setB (p := ⟨w.heap.size + 1, 0, none⟩) x1_1.box (by decide) (.bool b2)).setB (p := ⟨w.heap.size + 1, 1, none⟩) (x1_1.box.set ⟨w.heap.size + 1, 0, none⟩ (.bool b2)) (by decide) (.slice A2 n2 c2)).setB (p := ⟨w.heap.size + 1, 2, none⟩) ((x1_1.box.set ⟨w.heap.size + 1, 0, none⟩ (.bool b2)).set ⟨w.heap.size + 1, 1, none⟩ (.slice A2 n2 c2)) (by decide) (.slice A'2 n'2 c'2)).alloc (.cells #[.bool b2, .slice A2 n2 c2, .slice A'2 n'2 c'2] 24)).alloc (.cells #[.bool d2, .slice D2 m2 e2, .slice D'2 m'2 e'2] 24)), (((((bw2.setCell (p := ⟨w.heap.size + 1, 0, none⟩) (by dsimp only; omega) (.bool b2)).setCell (p := ⟨w.heap.size + 1, 1, none⟩) (by dsimp only; omega) (.slice A2 n2 c2)).setCell (p := ⟨w.heap.size + 1, 2, none⟩) (by dsimp only; omega) (.slice A'2 n'2 c'2)).alloc (by first | omega | (simp <;> omega)) (.cells #[.bool b2, .slice A2 n2 c2, .slice A'2 n'2 c'2] 24)).alloc (by first | omega | (simp <;> omega)) (.cells #[.bool d2, .slice D2 m2 e2, .slice D'2 m'2 e'2] 24))⟩
set_option maxRecDepth 100000 in
set_option maxHeartbeats 2000000 in
/-- turn.Sin -/
theorem t_sin (w : World) (b : Bool) (A : Option Addr) (n c : Nat) (D : Option Addr) (m e : Nat) (x : Bool) (t : TN) (k : Nat) (h : TK w b A n c D m e x t k) (h0 : 0 < k) (hk : k ≤ 1000000) :
    Calls Tryz.prog 9 #[.agg #[.bool b, .slice A n c, .slice D m e, .bool x]] w (RetFe w .nilIface (tsin t) (4 * k + 4)) := by
  go_enter Tryz.func9, Tryz.ntmps9
  go_wp2_with fail
  (with_reducible refine (t_check _ b A n c D m e x (t) (k) ?_ ?_ ?_).mono ?_); (exact (h.belw (((Below.refl _ _).alloc (Nat.le_refl _) _).alloc (by simp) _))); (first | omega | decide | assumption); (first | omega | decide | assumption); rintro e w1 ⟨rfl, hb1⟩
  have q1 : Below w.heap.size w w1 := (((Below.refl _ _).alloc (Nat.le_refl _) _).alloc (by simp) _).trans (hb1.mono (by simp <;> omega))
  replace h := h.belw q1
  have x1_0 : Blk w1 (w.heap.size) 26 #[.bool b, .slice A n c, .slice D m e, .bool x] := ((blkAt _ _ _ (by simp)).alloc _).below hb1 (by simp <;> omega)
  have x1_1 : Blk w1 (w.heap.size + 1) 24 #[.bool false, .slice none 0 0, .slice none 0 0] := (blkAt _ _ _ (by simp)).below hb1 (by simp)
  have bw1 : Below w.heap.size w w1 := (brefl w).trans (q1.mono (brefl w).size)
  have lw1 : w.heap.size + 2 ≤ w1.heap.size := by have := hb1.size; simp at this; omega
  clear hb1 q1
  obtain ⟨cx1_0_0, cx1_0_1, cx1_0_2, cx1_0_3⟩ := x1_0.c4
  obtain ⟨lx1_0_0, lx1_0_1, lx1_0_2, lx1_0_3⟩ := lts0 x1_0.lt
  go_wp2_with fail
  (with_reducible refine (t_direction _ b A n c D m e x (t) (k) ?_ ?_ ?_).mono ?_); (exact h); (first | omega | decide | assumption); (first | omega | decide | assumption); rintro e w2 ⟨b2, A2, n2, c2, A'2, n'2, c'2, d2, D2, m2, e2, D'2, m'2, e'2, rfl, h2, h'2, hb2⟩
  clear cx1_0_0 cx1_0_1 cx1_0_2 cx1_0_3 lx1_0_0 lx1_0_1 lx1_0_2 lx1_0_3
  have q2 : Below w1.heap.size w1 w2 := hb2
  replace h := h.belw q2
  replace x1_0 := x1_0.below q2 x1_0.lt
  replace x1_1 := x1_1.below q2 x1_1.lt
  have bw2 : Below w.heap.size w w2 := bw1.trans (q2.mono bw1.size)
  have lw2 : w1.heap.size ≤ w2.heap.size := q2.size
  clear hb2 q2 bw1
  obtain ⟨cx1_1_0, cx1_1_1, cx1_1_2⟩ := x1_1.c3
  obtain ⟨fx1_1_0, fx1_1_1, fx1_1_2⟩ := x1_1.f3
  obtain ⟨lx1_1_0, lx1_1_1, lx1_1_2, lx1_1_3⟩ := lts1 x1_1.lt
  go_wp2_with fail
  refine bodyPost_ret (v := .tuple #[.agg #[.bool d2, .slice D2 m2 e2, .slice D'2 m'2 e'2], .nilIface]) (by simp [results, Tryz.results9, go_sem, *] <;> first | rfl | exact ⟨rfl, rfl⟩) rfl ?_
  exact ⟨d2, D2, m2, e2, D'2, m'2, e'2, rfl, h'2.keep ((((((Kp.refl w2).setB (p := ⟨w.heap.size + 1, 0, none⟩) x1_1.box (by decide) (.bool d2)).setB (p := ⟨w.heap.size + 1, 1, none⟩) (x1_1.box.set ⟨w.heap.size + 1, 0, none⟩ (.bool d2)) (by decide) (.slice D2 m2 e2)).setB (p := ⟨w.heap.size + 1, 2, none⟩) ((x1_1.box.set ⟨w.heap.size + 1, 0, none⟩ (.bool d2)).set ⟨w.heap.size + 1, 1, none⟩ (.slice D2 m2 e2)) (by decide) (.slice D'2 m'2 e'2)).alloc (.cells #[.bool b2, .slice A2 n2 c2, .slice A'2 n'2 c'2] 24)).alloc (.cells #[.bool d2, .slice D2 m2 e2, .slice D'2 m'2 e'2] 24)), (((((bw2.setCell (p := ⟨w.heap.size + 1, 0, none⟩) (by dsimp only; omega) (.bool d2)).setCell (p := ⟨w.heap.size + 1, 1, none⟩) (by dsimp only; omega) (.slice D2 m2 e2)).setCell (p := ⟨w.heap.size + 1, 2, none⟩) (by dsimp only; omega) (.slice D'2 m'2 e'2)).alloc (by first | omega | (simp <;> omega)) (.cells #[.bool b2, .slice A2 n2 c2, .slice A'2 n'2 c'2] 24)).alloc (by first | omega | (simp <;> omega)) (.cells #[.bool d2, .slice D2 m2 e2, .slice D'2 m'2 e'2] 24))⟩
end Go.Proofs.YtpnnfbodphflpaaGreatDoor

/- Walks: sums of turns. -/
namespace Go.Proofs.YtpnnfbodphflpaaGreatDoor
open Go Go.RowKit Bn
attribute [local go_sem ↓] Go.wp_at_zero Go.wp_at_succ
theorem QK.qv {w : World} {b : Bool} {A D : Option Addr} {n c m e k : Nat} {q : Rat} (h : QK w b A n c D m e q k) : QV w b A n c D m e q k := by
  obtain ⟨a, h1, rfl, h2⟩ := h
  unfold QV; rw [rd_of_ok h1.2.1.1 h1.2.2.1.1 h2]; exact h1
theorem TK.tv {w : World} {b x : Bool} {A D : Option Addr} {n c m e k : Nat} {t : TN} (h : TK w b A n c D m e x t k) : TV w b A n c D m e x t k := ⟨h.1.qv, h.2⟩
theorem tv_zero (w : World) (k : Nat) : TV w false none 0 0 none 0 0 false tzero k := ⟨QV.zero _ _, rfl, tzero_ok⟩
theorem tv_mk {w : World} {b : Bool} {A D : Option Addr} {n c m e k : Nat} {q : Rat} (h : QV w b A n c D m e q k) : TV w b A n c D m e false ⟨q, false⟩ k := ⟨h, rfl, fun h => nomatch h⟩
theorem sgn_ne {q : Rat} {s : Int} (hs : q.num.sign = s) (h : q ≠ 0) : ((s : Int) == 0) = false := by
  simp; rintro rfl; exact h (Rat.num_eq_zero.1 (Int.sign_eq_zero_iff_zero.1 hs))
theorem sgn_eq {q : Rat} (h : q = 0) : q.num.sign = 0 := by rw [h]; rfl
set_option maxRecDepth 100000 in
set_option maxHeartbeats 4000000 in
/-- turn.add -/
theorem t_add_tt (w : World) (b : Bool) (A : Option Addr) (n c : Nat) (D : Option Addr) (m e : Nat) (t : TN) (k : Nat) (h : TK w b A n c D m e true t k) (b' : Bool) (A' : Option Addr) (n' c' : Nat) (D' : Option Addr) (m' e' : Nat) (t' : TN) (k' : Nat) (h' : TK w b' A' n' c' D' m' e' true t' k') (h0 : 0 < k) (hk : k ≤ 1000000) (h0' : 0 < k') (hk' : k' ≤ 1000000)  :
    Calls Tryz.prog 80 #[.agg #[.bool b, .slice A n c, .slice D m e, .bool true], .agg #[.bool b', .slice A' n' c', .slice D' m' e', .bool true]] w (RetT w (tadd t t') (2 * k + 2 * k' + 3)) := by
  rw [show tadd t t' = tzero by unfold tadd tadd1; simp [← h.2.1, ← h'.2.1]]
  go_enter Tryz.func80, Tryz.ntmps80
  go_wp2_with fail
  refine bodyPost_ret (v := .agg #[.bool false, .slice none 0 0, .slice none 0 0, .bool false]) (by simp [results, Tryz.results80, go_sem, *] <;> first | rfl | exact ⟨rfl, rfl⟩) rfl ?_
  exact ⟨false, none, 0, 0, none, 0, 0, false, rfl, tv_zero _ _, ((((brefl w).alloc (by first | omega | (simp <;> omega)) (.cells #[.bool b, .slice A n c, .slice D m e, .bool true] 26)).alloc (by first | omega | (simp <;> omega)) (.cells #[.bool b', .slice A' n' c', .slice D' m' e', .bool true] 26)).alloc (by first | omega | (simp <;> omega)) (.cells #[.bool false, .slice none 0 0, .slice none 0 0, .bool false] 26))⟩
set_option maxRecDepth 100000 in
set_option maxHeartbeats 4000000 in
/-- turn.add -/
theorem t_add_tf0 (w : World) (b : Bool) (A : Option Addr) (n c : Nat) (D : Option Addr) (m e : Nat) (t : TN) (k : Nat) (h : TK w b A n c D m e true t k) (b' : Bool) (A' : Option Addr) (n' c' : Nat) (D' : Option Addr) (m' e' : Nat) (t' : TN) (k' : Nat) (h' : TK w b' A' n' c' D' m' e' false t' k') (h0 : 0 < k) (hk : k ≤ 1000000) (h0' : 0 < k') (hk' : k' ≤ 1000000) (hz : t'.t = 0) :
    Calls Tryz.prog 80 #[.agg #[.bool b, .slice A n c, .slice D m e, .bool true], .agg #[.bool b', .slice A' n' c', .slice D' m' e', .bool false]] w (RetT w (tadd t t') (2 * k + 2 * k' + 3)) := by
  rw [show tadd t t' = t by rcases t with ⟨q, x⟩; unfold tadd tadd1 thalf; simp only; have h1 := h.2.1; have h2 := h.2.2; have h3 := h'.2.1; simp only at h1; subst h1; simp [← h3, hz]; exact (h2 rfl).symm]
  have HZ := Lib.hid (sgn_eq hz)
  clear hz
  go_enter Tryz.func80, Tryz.ntmps80
  go_wp2_with fail
  (with_reducible refine (f_sign_e _ b' A' n' c' D' m' e' ((t').t) (k') ?_ (0) ?_ ?_ ?_).mono ?_); (exact (h'.belw ((((Below.refl _ _).alloc (Nat.le_refl _) _).alloc (by simp) _).alloc (by simp <;> omega) _)).qz); (exact HZ.out); (first | omega | decide | assumption); (first | omega | decide | assumption); rintro e w1 ⟨rfl, hb1⟩
  have q1 : Below w.heap.size w w1 := ((((Below.refl _ _).alloc (Nat.le_refl _) _).alloc (by simp) _).alloc (by simp <;> omega) _).trans (hb1.mono (by simp <;> omega))
  replace h := h.belw q1
  replace h' := h'.belw q1
  have x1_0 : Blk w1 (w.heap.size) 26 #[.bool b, .slice A n c, .slice D m e, .bool true] := (((blkAt _ _ _ (by simp)).alloc _).alloc _).below hb1 (by simp <;> omega)
  have x1_1 : Blk w1 (w.heap.size + 1) 26 #[.bool b', .slice A' n' c', .slice D' m' e', .bool false] := ((blkAt _ _ _ (by simp)).alloc _).below hb1 (by simp <;> omega)
  have x1_2 : Blk w1 (w.heap.size + 1 + 1) 26 #[.bool false, .slice none 0 0, .slice none 0 0, .bool false] := (blkAt _ _ _ (by simp)).below hb1 (by simp)
  have bw1 : Below w.heap.size w w1 := (brefl w).trans (q1.mono (brefl w).size)
  have lw1 : w.heap.size + 3 ≤ w1.heap.size := by have := hb1.size; simp at this; omega
  clear hb1 q1
  obtain ⟨cx1_0_0, cx1_0_1, cx1_0_2, cx1_0_3⟩ := x1_0.c4
  obtain ⟨lx1_0_0, lx1_0_1, lx1_0_2, lx1_0_3⟩ := lts0 x1_0.lt
  obtain ⟨cx1_2_0, cx1_2_1, cx1_2_2, cx1_2_3⟩ := x1_2.c4
  obtain ⟨fx1_2_0, fx1_2_1, fx1_2_2, fx1_2_3⟩ := x1_2.f4
  obtain ⟨lx1_2_0, lx1_2_1, lx1_2_2, lx1_2_3⟩ := lts2 x1_2.lt
  go_wp2_with fail
  refine bodyPost_ret (v := .agg #[.bool b, .slice A n c, .slice D m e, .bool true]) (by simp [results, Tryz.results80, go_sem, *] <;> first | rfl | exact ⟨rfl, rfl⟩) rfl ?_
  have kp := (((((Kp.refl w1).setB (p := ⟨w.heap.size + 1 + 1, 0, none⟩) x1_2.box (by decide) (.bool b)).setB (p := ⟨w.heap.size + 1 + 1, 1, none⟩) (x1_2.box.set ⟨w.heap.size + 1 + 1, 0, none⟩ (.bool b)) (by decide) (.slice A n c)).setB (p := ⟨w.heap.size + 1 + 1, 2, none⟩) ((x1_2.box.set ⟨w.heap.size + 1 + 1, 0, none⟩ (.bool b)).set ⟨w.heap.size + 1 + 1, 1, none⟩ (.slice A n c)) (by decide) (.slice D m e)).setB (p := ⟨w.heap.size + 1 + 1, 3, none⟩) (((x1_2.box.set ⟨w.heap.size + 1 + 1, 0, none⟩ (.bool b)).set ⟨w.heap.size + 1 + 1, 1, none⟩ (.slice A n c)).set ⟨w.heap.size + 1 + 1, 2, none⟩ (.slice D m e)) (by decide) (.bool true))
  exact ⟨b, A, n, c, D, m, e, true, rfl, (h.tv.keep kp).mono (by omega), ((((bw1.setCell (p := ⟨w.heap.size + 1 + 1, 0, none⟩) (by dsimp only; omega) (.bool b)).setCell (p := ⟨w.heap.size + 1 + 1, 1, none⟩) (by dsimp only; omega) (.slice A n c)).setCell (p := ⟨w.heap.size + 1 + 1, 2, none⟩) (by dsimp only; omega) (.slice D m e)).setCell (p := ⟨w.heap.size + 1 + 1, 3, none⟩) (by dsimp only; omega) (.bool true))⟩
set_option maxRecDepth 100000 in
set_option maxHeartbeats 4000000 in
/-- turn.add -/
theorem t_add_tf1 (w : World) (b : Bool) (A : Option Addr) (n c : Nat) (D : Option Addr) (m e : Nat) (t : TN) (k : Nat) (h : TK w b A n c D m e true t k) (b' : Bool) (A' : Option Addr) (n' c' : Nat) (D' : Option Addr) (m' e' : Nat) (t' : TN) (k' : Nat) (h' : TK w b' A' n' c' D' m' e' false t' k') (h0 : 0 < k) (hk : k ≤ 1000000) (h0' : 0 < k') (hk' : k' ≤ 1000000) (hz : t'.t ≠ 0) :
    Calls Tryz.prog 80 #[.agg #[.bool b, .slice A n c, .slice D m e, .bool true], .agg #[.bool b', .slice A' n' c', .slice D' m' e', .bool false]] w (RetT w (tadd t t') (2 * k + 2 * k' + 3)) := by
  have HT := Lib.hid (show tadd t t' = ⟨((-1 : Int) : Rat) / t'.t, false⟩ by unfold tadd tadd1; simp [← h.2.1, ← h'.2.1, hz])
  obtain ⟨s, hs⟩ : ∃ s, t'.t.num.sign = s := ⟨_, rfl⟩
  have e0 := sgn_ne hs hz
  have HZ := Lib.hid hs
  have HNE := Lib.hid hz
  clear hz hs
  go_enter Tryz.func80, Tryz.ntmps80
  go_wp2_with fail
  (with_reducible refine (f_sign_e _ b' A' n' c' D' m' e' ((t').t) (k') ?_ (s) ?_ ?_ ?_).mono ?_); (exact (h'.belw ((((Below.refl _ _).alloc (Nat.le_refl _) _).alloc (by simp) _).alloc (by simp <;> omega) _)).qz); (exact HZ.out); (first | omega | decide | assumption); (first | omega | decide | assumption); rintro e w1 ⟨rfl, hb1⟩
  have q1 : Below w.heap.size w w1 := ((((Below.refl _ _).alloc (Nat.le_refl _) _).alloc (by simp) _).alloc (by simp <;> omega) _).trans (hb1.mono (by simp <;> omega))
  replace h := h.belw q1
  replace h' := h'.belw q1
  have x1_0 : Blk w1 (w.heap.size) 26 #[.bool b, .slice A n c, .slice D m e, .bool true] := (((blkAt _ _ _ (by simp)).alloc _).alloc _).below hb1 (by simp <;> omega)
  have x1_1 : Blk w1 (w.heap.size + 1) 26 #[.bool b', .slice A' n' c', .slice D' m' e', .bool false] := ((blkAt _ _ _ (by simp)).alloc _).below hb1 (by simp <;> omega)
  have x1_2 : Blk w1 (w.heap.size + 1 + 1) 26 #[.bool false, .slice none 0 0, .slice none 0 0, .bool false] := (blkAt _ _ _ (by simp)).below hb1 (by simp)
  have bw1 : Below w.heap.size w w1 := (brefl w).trans (q1.mono (brefl w).size)
  have lw1 : w.heap.size + 3 ≤ w1.heap.size := by have := hb1.size; simp at this; omega
  clear hb1 q1
  obtain ⟨cx1_0_0, cx1_0_1, cx1_0_2, cx1_0_3⟩ := x1_0.c4
  obtain ⟨lx1_0_0, lx1_0_1, lx1_0_2, lx1_0_3⟩ := lts0 x1_0.lt
  obtain ⟨cx1_1_0, cx1_1_1, cx1_1_2, cx1_1_3⟩ := x1_1.c4
  obtain ⟨lx1_1_0, lx1_1_1, lx1_1_2, lx1_1_3⟩ := lts1 x1_1.lt
  obtain ⟨cx1_2_0, cx1_2_1, cx1_2_2, cx1_2_3⟩ := x1_2.c4
  obtain ⟨fx1_2_0, fx1_2_1, fx1_2_2, fx1_2_3⟩ := x1_2.f4
  obtain ⟨lx1_2_0, lx1_2_1, lx1_2_2, lx1_2_3⟩ := lts2 x1_2.lt
  go_wp2_with fail
  have nfx1_0_0 : ¬ w.heap.size = w.heap.size + 1 + 1 := by omega
  have nex1_0_0 : ¬ w.heap.size = w.heap.size + 2 := by omega
  have nfx1_1_0 : ¬ w.heap.size + 1 = w.heap.size + 1 + 1 := by omega
  have nex1_1_0 : ¬ w.heap.size = w.heap.size + 1 := by omega
  go_region_held3 (fun w' => SeesX w1.heap.size (w.heap.size + 1 + 1) w1 w') (first | with_reducible exact SeesX.of (Nat.le_refl _) (by assumption) | with_reducible exact SeesX.of (Nat.le_refl _) (brefl _).drew | with_reducible exact (SeesX.set (SeesX.set (SeesX.set (SeesX.set (SeesX.of (Nat.le_refl _) (by assumption)))))) | with_reducible exact (SeesX.set (SeesX.set (SeesX.set (SeesX.of (Nat.le_refl _) (by assumption))))) | with_reducible exact (SeesX.set (SeesX.set (SeesX.of (Nat.le_refl _) (by assumption)))) | with_reducible exact (SeesX.set (SeesX.of (Nat.le_refl _) (by assumption))) | exact SeesX.of (Nat.le_refl _) (below_drewN (brefl _) 1) | exact SeesX.of (Nat.le_refl _) (below_drewN (by assumption) _))
    (first
      | (go_at_call 81; (with_reducible refine (f_of _ ((-1)) ?_ ?_).mono ?_); (first | omega | decide | assumption); (first | omega | decide | assumption); rintro e w2 ⟨b2, A2, n2, c2, A'2, n'2, c'2, rfl, h2, hb2⟩; replace hb2 := bnext (below_drewN (brefl _) 1) hb2; have q2 : Below w1.heap.size w1 w2 := bnext (brefl w1) hb2; replace h := h.belw hb2; replace h' := h'.belw hb2)
      | (go_at_call 84; (with_reducible refine (t_over _ b2 A2 n2 c2 A'2 n'2 c'2 ((((-1) : Int) : Rat)) (1) ?_ b' A' n' c' D' m' e' ((t').t) (k') ?_ ?_ ?_ ?_ ?_ ?_).mono ?_); (exact h2.qz); (exact h'.qz); (first | omega | decide | assumption); (first | omega | decide | assumption); (first | omega | decide | assumption); (first | omega | decide | assumption); (exact HNE.out); rintro e w3 ⟨b3, A3, n3, c3, A'3, n'3, c'3, rfl, h3, hb3⟩; have q3 : Below w1.heap.size w1 w3 := bnext q2 hb3; replace h := h.belw hb3; replace h' := h'.belw hb3; replace h2 := h2.belw hb3; have x1_2 : Blk w3 (w.heap.size + 1 + 1) 26 #[.bool false, .slice none 0 0, .slice none 0 0, .bool false] := x1_2.below q3 x1_2.lt; obtain ⟨cx1_2_0, cx1_2_1, cx1_2_2, cx1_2_3⟩ := x1_2.c4; obtain ⟨fx1_2_0, fx1_2_1, fx1_2_2, fx1_2_3⟩ := x1_2.f4))
  have bw3 : Below w.heap.size w w3 := bw1.trans (q3.mono bw1.size)
  clear cx1_0_0 cx1_0_1 cx1_0_2 cx1_0_3 lx1_0_0 lx1_0_1 lx1_0_2 lx1_0_3 cx1_1_0 cx1_1_1 cx1_1_2 cx1_1_3 lx1_1_0 lx1_1_1 lx1_1_2 lx1_1_3 cx1_2_0 fx1_2_0 cx1_2_1 fx1_2_1 cx1_2_2 fx1_2_2 cx1_2_3 fx1_2_3 lx1_2_0 lx1_2_1 lx1_2_2 lx1_2_3
  replace x1_0 := x1_0.below q3 x1_0.lt
  replace x1_1 := x1_1.below q3 x1_1.lt
  have lw3 : w1.heap.size ≤ w3.heap.size := q3.size
  obtain ⟨cx1_2_0, cx1_2_1, cx1_2_2, cx1_2_3⟩ := x1_2.c4
  obtain ⟨fx1_2_0, fx1_2_1, fx1_2_2, fx1_2_3⟩ := x1_2.f4
  go_wp2_with fail
  rw [HT.out]
  refine bodyPost_ret (v := .agg #[.bool b3, .slice A3 n3 c3, .slice A'3 n'3 c'3, .bool false]) (by simp [results, Tryz.results80, go_sem, *] <;> first | rfl | exact ⟨rfl, rfl⟩) rfl ?_
  have kp := (((((Kp.refl w3).setB (p := ⟨w.heap.size + 1 + 1, 0, none⟩) x1_2.box (by decide) (.bool b3)).setB (p := ⟨w.heap.size + 1 + 1, 1, none⟩) (x1_2.box.set ⟨w.heap.size + 1 + 1, 0, none⟩ (.bool b3)) (by decide) (.slice A3 n3 c3)).setB (p := ⟨w.heap.size + 1 + 1, 2, none⟩) ((x1_2.box.set ⟨w.heap.size + 1 + 1, 0, none⟩ (.bool b3)).set ⟨w.heap.size + 1 + 1, 1, none⟩ (.slice A3 n3 c3)) (by decide) (.slice A'3 n'3 c'3)).setB (p := ⟨w.heap.size + 1 + 1, 3, none⟩) (((x1_2.box.set ⟨w.heap.size + 1 + 1, 0, none⟩ (.bool b3)).set ⟨w.heap.size + 1 + 1, 1, none⟩ (.slice A3 n3 c3)).set ⟨w.heap.size + 1 + 1, 2, none⟩ (.slice A'3 n'3 c'3)) (by decide) (.bool false))
  exact ⟨b3, A3, n3, c3, A'3, n'3, c'3, false, rfl, (tv_mk (h3.keep kp)).mono (by omega), ((((bw3.setCell (p := ⟨w.heap.size + 1 + 1, 0, none⟩) (by dsimp only; omega) (.bool b3)).setCell (p := ⟨w.heap.size + 1 + 1, 1, none⟩) (by dsimp only; omega) (.slice A3 n3 c3)).setCell (p := ⟨w.heap.size + 1 + 1, 2, none⟩) (by dsimp only; omega) (.slice A'3 n'3 c'3)).setCell (p := ⟨w.heap.size + 1 + 1, 3, none⟩) (by dsimp only; omega) (.bool false))⟩
theorem t_add_tf (w : World) (b : Bool) (A : Option Addr) (n c : Nat) (D : Option Addr) (m e : Nat) (t : TN) (k : Nat) (h : TK w b A n c D m e true t k) (b' : Bool) (A' : Option Addr) (n' c' : Nat) (D' : Option Addr) (m' e' : Nat) (t' : TN) (k' : Nat) (h' : TK w b' A' n' c' D' m' e' false t' k') (h0 : 0 < k) (hk : k ≤ 1000000) (h0' : 0 < k') (hk' : k' ≤ 1000000) : Calls Tryz.prog 80 #[.agg #[.bool b, .slice A n c, .slice D m e, .bool true], .agg #[.bool b', .slice A' n' c', .slice D' m' e', .bool false]] w (RetT w (tadd t t') (2 * k + 2 * k' + 3)) := by
  by_cases hz : t'.t = 0
  · exact t_add_tf0 w b A n c D m e t k h b' A' n' c' D' m' e' t' k' h' h0 hk h0' hk' hz
  · exact t_add_tf1 w b A n c D m e t k h b' A' n' c' D' m' e' t' k' h' h0 hk h0' hk' hz
set_option maxRecDepth 100000 in
set_option maxHeartbeats 4000000 in
/-- turn.add -/
theorem t_add_ft (w : World) (b : Bool) (A : Option Addr) (n c : Nat) (D : Option Addr) (m e : Nat) (t : TN) (k : Nat) (h : TK w b A n c D m e false t k) (b' : Bool) (A' : Option Addr) (n' c' : Nat) (D' : Option Addr) (m' e' : Nat) (t' : TN) (k' : Nat) (h' : TK w b' A' n' c' D' m' e' true t' k') (h0 : 0 < k) (hk : k ≤ 1000000) (h0' : 0 < k') (hk' : k' ≤ 1000000)  :
    Calls Tryz.prog 80 #[.agg #[.bool b, .slice A n c, .slice D m e, .bool false], .agg #[.bool b', .slice A' n' c', .slice D' m' e', .bool true]] w (RetT w (tadd t t') (2 * k + 2 * k' + 3)) := by
  have HT := Lib.hid (tadd_comm h.2.2 h'.2.2)
  go_enter Tryz.func80, Tryz.ntmps80
  go_wp2_with fail
  (with_reducible refine (t_add_tf _ b' A' n' c' D' m' e' (t') (k') ?_ b A n c D m e (t) (k) ?_ ?_ ?_ ?_ ?_).mono ?_); (exact (h'.belw ((((Below.refl _ _).alloc (Nat.le_refl _) _).alloc (by simp) _).alloc (by simp <;> omega) _))); (exact (h.belw ((((Below.refl _ _).alloc (Nat.le_refl _) _).alloc (by simp) _).alloc (by simp <;> omega) _))); (first | omega | decide | assumption); (first | omega | decide | assumption); (first | omega | decide | assumption); (first | omega | decide | assumption); rintro e w1 ⟨b1, A1, n1, c1, A'1, n'1, c'1, x1, rfl, h1, hb1⟩
  have q1 : Below w.heap.size w w1 := ((((Below.refl _ _).alloc (Nat.le_refl _) _).alloc (by simp) _).alloc (by simp <;> omega) _).trans (hb1.mono (by simp <;> omega))
  replace h := h.belw q1
  replace h' := h'.belw q1
  have x1_0 : Blk w1 (w.heap.size) 26 #[.bool b, .slice A n c, .slice D m e, .bool false] := (((blkAt _ _ _ (by simp)).alloc _).alloc _).below hb1 (by simp <;> omega)
  have x1_1 : Blk w1 (w.heap.size + 1) 26 #[.bool b', .slice A' n' c', .slice D' m' e', .bool true] := ((blkAt _ _ _ (by simp)).alloc _).below hb1 (by simp <;> omega)
  have x1_2 : Blk w1 (w.heap.size + 1 + 1) 26 #[.bool false, .slice none 0 0, .slice none 0 0, .bool false] := (blkAt _ _ _ (by simp)).below hb1 (by simp)
  have bw1 : Below w.heap.size w w1 := (brefl w).trans (q1.mono (brefl w).size)
  have lw1 : w.heap.size + 3 ≤ w1.heap.size := by have := hb1.size; simp at this; omega
  clear hb1 q1
  obtain ⟨cx1_2_0, cx1_2_1, cx1_2_2, cx1_2_3⟩ := x1_2.c4
  obtain ⟨fx1_2_0, fx1_2_1, fx1_2_2, fx1_2_3⟩ := x1_2.f4
  obtain ⟨lx1_2_0, lx1_2_1, lx1_2_2, lx1_2_3⟩ := lts2 x1_2.lt
  go_wp2_with fail
  rw [HT.out]
  refine bodyPost_ret (v := .agg #[.bool b1, .slice A1 n1 c1, .slice A'1 n'1 c'1, .bool x1]) (by simp [results, Tryz.results80, go_sem, *] <;> first | rfl | exact ⟨rfl, rfl⟩) rfl ?_
  have kp := (((((Kp.refl w1).setB (p := ⟨w.heap.size + 1 + 1, 0, none⟩) x1_2.box (by decide) (.bool b1)).setB (p := ⟨w.heap.size + 1 + 1, 1, none⟩) (x1_2.box.set ⟨w.heap.size + 1 + 1, 0, none⟩ (.bool b1)) (by decide) (.slice A1 n1 c1)).setB (p := ⟨w.heap.size + 1 + 1, 2, none⟩) ((x1_2.box.set ⟨w.heap.size + 1 + 1, 0, none⟩ (.bool b1)).set ⟨w.heap.size + 1 + 1, 1, none⟩ (.slice A1 n1 c1)) (by decide) (.slice A'1 n'1 c'1)).setB (p := ⟨w.heap.size + 1 + 1, 3, none⟩) (((x1_2.box.set ⟨w.heap.size + 1 + 1, 0, none⟩ (.bool b1)).set ⟨w.heap.size + 1 + 1, 1, none⟩ (.slice A1 n1 c1)).set ⟨w.heap.size + 1 + 1, 2, none⟩ (.slice A'1 n'1 c'1)) (by decide) (.bool x1))
  exact ⟨b1, A1, n1, c1, A'1, n'1, c'1, x1, rfl, (h1.keep kp).mono (by omega), ((((bw1.setCell (p := ⟨w.heap.size + 1 + 1, 0, none⟩) (by dsimp only; omega) (.bool b1)).setCell (p := ⟨w.heap.size + 1 + 1, 1, none⟩) (by dsimp only; omega) (.slice A1 n1 c1)).setCell (p := ⟨w.heap.size + 1 + 1, 2, none⟩) (by dsimp only; omega) (.slice A'1 n'1 c'1)).setCell (p := ⟨w.heap.size + 1 + 1, 3, none⟩) (by dsimp only; omega) (.bool x1))⟩
set_option maxRecDepth 100000 in
set_option maxHeartbeats 4000000 in
/-- turn.add -/
theorem t_add_ff0 (w : World) (b : Bool) (A : Option Addr) (n c : Nat) (D : Option Addr) (m e : Nat) (t : TN) (k : Nat) (h : TK w b A n c D m e false t k) (b' : Bool) (A' : Option Addr) (n' c' : Nat) (D' : Option Addr) (m' e' : Nat) (t' : TN) (k' : Nat) (h' : TK w b' A' n' c' D' m' e' false t' k') (h0 : 0 < k) (hk : k ≤ 1000000) (h0' : 0 < k') (hk' : k' ≤ 1000000) (hz : ((1 : Int) : Rat) - t.t * t'.t = 0) :
    Calls Tryz.prog 80 #[.agg #[.bool b, .slice A n c, .slice D m e, .bool false], .agg #[.bool b', .slice A' n' c', .slice D' m' e', .bool false]] w (RetT w (tadd t t') (2 * k + 2 * k' + 3)) := by
  rw [show tadd t t' = thalf by unfold tadd tadd1; have hz' : 1 - t.t * t'.t = 0 := hz; simp [← h.2.1, ← h'.2.1, hz']]
  have HZ := Lib.hid (sgn_eq hz)
  clear hz
  go_enter Tryz.func80, Tryz.ntmps80
  go_wp2_with fail
  have p1 : Kp w (((w.alloc (.cells #[.bool b, .slice A n c, .slice D m e, .bool false] 26)).alloc (.cells #[.bool b', .slice A' n' c', .slice D' m' e', .bool false] 26)).alloc (.cells #[.bool false, .slice none 0 0, .slice none 0 0, .bool false] 26)) := ((((Kp.refl w).alloc (.cells #[.bool b, .slice A n c, .slice D m e, .bool false] 26)).alloc (.cells #[.bool b', .slice A' n' c', .slice D' m' e', .bool false] 26)).alloc (.cells #[.bool false, .slice none 0 0, .slice none 0 0, .bool false] 26))
  have bw1 : Below w.heap.size w (((w.alloc (.cells #[.bool b, .slice A n c, .slice D m e, .bool false] 26)).alloc (.cells #[.bool b', .slice A' n' c', .slice D' m' e', .bool false] 26)).alloc (.cells #[.bool false, .slice none 0 0, .slice none 0 0, .bool false] 26)) := ((((brefl w).alloc (by first | omega | (simp <;> omega)) (.cells #[.bool b, .slice A n c, .slice D m e, .bool false] 26)).alloc (by first | omega | (simp <;> omega)) (.cells #[.bool b', .slice A' n' c', .slice D' m' e', .bool false] 26)).alloc (by first | omega | (simp <;> omega)) (.cells #[.bool false, .slice none 0 0, .slice none 0 0, .bool false] 26))
  have x1_0 : Blk (((w.alloc (.cells #[.bool b, .slice A n c, .slice D m e, .bool false] 26)).alloc (.cells #[.bool b', .slice A' n' c', .slice D' m' e', .bool false] 26)).alloc (.cells #[.bool false, .slice none 0 0, .slice none 0 0, .bool false] 26)) (w.heap.size) 26 #[.bool b, .slice A n c, .slice D m e, .bool false] := (((blkAt _ _ _ (by simp)).alloc (.cells #[.bool b', .slice A' n' c', .slice D' m' e', .bool false] 26)).alloc (.cells #[.bool false, .slice none 0 0, .slice none 0 0, .bool false] 26))
  have x1_1 : Blk (((w.alloc (.cells #[.bool b, .slice A n c, .slice D m e, .bool false] 26)).alloc (.cells #[.bool b', .slice A' n' c', .slice D' m' e', .bool false] 26)).alloc (.cells #[.bool false, .slice none 0 0, .slice none 0 0, .bool false] 26)) (w.heap.size + 1) 26 #[.bool b', .slice A' n' c', .slice D' m' e', .bool false] := ((blkAt _ _ _ (by simp)).alloc (.cells #[.bool false, .slice none 0 0, .slice none 0 0, .bool false] 26))
  have x1_2 : Blk (((w.alloc (.cells #[.bool b, .slice A n c, .slice D m e, .bool false] 26)).alloc (.cells #[.bool b', .slice A' n' c', .slice D' m' e', .bool false] 26)).alloc (.cells #[.bool false, .slice none 0 0, .slice none 0 0, .bool false] 26)) (w.heap.size + 1 + 1) 26 #[.bool false, .slice none 0 0, .slice none 0 0, .bool false] := (blkAt _ _ _ (by simp))
  have lw1 : w.heap.size + 3 ≤ (((w.alloc (.cells #[.bool b, .slice A n c, .slice D m e, .bool false] 26)).alloc (.cells #[.bool b', .slice A' n' c', .slice D' m' e', .bool false] 26)).alloc (.cells #[.bool false, .slice none 0 0, .slice none 0 0, .bool false] 26)).heap.size := by simp
  generalize hE1 : (((w.alloc (.cells #[.bool b, .slice A n c, .slice D m e, .bool false] 26)).alloc (.cells #[.bool b', .slice A' n' c', .slice D' m' e', .bool false] 26)).alloc (.cells #[.bool false, .slice none 0 0, .slice none 0 0, .bool false] 26)) = w1 at p1 bw1 lw1 x1_0 x1_1 x1_2 ⊢
  clear hE1
  replace h := h.keep p1
  replace h' := h'.keep p1
  obtain ⟨cx1_0_0, cx1_0_1, cx1_0_2, cx1_0_3⟩ := x1_0.c4
  obtain ⟨lx1_0_0, lx1_0_1, lx1_0_2, lx1_0_3⟩ := lts0 x1_0.lt
  obtain ⟨cx1_1_0, cx1_1_1, cx1_1_2, cx1_1_3⟩ := x1_1.c4
  obtain ⟨lx1_1_0, lx1_1_1, lx1_1_2, lx1_1_3⟩ := lts1 x1_1.lt
  refine wp_region_lin (B := w.heap.size) (fr := fun xf => ⟨#[.agg #[.bool b, .slice A n c, .slice D m e, .bool false], .agg #[.bool b', .slice A' n' c', .slice D' m' e', .bool false], .pointer (some ⟨w.heap.size, 0, none⟩), .pointer (some ⟨w.heap.size + 1, 0, none⟩), .pointer (some ⟨w.heap.size + 1 + 1, 0, none⟩), xf 7, _, .pointer (some ⟨w.heap.size, 3, none⟩), .bool false, .bool false, _, _, _, undef, .bool false, .pointer (some ⟨w.heap.size + 1, 3, none⟩), .bool false, undef, undef, undef, _, .pointer (some ⟨w.heap.size, 3, none⟩), .bool false, .bool false, _, _, _, _, _, undef, .bool false, .pointer (some ⟨w.heap.size, 3, none⟩), .bool false, undef, undef, undef, undef, undef, xf 0, xf 1, xf 2, xf 3, xf 4, xf 5, xf 6, undef, undef, undef, undef, undef, undef, undef, undef, undef, undef, undef, undef], []⟩) (R := fun i => List.getD [VQ (((1 : Int) : Rat)) (1), PEq (.pointer (some ⟨w.heap.size, 0, none⟩)), PEq (.agg #[.bool b, .slice A n c, .slice D m e]), PEq (.pointer (some ⟨w.heap.size + 1, 0, none⟩)), PEq (.agg #[.bool b', .slice A' n' c', .slice D' m' e']), VQ (((t).t) * ((t').t)) ((k) + (k')), VQ ((((1 : Int) : Rat)) - (((t).t) * ((t').t))) ((1) + ((k) + (k')) + 1), PAny, PAny] i (fun _ _ => True)) (es := [⟨7, 8, 24, #[.bool false, .slice none 0 0, .slice none 0 0], CQ ((((1 : Int) : Rat)) - (((t).t) * ((t').t))) ((1) + ((k) + (k')) + 1)⟩]) (ow := [⟨w.heap.size, 9, 0, 26, #[.bool b, .slice A n c, .slice D m e, .bool false], CAny⟩, ⟨w.heap.size + 1, 9, 0, 26, #[.bool b', .slice A' n' c', .slice D' m' e', .bool false], CAny⟩, ⟨w.heap.size + 1 + 1, 9, 0, 26, #[.bool false, .slice none 0 0, .slice none 0 0, .bool false], CAny⟩]) (x0 := fun _ => undef) (by kernel_rfl)
    (each_of ⟨fun _ _ => rfl, fun _ _ => rfl, fun _ _ => rfl, fun _ _ => rfl, fun _ _ => rfl, fun _ _ => rfl, fun _ _ => rfl, fun _ _ => rfl, fun _ _ => rfl, trivial⟩) (each_of (acyc_from _ 0 (by kernel_rfl))) (AllStab.get _ ⟨stQ _ _, stEq _, stEq _, stEq _, stEq _, stQ _ _, stQ _ _, stAny, stAny, trivial⟩)
    (List.forall_mem_cons.2 ⟨scQ _ _, fun _ h => nomatch h⟩) (List.forall_mem_cons.2 ⟨scAny, List.forall_mem_cons.2 ⟨scAny, List.forall_mem_cons.2 ⟨scAny, fun _ h => nomatch h⟩⟩⟩) (List.forall_mem_cons.2 ⟨⟨by simp, by simp⟩, fun _ h => nomatch h⟩) bw1.size
    (List.forall_mem_cons.2 ⟨⟨x1_0, by show w.heap.size ≤ w.heap.size; omega⟩, List.forall_mem_cons.2 ⟨⟨x1_1, by show w.heap.size ≤ w.heap.size + 1; omega⟩, List.forall_mem_cons.2 ⟨⟨x1_2, by show w.heap.size ≤ w.heap.size + 1 + 1; omega⟩, fun _ h => nomatch h⟩⟩⟩) (ownDist (by simp <;> omega))
    (each_of ⟨?_, ?_, ?_, ?_, ?_, ?_, ?_, ?_, ?_, trivial⟩) ?_
  · exact .inl ⟨by simp, by simp, fun xf wq hk hbl hd K hK => by
      (try dsimp only)
      go_simp
      go_at_call 81
      (with_reducible refine (f_of _ (1) ?_ ?_).mono ?_); (first | omega | decide | assumption); (first | omega | decide | assumption); rintro e wr ⟨b3, A3, n3, c3, A'3, n'3, c'3, rfl, h3, hbr⟩
      exact hK.out _ _ ⟨b3, A3, n3, c3, A'3, n'3, c'3, rfl, h3⟩ hbr⟩
  · exact .inl ⟨by simp, by simp, fun xf wq hk hbl hd K hK => by
      (try dsimp only)
      go_simp
      exact hK.out (.pointer (some ⟨w.heap.size, 0, none⟩)) _ rfl (brefl _)⟩
  · exact .inl ⟨by simp, by simp, fun xf wq hk hbl hd K hK => by
      have d1 : xf 1 = .pointer (some ⟨w.heap.size, 0, none⟩) := hd ⟨1, .data⟩ (by simp) rfl
      have y : Blk wq (w.heap.size) 26 #[.bool b, .slice A n c, .slice D m e, .bool false] := hbl _ (List.Mem.head _) (by simp [Region.binds])
      obtain ⟨c0, c1, c2, c3⟩ := y.c4
      (try dsimp only); (try simp only [d1])
      go_simp
      have hz := hK.out (.agg #[.bool b, .slice A n c, .slice D m e]) _ rfl (brefl _)
      simp only [d1] at hz
      exact hz⟩
  · exact .inl ⟨by simp, by simp, fun xf wq hk hbl hd K hK => by
      (try dsimp only)
      go_simp
      exact hK.out (.pointer (some ⟨w.heap.size + 1, 0, none⟩)) _ rfl (brefl _)⟩
  · exact .inl ⟨by simp, by simp, fun xf wq hk hbl hd K hK => by
      have d3 : xf 3 = .pointer (some ⟨w.heap.size + 1, 0, none⟩) := hd ⟨3, .data⟩ (by simp) rfl
      have y : Blk wq (w.heap.size + 1) 26 #[.bool b', .slice A' n' c', .slice D' m' e', .bool false] := hbl _ (List.Mem.tail _ (List.Mem.head _)) (by simp [Region.binds])
      obtain ⟨c0, c1, c2, c3⟩ := y.c4
      (try dsimp only); (try simp only [d3])
      go_simp
      have hz := hK.out (.agg #[.bool b', .slice A' n' c', .slice D' m' e']) _ rfl (brefl _)
      simp only [d3] at hz
      exact hz⟩
  · exact .inl ⟨by simp, by simp, fun xf wq hk hbl hd K hK => by
      have d2 : xf 2 = .agg #[.bool b, .slice A n c, .slice D m e] := hd ⟨2, .data⟩ (by simp) rfl
      have d4 : xf 4 = .agg #[.bool b', .slice A' n' c', .slice D' m' e'] := hd ⟨4, .data⟩ (by simp) rfl
      (try dsimp only); (try simp only [d2, d4])
      go_simp
      go_at_call 82
      (with_reducible refine (f_mul _ b A n c D m e ((t).t) (k) ?_ b' A' n' c' D' m' e' ((t').t) (k') ?_ ?_ ?_ ?_ ?_).mono ?_); (exact (h.keep hk).qz); (exact (h'.keep hk).qz); (first | omega | decide | assumption); (first | omega | decide | assumption); (first | omega | decide | assumption); (first | omega | decide | assumption); rintro e wr ⟨b4, A4, n4, c4, A'4, n'4, c'4, rfl, h4, hbr⟩
      have hz := hK.out _ _ ⟨b4, A4, n4, c4, A'4, n'4, c'4, rfl, h4⟩ hbr
      simp only [d2, d4] at hz
      exact hz⟩
  · exact .inl ⟨by simp, by simp, fun xf wq hk hbl hd K hK => by
      obtain ⟨b3, A3, n3, c3, A'3, n'3, c'3, d0, h3⟩ : VQ (((1 : Int) : Rat)) (1) (xf 0) wq := hd ⟨0, .data⟩ (by simp) rfl
      obtain ⟨b4, A4, n4, c4, A'4, n'4, c'4, d5, h4⟩ : VQ (((t).t) * ((t').t)) ((k) + (k')) (xf 5) wq := hd ⟨5, .data⟩ (by simp) rfl
      (try dsimp only); (try simp only [d0, d5])
      go_simp
      go_at_call 85
      (with_reducible refine (f_sub _ b3 A3 n3 c3 A'3 n'3 c'3 (((1 : Int) : Rat)) (1) ?_ b4 A4 n4 c4 A'4 n'4 c'4 (((t).t) * ((t').t)) ((k) + (k')) ?_ ?_ ?_ ?_ ?_).mono ?_); (exact h3.qz); (exact h4.qz); (first | omega | decide | assumption); (first | omega | decide | assumption); (first | omega | decide | assumption); (first | omega | decide | assumption); rintro e wr ⟨b5, A5, n5, c5, A'5, n'5, c'5, rfl, h5, hbr⟩
      have hz := hK.out _ _ ⟨b5, A5, n5, c5, A'5, n'5, c'5, rfl, h5⟩ hbr
      simp only [d0, d5] at hz
      exact hz⟩
  · exact .inr (.inl ⟨⟨7, 8, 24, #[.bool false, .slice none 0 0, .slice none 0 0], CQ ((((1 : Int) : Rat)) - (((t).t) * ((t').t))) ((1) + ((k) + (k')) + 1)⟩, by simp, rfl, by simp, by simp, by simp, fun _ _ => True.intro, fun xf wq K hK => by
      (try dsimp only)
      go_simp
      exact hK.out⟩)
  · exact .inr (.inr (.inl ⟨⟨7, 8, 24, #[.bool false, .slice none 0 0, .slice none 0 0], CQ ((((1 : Int) : Rat)) - (((t).t) * ((t').t))) ((1) + ((k) + (k')) + 1)⟩, by simp, rfl, by simp, by simp, by simp, by simp, (show KT 24 = false by decide), fun _ _ => True.intro, ⟨⟨7, .data⟩, by simp, rfl, rfl⟩, fun xf wq g hx hblk hd => by
      obtain ⟨b5, A5, n5, c5, A'5, n'5, c'5, d6, h5⟩ : VQ ((((1 : Int) : Rat)) - (((t).t) * ((t').t))) ((1) + ((k) + (k')) + 1) (xf 6) wq := hd ⟨6, .data⟩ (by simp) rfl
      dsimp only at hx hblk
      refine ⟨[.bool b5, .slice A5 n5 c5, .slice A'5 n'5 c'5], fun w' hk => ⟨b5, A5, n5, c5, A'5, n'5, c'5, rfl, h5.keep hk⟩, fun K hK => ?_⟩
      have hc0 : wq.cell? ⟨g, 0, none⟩ = some (.bool false) := hblk.cell 0
      have hc1 : wq.cell? ⟨g, 1, none⟩ = some (.slice none 0 0) := hblk.cell 1
      have hc2 : wq.cell? ⟨g, 2, none⟩ = some (.slice none 0 0) := hblk.cell 2
      have hf0 : wq.frozen? ⟨g, 0, none⟩ = false := hblk.frozen 0
      have hf1 : wq.frozen? ⟨g, 1, none⟩ = false := hblk.frozen 1
      have hf2 : wq.frozen? ⟨g, 2, none⟩ = false := hblk.frozen 2
      (try dsimp only)
      simp only [hx, d6]
      go_simp
      have hz := hK.out undef
      simp only [hx, d6] at hz
      exact hz⟩))
  clear cx1_0_0 cx1_0_1 cx1_0_2 cx1_0_3 lx1_0_0 lx1_0_1 lx1_0_2 lx1_0_3 cx1_1_0 cx1_1_1 cx1_1_2 cx1_1_3 lx1_1_0 lx1_1_1 lx1_1_2 lx1_1_3
  intro y2 w2 kq2 hbl2 lw2 how hrr hfl hds
  replace h := h.keep kq2
  replace h' := h'.keep kq2
  obtain ⟨_, z2_0, ez, _⟩ := how _ (List.Mem.head _)
  obtain rfl := ez (by simp)
  dsimp only at z2_0
  obtain ⟨_, z2_1, ez, _⟩ := how _ (List.Mem.tail _ (List.Mem.head _))
  obtain rfl := ez (by simp)
  dsimp only at z2_1
  obtain ⟨_, z2_2, ez, _⟩ := how _ (List.Mem.tail _ (List.Mem.tail _ (List.Mem.head _)))
  obtain rfl := ez (by simp)
  dsimp only at z2_2
  obtain ⟨g5_2, _, eg5_2, Gg5_2, xg5_2, ⟨b5, A5, n5, c5, A'5, n'5, c'5, rfl, h5⟩⟩ := hfl _ (List.Mem.head _)
  dsimp only at eg5_2 Gg5_2 xg5_2
  have lgg5_2 : g5_2 < w2.heap.size := xg5_2.lt
  (try dsimp only)
  simp only [eg5_2]
  clear hrr hfl how hds eg5_2
  clear x1_0 x1_1 x1_2
  have bw2 : Below w.heap.size w w2 := bw1.trans hbl2
  clear bw1
  obtain ⟨cxg5_2_0, cxg5_2_1, cxg5_2_2⟩ := xg5_2.c3
  obtain ⟨lxg5_2_0, lxg5_2_1, lxg5_2_2, lxg5_2_3⟩ := lts0 xg5_2.lt
  go_wp2_with fail
  (with_reducible refine (f_sign_e _ b5 A5 n5 c5 A'5 n'5 c'5 ((((1 : Int) : Rat)) - (((t).t) * ((t').t))) ((1) + ((k) + (k')) + 1) ?_ (0) ?_ ?_ ?_).mono ?_); (exact h5.qz); (exact HZ.out); (first | omega | decide | assumption); (first | omega | decide | assumption); rintro e w7 ⟨rfl, hb7⟩
  clear cxg5_2_0 cxg5_2_1 cxg5_2_2 lxg5_2_0 lxg5_2_1 lxg5_2_2 lxg5_2_3
  have q7 : Below w2.heap.size w2 w7 := hb7
  replace h := h.belw q7
  replace h' := h'.belw q7
  replace h5 := h5.belw q7
  replace z2_0 := z2_0.below q7 z2_0.lt
  replace z2_1 := z2_1.below q7 z2_1.lt
  replace z2_2 := z2_2.below q7 z2_2.lt
  replace xg5_2 := xg5_2.below q7 xg5_2.lt
  have bw7 : Below w.heap.size w w7 := bw2.trans (q7.mono bw2.size)
  have lw7 : w2.heap.size ≤ w7.heap.size := q7.size
  clear hb7 q7 bw2
  go_wp2_with fail
  (with_reducible refine (t_half _).mono ?_); rintro e w8 ⟨b8, A8, n8, c8, A'8, n'8, c'8, x8, rfl, h8, hb8⟩
  have q8 : Below w7.heap.size w7 w8 := hb8
  replace h := h.belw q8
  replace h' := h'.belw q8
  replace h5 := h5.belw q8
  replace z2_0 := z2_0.below q8 z2_0.lt
  replace z2_1 := z2_1.below q8 z2_1.lt
  replace z2_2 := z2_2.below q8 z2_2.lt
  replace xg5_2 := xg5_2.below q8 xg5_2.lt
  have bw8 : Below w.heap.size w w8 := bw7.trans (q8.mono bw7.size)
  have lw8 : w7.heap.size ≤ w8.heap.size := q8.size
  clear hb8 q8 bw7
  obtain ⟨cz2_2_0, cz2_2_1, cz2_2_2, cz2_2_3⟩ := z2_2.c4
  obtain ⟨fz2_2_0, fz2_2_1, fz2_2_2, fz2_2_3⟩ := z2_2.f4
  obtain ⟨lz2_2_0, lz2_2_1, lz2_2_2, lz2_2_3⟩ := lts2 z2_2.lt
  go_wp2_with fail
  refine bodyPost_ret (v := .agg #[.bool b8, .slice A8 n8 c8, .slice A'8 n'8 c'8, .bool x8]) (by simp [results, Tryz.results80, go_sem, *] <;> first | rfl | exact ⟨rfl, rfl⟩) rfl ?_
  have kp := (((((Kp.refl w8).setB (p := ⟨w.heap.size + 1 + 1, 0, none⟩) z2_2.box (by decide) (.bool b8)).setB (p := ⟨w.heap.size + 1 + 1, 1, none⟩) (z2_2.box.set ⟨w.heap.size + 1 + 1, 0, none⟩ (.bool b8)) (by decide) (.slice A8 n8 c8)).setB (p := ⟨w.heap.size + 1 + 1, 2, none⟩) ((z2_2.box.set ⟨w.heap.size + 1 + 1, 0, none⟩ (.bool b8)).set ⟨w.heap.size + 1 + 1, 1, none⟩ (.slice A8 n8 c8)) (by decide) (.slice A'8 n'8 c'8)).setB (p := ⟨w.heap.size + 1 + 1, 3, none⟩) (((z2_2.box.set ⟨w.heap.size + 1 + 1, 0, none⟩ (.bool b8)).set ⟨w.heap.size + 1 + 1, 1, none⟩ (.slice A8 n8 c8)).set ⟨w.heap.size + 1 + 1, 2, none⟩ (.slice A'8 n'8 c'8)) (by decide) (.bool x8))
  exact ⟨b8, A8, n8, c8, A'8, n'8, c'8, x8, rfl, (h8.keep kp).mono (by omega), ((((bw8.setCell (p := ⟨w.heap.size + 1 + 1, 0, none⟩) (by dsimp only; omega) (.bool b8)).setCell (p := ⟨w.heap.size + 1 + 1, 1, none⟩) (by dsimp only; omega) (.slice A8 n8 c8)).setCell (p := ⟨w.heap.size + 1 + 1, 2, none⟩) (by dsimp only; omega) (.slice A'8 n'8 c'8)).setCell (p := ⟨w.heap.size + 1 + 1, 3, none⟩) (by dsimp only; omega) (.bool x8))⟩
set_option maxRecDepth 100000 in
set_option maxHeartbeats 4000000 in
/-- turn.add -/
theorem t_add_ff1 (w : World) (b : Bool) (A : Option Addr) (n c : Nat) (D : Option Addr) (m e : Nat) (t : TN) (k : Nat) (h : TK w b A n c D m e false t k) (b' : Bool) (A' : Option Addr) (n' c' : Nat) (D' : Option Addr) (m' e' : Nat) (t' : TN) (k' : Nat) (h' : TK w b' A' n' c' D' m' e' false t' k') (h0 : 0 < k) (hk : k ≤ 1000000) (h0' : 0 < k') (hk' : k' ≤ 1000000) (hz : ((1 : Int) : Rat) - t.t * t'.t ≠ 0) :
    Calls Tryz.prog 80 #[.agg #[.bool b, .slice A n c, .slice D m e, .bool false], .agg #[.bool b', .slice A' n' c', .slice D' m' e', .bool false]] w (RetT w (tadd t t') (2 * k + 2 * k' + 3)) := by
  have HT := Lib.hid (show tadd t t' = ⟨(t.t + t'.t) / (((1 : Int) : Rat) - t.t * t'.t), false⟩ by unfold tadd tadd1; have hz' : ¬ (1 - t.t * t'.t = 0) := hz; simp [← h.2.1, ← h'.2.1, hz'])
  obtain ⟨s, hs⟩ : ∃ s, (((1 : Int) : Rat) - t.t * t'.t).num.sign = s := ⟨_, rfl⟩
  have e0 := sgn_ne hs hz
  have HZ := Lib.hid hs
  have HNE := Lib.hid hz
  clear hz hs
  go_enter Tryz.func80, Tryz.ntmps80
  go_wp2_with fail
  have p1 : Kp w (((w.alloc (.cells #[.bool b, .slice A n c, .slice D m e, .bool false] 26)).alloc (.cells #[.bool b', .slice A' n' c', .slice D' m' e', .bool false] 26)).alloc (.cells #[.bool false, .slice none 0 0, .slice none 0 0, .bool false] 26)) := ((((Kp.refl w).alloc (.cells #[.bool b, .slice A n c, .slice D m e, .bool false] 26)).alloc (.cells #[.bool b', .slice A' n' c', .slice D' m' e', .bool false] 26)).alloc (.cells #[.bool false, .slice none 0 0, .slice none 0 0, .bool false] 26))
  have bw1 : Below w.heap.size w (((w.alloc (.cells #[.bool b, .slice A n c, .slice D m e, .bool false] 26)).alloc (.cells #[.bool b', .slice A' n' c', .slice D' m' e', .bool false] 26)).alloc (.cells #[.bool false, .slice none 0 0, .slice none 0 0, .bool false] 26)) := ((((brefl w).alloc (by first | omega | (simp <;> omega)) (.cells #[.bool b, .slice A n c, .slice D m e, .bool false] 26)).alloc (by first | omega | (simp <;> omega)) (.cells #[.bool b', .slice A' n' c', .slice D' m' e', .bool false] 26)).alloc (by first | omega | (simp <;> omega)) (.cells #[.bool false, .slice none 0 0, .slice none 0 0, .bool false] 26))
  have x1_0 : Blk (((w.alloc (.cells #[.bool b, .slice A n c, .slice D m e, .bool false] 26)).alloc (.cells #[.bool b', .slice A' n' c', .slice D' m' e', .bool false] 26)).alloc (.cells #[.bool false, .slice none 0 0, .slice none 0 0, .bool false] 26)) (w.heap.size) 26 #[.bool b, .slice A n c, .slice D m e, .bool false] := (((blkAt _ _ _ (by simp)).alloc (.cells #[.bool b', .slice A' n' c', .slice D' m' e', .bool false] 26)).alloc (.cells #[.bool false, .slice none 0 0, .slice none 0 0, .bool false] 26))
  have x1_1 : Blk (((w.alloc (.cells #[.bool b, .slice A n c, .slice D m e, .bool false] 26)).alloc (.cells #[.bool b', .slice A' n' c', .slice D' m' e', .bool false] 26)).alloc (.cells #[.bool false, .slice none 0 0, .slice none 0 0, .bool false] 26)) (w.heap.size + 1) 26 #[.bool b', .slice A' n' c', .slice D' m' e', .bool false] := ((blkAt _ _ _ (by simp)).alloc (.cells #[.bool false, .slice none 0 0, .slice none 0 0, .bool false] 26))
  have x1_2 : Blk (((w.alloc (.cells #[.bool b, .slice A n c, .slice D m e, .bool false] 26)).alloc (.cells #[.bool b', .slice A' n' c', .slice D' m' e', .bool false] 26)).alloc (.cells #[.bool false, .slice none 0 0, .slice none 0 0, .bool false] 26)) (w.heap.size + 1 + 1) 26 #[.bool false, .slice none 0 0, .slice none 0 0, .bool false] := (blkAt _ _ _ (by simp))
  have lw1 : w.heap.size + 3 ≤ (((w.alloc (.cells #[.bool b, .slice A n c, .slice D m e, .bool false] 26)).alloc (.cells #[.bool b', .slice A' n' c', .slice D' m' e', .bool false] 26)).alloc (.cells #[.bool false, .slice none 0 0, .slice none 0 0, .bool false] 26)).heap.size := by simp
  generalize hE1 : (((w.alloc (.cells #[.bool b, .slice A n c, .slice D m e, .bool false] 26)).alloc (.cells #[.bool b', .slice A' n' c', .slice D' m' e', .bool false] 26)).alloc (.cells #[.bool false, .slice none 0 0, .slice none 0 0, .bool false] 26)) = w1 at p1 bw1 lw1 x1_0 x1_1 x1_2 ⊢
  clear hE1
  replace h := h.keep p1
  replace h' := h'.keep p1
  obtain ⟨cx1_0_0, cx1_0_1, cx1_0_2, cx1_0_3⟩ := x1_0.c4
  obtain ⟨lx1_0_0, lx1_0_1, lx1_0_2, lx1_0_3⟩ := lts0 x1_0.lt
  obtain ⟨cx1_1_0, cx1_1_1, cx1_1_2, cx1_1_3⟩ := x1_1.c4
  obtain ⟨lx1_1_0, lx1_1_1, lx1_1_2, lx1_1_3⟩ := lts1 x1_1.lt
  refine wp_region_lin (B := w.heap.size) (fr := fun xf => ⟨#[.agg #[.bool b, .slice A n c, .slice D m e, .bool false], .agg #[.bool b', .slice A' n' c', .slice D' m' e', .bool false], .pointer (some ⟨w.heap.size, 0, none⟩), .pointer (some ⟨w.heap.size + 1, 0, none⟩), .pointer (some ⟨w.heap.size + 1 + 1, 0, none⟩), xf 7, _, .pointer (some ⟨w.heap.size, 3, none⟩), .bool false, .bool false, _, _, _, undef, .bool false, .pointer (some ⟨w.heap.size + 1, 3, none⟩), .bool false, undef, undef, undef, _, .pointer (some ⟨w.heap.size, 3, none⟩), .bool false, .bool false, _, _, _, _, _, undef, .bool false, .pointer (some ⟨w.heap.size, 3, none⟩), .bool false, undef, undef, undef, undef, undef, xf 0, xf 1, xf 2, xf 3, xf 4, xf 5, xf 6, undef, undef, undef, undef, undef, undef, undef, undef, undef, undef, undef, undef], []⟩) (R := fun i => List.getD [VQ (((1 : Int) : Rat)) (1), PEq (.pointer (some ⟨w.heap.size, 0, none⟩)), PEq (.agg #[.bool b, .slice A n c, .slice D m e]), PEq (.pointer (some ⟨w.heap.size + 1, 0, none⟩)), PEq (.agg #[.bool b', .slice A' n' c', .slice D' m' e']), VQ (((t).t) * ((t').t)) ((k) + (k')), VQ ((((1 : Int) : Rat)) - (((t).t) * ((t').t))) ((1) + ((k) + (k')) + 1), PAny, PAny] i (fun _ _ => True)) (es := [⟨7, 8, 24, #[.bool false, .slice none 0 0, .slice none 0 0], CQ ((((1 : Int) : Rat)) - (((t).t) * ((t').t))) ((1) + ((k) + (k')) + 1)⟩]) (ow := [⟨w.heap.size, 9, 0, 26, #[.bool b, .slice A n c, .slice D m e, .bool false], CAny⟩, ⟨w.heap.size + 1, 9, 0, 26, #[.bool b', .slice A' n' c', .slice D' m' e', .bool false], CAny⟩, ⟨w.heap.size + 1 + 1, 9, 0, 26, #[.bool false, .slice none 0 0, .slice none 0 0, .bool false], CAny⟩]) (x0 := fun _ => undef) (by kernel_rfl)
    (each_of ⟨fun _ _ => rfl, fun _ _ => rfl, fun _ _ => rfl, fun _ _ => rfl, fun _ _ => rfl, fun _ _ => rfl, fun _ _ => rfl, fun _ _ => rfl, fun _ _ => rfl, trivial⟩) (each_of (acyc_from _ 0 (by kernel_rfl))) (AllStab.get _ ⟨stQ _ _, stEq _, stEq _, stEq _, stEq _, stQ _ _, stQ _ _, stAny, stAny, trivial⟩)
    (List.forall_mem_cons.2 ⟨scQ _ _, fun _ h => nomatch h⟩) (List.forall_mem_cons.2 ⟨scAny, List.forall_mem_cons.2 ⟨scAny, List.forall_mem_cons.2 ⟨scAny, fun _ h => nomatch h⟩⟩⟩) (List.forall_mem_cons.2 ⟨⟨by simp, by simp⟩, fun _ h => nomatch h⟩) bw1.size
    (List.forall_mem_cons.2 ⟨⟨x1_0, by show w.heap.size ≤ w.heap.size; omega⟩, List.forall_mem_cons.2 ⟨⟨x1_1, by show w.heap.size ≤ w.heap.size + 1; omega⟩, List.forall_mem_cons.2 ⟨⟨x1_2, by show w.heap.size ≤ w.heap.size + 1 + 1; omega⟩, fun _ h => nomatch h⟩⟩⟩) (ownDist (by simp <;> omega))
    (each_of ⟨?_, ?_, ?_, ?_, ?_, ?_, ?_, ?_, ?_, trivial⟩) ?_
  · exact .inl ⟨by simp, by simp, fun xf wq hk hbl hd K hK => by
      (try dsimp only)
      go_simp
      go_at_call 81
      (with_reducible refine (f_of _ (1) ?_ ?_).mono ?_); (first | omega | decide | assumption); (first | omega | decide | assumption); rintro e wr ⟨b3, A3, n3, c3, A'3, n'3, c'3, rfl, h3, hbr⟩
      exact hK.out _ _ ⟨b3, A3, n3, c3, A'3, n'3, c'3, rfl, h3⟩ hbr⟩
  · exact .inl ⟨by simp, by simp, fun xf wq hk hbl hd K hK => by
      (try dsimp only)
      go_simp
      exact hK.out (.pointer (some ⟨w.heap.size, 0, none⟩)) _ rfl (brefl _)⟩
  · exact .inl ⟨by simp, by simp, fun xf wq hk hbl hd K hK => by
      have d1 : xf 1 = .pointer (some ⟨w.heap.size, 0, none⟩) := hd ⟨1, .data⟩ (by simp) rfl
      have y : Blk wq (w.heap.size) 26 #[.bool b, .slice A n c, .slice D m e, .bool false] := hbl _ (List.Mem.head _) (by simp [Region.binds])
      obtain ⟨c0, c1, c2, c3⟩ := y.c4
      (try dsimp only); (try simp only [d1])
      go_simp
      have hz := hK.out (.agg #[.bool b, .slice A n c, .slice D m e]) _ rfl (brefl _)
      simp only [d1] at hz
      exact hz⟩
  · exact .inl ⟨by simp, by simp, fun xf wq hk hbl hd K hK => by
      (try dsimp only)
      go_simp
      exact hK.out (.pointer (some ⟨w.heap.size + 1, 0, none⟩)) _ rfl (brefl _)⟩
  · exact .inl ⟨by simp, by simp, fun xf wq hk hbl hd K hK => by
      have d3 : xf 3 = .pointer (some ⟨w.heap.size + 1, 0, none⟩) := hd ⟨3, .data⟩ (by simp) rfl
      have y : Blk wq (w.heap.size + 1) 26 #[.bool b', .slice A' n' c', .slice D' m' e', .bool false] := hbl _ (List.Mem.tail _ (List.Mem.head _)) (by simp [Region.binds])
      obtain ⟨c0, c1, c2, c3⟩ := y.c4
      (try dsimp only); (try simp only [d3])
      go_simp
      have hz := hK.out (.agg #[.bool b', .slice A' n' c', .slice D' m' e']) _ rfl (brefl _)
      simp only [d3] at hz
      exact hz⟩
  · exact .inl ⟨by simp, by simp, fun xf wq hk hbl hd K hK => by
      have d2 : xf 2 = .agg #[.bool b, .slice A n c, .slice D m e] := hd ⟨2, .data⟩ (by simp) rfl
      have d4 : xf 4 = .agg #[.bool b', .slice A' n' c', .slice D' m' e'] := hd ⟨4, .data⟩ (by simp) rfl
      (try dsimp only); (try simp only [d2, d4])
      go_simp
      go_at_call 82
      (with_reducible refine (f_mul _ b A n c D m e ((t).t) (k) ?_ b' A' n' c' D' m' e' ((t').t) (k') ?_ ?_ ?_ ?_ ?_).mono ?_); (exact (h.keep hk).qz); (exact (h'.keep hk).qz); (first | omega | decide | assumption); (first | omega | decide | assumption); (first | omega | decide | assumption); (first | omega | decide | assumption); rintro e wr ⟨b4, A4, n4, c4, A'4, n'4, c'4, rfl, h4, hbr⟩
      have hz := hK.out _ _ ⟨b4, A4, n4, c4, A'4, n'4, c'4, rfl, h4⟩ hbr
      simp only [d2, d4] at hz
      exact hz⟩
  · exact .inl ⟨by simp, by simp, fun xf wq hk hbl hd K hK => by
      obtain ⟨b3, A3, n3, c3, A'3, n'3, c'3, d0, h3⟩ : VQ (((1 : Int) : Rat)) (1) (xf 0) wq := hd ⟨0, .data⟩ (by simp) rfl
      obtain ⟨b4, A4, n4, c4, A'4, n'4, c'4, d5, h4⟩ : VQ (((t).t) * ((t').t)) ((k) + (k')) (xf 5) wq := hd ⟨5, .data⟩ (by simp) rfl
      (try dsimp only); (try simp only [d0, d5])
      go_simp
      go_at_call 85
      (with_reducible refine (f_sub _ b3 A3 n3 c3 A'3 n'3 c'3 (((1 : Int) : Rat)) (1) ?_ b4 A4 n4 c4 A'4 n'4 c'4 (((t).t) * ((t').t)) ((k) + (k')) ?_ ?_ ?_ ?_ ?_).mono ?_); (exact h3.qz); (exact h4.qz); (first | omega | decide | assumption); (first | omega | decide | assumption); (first | omega | decide | assumption); (first | omega | decide | assumption); rintro e wr ⟨b5, A5, n5, c5, A'5, n'5, c'5, rfl, h5, hbr⟩
      have hz := hK.out _ _ ⟨b5, A5, n5, c5, A'5, n'5, c'5, rfl, h5⟩ hbr
      simp only [d0, d5] at hz
      exact hz⟩
  · exact .inr (.inl ⟨⟨7, 8, 24, #[.bool false, .slice none 0 0, .slice none 0 0], CQ ((((1 : Int) : Rat)) - (((t).t) * ((t').t))) ((1) + ((k) + (k')) + 1)⟩, by simp, rfl, by simp, by simp, by simp, fun _ _ => True.intro, fun xf wq K hK => by
      (try dsimp only)
      go_simp
      exact hK.out⟩)
  · exact .inr (.inr (.inl ⟨⟨7, 8, 24, #[.bool false, .slice none 0 0, .slice none 0 0], CQ ((((1 : Int) : Rat)) - (((t).t) * ((t').t))) ((1) + ((k) + (k')) + 1)⟩, by simp, rfl, by simp, by simp, by simp, by simp, (show KT 24 = false by decide), fun _ _ => True.intro, ⟨⟨7, .data⟩, by simp, rfl, rfl⟩, fun xf wq g hx hblk hd => by
      obtain ⟨b5, A5, n5, c5, A'5, n'5, c'5, d6, h5⟩ : VQ ((((1 : Int) : Rat)) - (((t).t) * ((t').t))) ((1) + ((k) + (k')) + 1) (xf 6) wq := hd ⟨6, .data⟩ (by simp) rfl
      dsimp only at hx hblk
      refine ⟨[.bool b5, .slice A5 n5 c5, .slice A'5 n'5 c'5], fun w' hk => ⟨b5, A5, n5, c5, A'5, n'5, c'5, rfl, h5.keep hk⟩, fun K hK => ?_⟩
      have hc0 : wq.cell? ⟨g, 0, none⟩ = some (.bool false) := hblk.cell 0
      have hc1 : wq.cell? ⟨g, 1, none⟩ = some (.slice none 0 0) := hblk.cell 1
      have hc2 : wq.cell? ⟨g, 2, none⟩ = some (.slice none 0 0) := hblk.cell 2
      have hf0 : wq.frozen? ⟨g, 0, none⟩ = false := hblk.frozen 0
      have hf1 : wq.frozen? ⟨g, 1, none⟩ = false := hblk.frozen 1
      have hf2 : wq.frozen? ⟨g, 2, none⟩ = false := hblk.frozen 2
      (try dsimp only)
      simp only [hx, d6]
      go_simp
      have hz := hK.out undef
      simp only [hx, d6] at hz
      exact hz⟩))
  clear cx1_0_0 cx1_0_1 cx1_0_2 cx1_0_3 lx1_0_0 lx1_0_1 lx1_0_2 lx1_0_3 cx1_1_0 cx1_1_1 cx1_1_2 cx1_1_3 lx1_1_0 lx1_1_1 lx1_1_2 lx1_1_3
  intro y2 w2 kq2 hbl2 lw2 how hrr hfl hds
  replace h := h.keep kq2
  replace h' := h'.keep kq2
  obtain ⟨_, z2_0, ez, _⟩ := how _ (List.Mem.head _)
  obtain rfl := ez (by simp)
  dsimp only at z2_0
  obtain ⟨_, z2_1, ez, _⟩ := how _ (List.Mem.tail _ (List.Mem.head _))
  obtain rfl := ez (by simp)
  dsimp only at z2_1
  obtain ⟨_, z2_2, ez, _⟩ := how _ (List.Mem.tail _ (List.Mem.tail _ (List.Mem.head _)))
  obtain rfl := ez (by simp)
  dsimp only at z2_2
  obtain ⟨g5_2, _, eg5_2, Gg5_2, xg5_2, ⟨b5, A5, n5, c5, A'5, n'5, c'5, rfl, h5⟩⟩ := hfl _ (List.Mem.head _)
  dsimp only at eg5_2 Gg5_2 xg5_2
  have lgg5_2 : g5_2 < w2.heap.size := xg5_2.lt
  (try dsimp only)
  simp only [eg5_2]
  clear hrr hfl how hds eg5_2
  clear x1_0 x1_1 x1_2
  have bw2 : Below w.heap.size w w2 := bw1.trans hbl2
  clear bw1
  obtain ⟨cxg5_2_0, cxg5_2_1, cxg5_2_2⟩ := xg5_2.c3
  obtain ⟨lxg5_2_0, lxg5_2_1, lxg5_2_2, lxg5_2_3⟩ := lts0 xg5_2.lt
  go_wp2_with fail
  (with_reducible refine (f_sign_e _ b5 A5 n5 c5 A'5 n'5 c'5 ((((1 : Int) : Rat)) - (((t).t) * ((t').t))) ((1) + ((k) + (k')) + 1) ?_ (s) ?_ ?_ ?_).mono ?_); (exact h5.qz); (exact HZ.out); (first | omega | decide | assumption); (first | omega | decide | assumption); rintro e w7 ⟨rfl, hb7⟩
  clear cxg5_2_0 cxg5_2_1 cxg5_2_2 lxg5_2_0 lxg5_2_1 lxg5_2_2 lxg5_2_3
  have q7 : Below w2.heap.size w2 w7 := hb7
  replace h := h.belw q7
  replace h' := h'.belw q7
  replace h5 := h5.belw q7
  replace z2_0 := z2_0.below q7 z2_0.lt
  replace z2_1 := z2_1.below q7 z2_1.lt
  replace z2_2 := z2_2.below q7 z2_2.lt
  replace xg5_2 := xg5_2.below q7 xg5_2.lt
  have bw7 : Below w.heap.size w w7 := bw2.trans (q7.mono bw2.size)
  have lw7 : w2.heap.size ≤ w7.heap.size := q7.size
  clear hb7 q7 bw2
  obtain ⟨cz2_0_0, cz2_0_1, cz2_0_2, cz2_0_3⟩ := z2_0.c4
  obtain ⟨lz2_0_0, lz2_0_1, lz2_0_2, lz2_0_3⟩ := lts0 z2_0.lt
  obtain ⟨cz2_1_0, cz2_1_1, cz2_1_2, cz2_1_3⟩ := z2_1.c4
  obtain ⟨lz2_1_0, lz2_1_1, lz2_1_2, lz2_1_3⟩ := lts1 z2_1.lt
  obtain ⟨cz2_2_0, cz2_2_1, cz2_2_2, cz2_2_3⟩ := z2_2.c4
  obtain ⟨fz2_2_0, fz2_2_1, fz2_2_2, fz2_2_3⟩ := z2_2.f4
  obtain ⟨lz2_2_0, lz2_2_1, lz2_2_2, lz2_2_3⟩ := lts2 z2_2.lt
  obtain ⟨cxg5_2_0, cxg5_2_1, cxg5_2_2⟩ := xg5_2.c3
  obtain ⟨lxg5_2_0, lxg5_2_1, lxg5_2_2, lxg5_2_3⟩ := lts0 xg5_2.lt
  go_wp2_with fail
  have nfz2_0_0 : ¬ w.heap.size = w.heap.size + 1 + 1 := by omega
  have nez2_0_0 : ¬ w.heap.size = w.heap.size + 2 := by omega
  have nfz2_1_0 : ¬ w.heap.size + 1 = w.heap.size + 1 + 1 := by omega
  have nez2_1_0 : ¬ w.heap.size = w.heap.size + 1 := by omega
  have nfxg5_2_0 : ¬ g5_2 = w.heap.size + 1 + 1 := by omega
  have nexg5_2_0 : ¬ g5_2 = w.heap.size + 2 := by omega
  go_region_held3 (fun w' => SeesX w7.heap.size (w.heap.size + 1 + 1) w7 w') (first | with_reducible exact SeesX.of (Nat.le_refl _) (by assumption) | with_reducible exact SeesX.of (Nat.le_refl _) (brefl _).drew | with_reducible exact (SeesX.set (SeesX.set (SeesX.set (SeesX.set (SeesX.of (Nat.le_refl _) (by assumption)))))) | with_reducible exact (SeesX.set (SeesX.set (SeesX.set (SeesX.of (Nat.le_refl _) (by assumption))))) | with_reducible exact (SeesX.set (SeesX.set (SeesX.of (Nat.le_refl _) (by assumption)))) | with_reducible exact (SeesX.set (SeesX.of (Nat.le_refl _) (by assumption))) | exact SeesX.of (Nat.le_refl _) (below_drewN (brefl _) 1) | exact SeesX.of (Nat.le_refl _) (below_drewN (by assumption) _))
    (first
      | (go_at_call 83; (with_reducible refine (f_add _ b A n c D m e ((t).t) (k) ?_ b' A' n' c' D' m' e' ((t').t) (k') ?_ ?_ ?_ ?_ ?_).mono ?_); (exact h.qz); (exact h'.qz); (first | omega | decide | assumption); (first | omega | decide | assumption); (first | omega | decide | assumption); (first | omega | decide | assumption); rintro e w8 ⟨b8, A8, n8, c8, A'8, n'8, c'8, rfl, h8, hb8⟩; replace hb8 := bnext (below_drewN (brefl _) 1) hb8; have q8 : Below w7.heap.size w7 w8 := bnext (brefl w7) hb8; replace h := h.belw hb8; replace h' := h'.belw hb8; replace h5 := h5.belw hb8)
      | (go_at_call 84; (with_reducible refine (t_over _ b8 A8 n8 c8 A'8 n'8 c'8 (((t).t) + ((t').t)) ((k) + (k') + 1) ?_ b5 A5 n5 c5 A'5 n'5 c'5 ((((1 : Int) : Rat)) - (((t).t) * ((t').t))) ((1) + ((k) + (k')) + 1) ?_ ?_ ?_ ?_ ?_ ?_).mono ?_); (exact h8.qz); (exact h5.qz); (first | omega | decide | assumption); (first | omega | decide | assumption); (first | omega | decide | assumption); (first | omega | decide | assumption); (exact HNE.out); rintro e w9 ⟨b9, A9, n9, c9, A'9, n'9, c'9, rfl, h9, hb9⟩; have q9 : Below w7.heap.size w7 w9 := bnext q8 hb9; replace h := h.belw hb9; replace h' := h'.belw hb9; replace h5 := h5.belw hb9; replace h8 := h8.belw hb9; have z2_2 : Blk w9 (w.heap.size + 1 + 1) 26 #[.bool false, .slice none 0 0, .slice none 0 0, .bool false] := z2_2.below q9 z2_2.lt; obtain ⟨cz2_2_0, cz2_2_1, cz2_2_2, cz2_2_3⟩ := z2_2.c4; obtain ⟨fz2_2_0, fz2_2_1, fz2_2_2, fz2_2_3⟩ := z2_2.f4))
  have bw9 : Below w.heap.size w w9 := bw7.trans (q9.mono bw7.size)
  clear cz2_0_0 cz2_0_1 cz2_0_2 cz2_0_3 lz2_0_0 lz2_0_1 lz2_0_2 lz2_0_3 cz2_1_0 cz2_1_1 cz2_1_2 cz2_1_3 lz2_1_0 lz2_1_1 lz2_1_2 lz2_1_3 cz2_2_0 fz2_2_0 cz2_2_1 fz2_2_1 cz2_2_2 fz2_2_2 cz2_2_3 fz2_2_3 lz2_2_0 lz2_2_1 lz2_2_2 lz2_2_3 cxg5_2_0 cxg5_2_1 cxg5_2_2 lxg5_2_0 lxg5_2_1 lxg5_2_2 lxg5_2_3
  replace z2_0 := z2_0.below q9 z2_0.lt
  replace z2_1 := z2_1.below q9 z2_1.lt
  replace xg5_2 := xg5_2.below q9 xg5_2.lt
  have lw9 : w7.heap.size ≤ w9.heap.size := q9.size
  obtain ⟨cz2_2_0, cz2_2_1, cz2_2_2, cz2_2_3⟩ := z2_2.c4
  obtain ⟨fz2_2_0, fz2_2_1, fz2_2_2, fz2_2_3⟩ := z2_2.f4
  go_wp2_with fail
  rw [HT.out]
  refine bodyPost_ret (v := .agg #[.bool b9, .slice A9 n9 c9, .slice A'9 n'9 c'9, .bool false]) (by simp [results, Tryz.results80, go_sem, *] <;> first | rfl | exact ⟨rfl, rfl⟩) rfl ?_
  have kp := (((((Kp.refl w9).setB (p := ⟨w.heap.size + 1 + 1, 0, none⟩) z2_2.box (by decide) (.bool b9)).setB (p := ⟨w.heap.size + 1 + 1, 1, none⟩) (z2_2.box.set ⟨w.heap.size + 1 + 1, 0, none⟩ (.bool b9)) (by decide) (.slice A9 n9 c9)).setB (p := ⟨w.heap.size + 1 + 1, 2, none⟩) ((z2_2.box.set ⟨w.heap.size + 1 + 1, 0, none⟩ (.bool b9)).set ⟨w.heap.size + 1 + 1, 1, none⟩ (.slice A9 n9 c9)) (by decide) (.slice A'9 n'9 c'9)).setB (p := ⟨w.heap.size + 1 + 1, 3, none⟩) (((z2_2.box.set ⟨w.heap.size + 1 + 1, 0, none⟩ (.bool b9)).set ⟨w.heap.size + 1 + 1, 1, none⟩ (.slice A9 n9 c9)).set ⟨w.heap.size + 1 + 1, 2, none⟩ (.slice A'9 n'9 c'9)) (by decide) (.bool false))
  exact ⟨b9, A9, n9, c9, A'9, n'9, c'9, false, rfl, (tv_mk (h9.keep kp)).mono (by omega), ((((bw9.setCell (p := ⟨w.heap.size + 1 + 1, 0, none⟩) (by dsimp only; omega) (.bool b9)).setCell (p := ⟨w.heap.size + 1 + 1, 1, none⟩) (by dsimp only; omega) (.slice A9 n9 c9)).setCell (p := ⟨w.heap.size + 1 + 1, 2, none⟩) (by dsimp only; omega) (.slice A'9 n'9 c'9)).setCell (p := ⟨w.heap.size + 1 + 1, 3, none⟩) (by dsimp only; omega) (.bool false))⟩
theorem t_add (w : World) (b : Bool) (A : Option Addr) (n c : Nat) (D : Option Addr) (m e : Nat) (x : Bool) (t : TN) (k : Nat) (h : TK w b A n c D m e x t k) (b' : Bool) (A' : Option Addr) (n' c' : Nat) (D' : Option Addr) (m' e' : Nat) (x' : Bool) (t' : TN) (k' : Nat) (h' : TK w b' A' n' c' D' m' e' x' t' k') (h0 : 0 < k) (hk : k ≤ 1000000) (h0' : 0 < k') (hk' : k' ≤ 1000000) : Calls Tryz.prog 80 #[.agg #[.bool b, .slice A n c, .slice D m e, .bool x], .agg #[.bool b', .slice A' n' c', .slice D' m' e', .bool x']] w (RetT w (tadd t t') (2 * k + 2 * k' + 3)) := by
  cases x <;> cases x'
  · by_cases hz : ((1 : Int) : Rat) - t.t * t'.t = 0
    · exact t_add_ff0 w b A n c D m e t k h b' A' n' c' D' m' e' t' k' h' h0 hk h0' hk' hz
    · exact t_add_ff1 w b A n c D m e t k h b' A' n' c' D' m' e' t' k' h' h0 hk h0' hk' hz
  · exact t_add_ft w b A n c D m e t k h b' A' n' c' D' m' e' t' k' h' h0 hk h0' hk'
  · exact t_add_tf w b A n c D m e t k h b' A' n' c' D' m' e' t' k' h' h0 hk h0' hk'
  · exact t_add_tt w b A n c D m e t k h b' A' n' c' D' m' e' t' k' h' h0 hk h0' hk'
end Go.Proofs.YtpnnfbodphflpaaGreatDoor

/- Walks: the first error of some turns. -/
namespace Go.Proofs.YtpnnfbodphflpaaGreatDoor
open Go Go.RowKit Bn
attribute [local go_sem ↓] Go.wp_at_zero Go.wp_at_succ
/-- Turns in a row, all accepted. -/
def Ts (w : World) (g n k : Nat) : Prop := g < w.heap.size ∧ ∀ i, i < n → ∃ b A m c D m' e x t, w.cell? ⟨g, i * 4, none⟩ = some (.bool b) ∧ w.cell? ⟨g, i * 4 + 1, none⟩ = some (.slice A m c) ∧ w.cell? ⟨g, i * 4 + 2, none⟩ = some (.slice D m' e) ∧ w.cell? ⟨g, i * 4 + 3, none⟩ = some (.bool x) ∧ TK w b A m c D m' e x t k
theorem Ts.belw {w w' : World} {g n k : Nat} (h : Ts w g n k) (hb : Below w.heap.size w w') : Ts w' g n k := by
  obtain ⟨hg, h⟩ := h
  have hc := (bcell hb).1
  refine ⟨Nat.lt_of_lt_of_le hg hb.size, fun i hi => ?_⟩
  obtain ⟨b, A, m, c, D, m', e, x, t, h1, h2, h3, h4, h5⟩ := h i hi
  exact ⟨b, A, m, c, D, m', e, x, t, (hc _ _ hg).trans h1, (hc _ _ hg).trans h2, (hc _ _ hg).trans h3, (hc _ _ hg).trans h4, h5.belw hb⟩
theorem ts2 {w : World} {g k : Nat} {T : TypeId} {b : Bool} {A : Option Addr} {m c : Nat} {D : Option Addr} {m' e : Nat} {x : Bool} {t : TN} {b1 : Bool} {A1 : Option Addr} {m1 c1 : Nat} {D1 : Option Addr} {m1' e1 : Nat} {x1 : Bool} {t1 : TN}
    (hb : Blk w g T #[.bool b, .slice A m c, .slice D m' e, .bool x, .bool b1, .slice A1 m1 c1, .slice D1 m1' e1, .bool x1]) (h : TK w b A m c D m' e x t k) (h1 : TK w b1 A1 m1 c1 D1 m1' e1 x1 t1 k) : Ts w g 2 k := by
  refine ⟨hb.lt, fun i hi => ?_⟩
  match i, hi with
  | 0, _ => exact ⟨_, _, _, _, _, _, _, _, t, hb.cell 0, hb.cell 1, hb.cell 2, hb.cell 3, h⟩
  | 1, _ => exact ⟨_, _, _, _, _, _, _, _, t1, hb.cell 4, hb.cell 5, hb.cell 6, hb.cell 7, h1⟩
theorem ts3 {w : World} {g k : Nat} {T : TypeId} {b : Bool} {A : Option Addr} {m c : Nat} {D : Option Addr} {m' e : Nat} {x : Bool} {t : TN} {b1 : Bool} {A1 : Option Addr} {m1 c1 : Nat} {D1 : Option Addr} {m1' e1 : Nat} {x1 : Bool} {t1 : TN} {b2 : Bool} {A2 : Option Addr} {m2 c2 : Nat} {D2 : Option Addr} {m2' e2 : Nat} {x2 : Bool} {t2 : TN}
    (hb : Blk w g T #[.bool b, .slice A m c, .slice D m' e, .bool x, .bool b1, .slice A1 m1 c1, .slice D1 m1' e1, .bool x1, .bool b2, .slice A2 m2 c2, .slice D2 m2' e2, .bool x2]) (h : TK w b A m c D m' e x t k) (h1 : TK w b1 A1 m1 c1 D1 m1' e1 x1 t1 k) (h2 : TK w b2 A2 m2 c2 D2 m2' e2 x2 t2 k) : Ts w g 3 k := by
  refine ⟨hb.lt, fun i hi => ?_⟩
  match i, hi with
  | 0, _ => exact ⟨_, _, _, _, _, _, _, _, t, hb.cell 0, hb.cell 1, hb.cell 2, hb.cell 3, h⟩
  | 1, _ => exact ⟨_, _, _, _, _, _, _, _, t1, hb.cell 4, hb.cell 5, hb.cell 6, hb.cell 7, h1⟩
  | 2, _ => exact ⟨_, _, _, _, _, _, _, _, t2, hb.cell 8, hb.cell 9, hb.cell 10, hb.cell 11, h2⟩
set_option maxRecDepth 100000 in
set_option maxHeartbeats 2000000 in
theorem t_checkAll (w : World) (g n k : Nat) (h : Ts w g n k) (hn : n ≤ 1000) (h0 : 0 < k) (hk : k ≤ 1000000) :
    Calls Tryz.prog 79 #[.slice (some ⟨g, 0, none⟩) n n] w (RetV w .nilIface) := by
  go_enter Tryz.func79, Tryz.ntmps79
  go_wp2_with fail
  go_loopw [8] (fun iv wr => ∃ i : Nat, i ≤ n ∧ iv = .int .i64 (i : Nat) ∧ Below w.heap.size w wr) (fun iv _ => n - (intOf iv).toNat)
  case atStart => exact ⟨0, Nat.zero_le _, rfl, brefl w⟩
  case round =>
    obtain ⟨i, hi, rfl, hb⟩ := hrel
    by_cases hlt : i < n
    · have hw := h.belw hb
      obtain ⟨b, A, m, c, D, m', e, x, t, c0, c1, c2, c3, h5⟩ := hw.2 i hlt
      have hgl := hw.1
      have H := Lib.hid h
      clear h hw
      go_wp2_with fail
      (with_reducible refine (t_check _ b A m c D m' e x t k ?_ ?_ ?_).mono ?_); (exact h5.belw ((Below.refl _ _).alloc (Nat.le_refl _) _)); (exact h0); (exact hk); rintro e w1 ⟨rfl, hb1⟩
      go_wp2_with fail
      go_roundw
      case rel => exact ⟨i + 1, by omega, by go_num, hb.trans (((Below.refl _ _).alloc (Nat.le_refl _) _).trans (hb1.mono (by simp)) |>.mono hb.size)⟩
      case measure => simp [intOf]; omega
    · have H := Lib.hid h
      clear h
      go_wp2_with fail
      go_ret
      exact ⟨rfl, hb⟩
end Go.Proofs.YtpnnfbodphflpaaGreatDoor

/- Walks: turns, what is called. -/
namespace Go.Proofs.YtpnnfbodphflpaaGreatDoor
open Go Go.RowKit Bn
attribute [local go_sem ↓] Go.wp_at_zero Go.wp_at_succ
set_option maxRecDepth 100000 in
set_option maxHeartbeats 4000000 in
/-- turn.Add -/
theorem t_Add (w : World) (b : Bool) (A : Option Addr) (n c : Nat) (D : Option Addr) (m e : Nat) (x : Bool) (t : TN) (k : Nat) (h : TK w b A n c D m e x t k) (b' : Bool) (A' : Option Addr) (n' c' : Nat) (D' : Option Addr) (m' e' : Nat) (x' : Bool) (t' : TN) (k' : Nat) (h' : TK w b' A' n' c' D' m' e' x' t' k') (h0 : 0 < k) (hk : k ≤ 400000) (h0' : 0 < k') (hk' : k' ≤ 400000) :
    Calls Tryz.prog 33 #[.agg #[.bool b, .slice A n c, .slice D m e, .bool x], .agg #[.bool b', .slice A' n' c', .slice D' m' e', .bool x']] w (RetTe w .nilIface (tadd t t') (2 * k + 2 * k' + 3)) := by
  go_enter Tryz.func33, Tryz.ntmps33
  go_wp2_with fail
  (with_reducible refine (t_checkAll _ (w.heap.size + 1 + 1 + 1) 2 ((k) + (k')) ?_ ?_ ?_ ?_).mono ?_); (exact ts2 (blkAt _ _ _ (by simp)) ((h.belw (((((Below.refl _ _).alloc (Nat.le_refl _) _).alloc (by simp) _).alloc (by simp <;> omega) _).alloc (by simp <;> omega) _)).mono (by omega)) ((h'.belw (((((Below.refl _ _).alloc (Nat.le_refl _) _).alloc (by simp) _).alloc (by simp <;> omega) _).alloc (by simp <;> omega) _)).mono (by omega))); (decide); (omega); (omega); rintro e w1 ⟨rfl, hb1⟩
  have q1 : Below w.heap.size w w1 := (((((Below.refl _ _).alloc (Nat.le_refl _) _).alloc (by simp) _).alloc (by simp <;> omega) _).alloc (by simp <;> omega) _).trans (hb1.mono (by simp <;> omega))
  replace h := h.belw q1
  replace h' := h'.belw q1
  have x1_0 : Blk w1 (w.heap.size) 26 #[.bool b, .slice A n c, .slice D m e, .bool x] := ((((blkAt _ _ _ (by simp)).alloc _).alloc _).alloc _).below hb1 (by simp <;> omega)
  have x1_1 : Blk w1 (w.heap.size + 1) 26 #[.bool b', .slice A' n' c', .slice D' m' e', .bool x'] := (((blkAt _ _ _ (by simp)).alloc _).alloc _).below hb1 (by simp <;> omega)
  have x1_2 : Blk w1 (w.heap.size + 1 + 1) 26 #[.bool false, .slice none 0 0, .slice none 0 0, .bool false] := ((blkAt _ _ _ (by simp)).alloc _).below hb1 (by simp <;> omega)
  have x1_3 : Blk w1 (w.heap.size + 1 + 1 + 1) 26 #[.bool b, .slice A n c, .slice D m e, .bool x, .bool b', .slice A' n' c', .slice D' m' e', .bool x'] := (blkAt _ _ _ (by simp)).below hb1 (by simp)
  have bw1 : Below w.heap.size w w1 := (brefl w).trans (q1.mono (brefl w).size)
  have lw1 : w.heap.size + 4 ≤ w1.heap.size := by have := hb1.size; simp at this; omega
  clear hb1 q1
  obtain ⟨cx1_0_0, cx1_0_1, cx1_0_2, cx1_0_3⟩ := x1_0.c4
  obtain ⟨lx1_0_0, lx1_0_1, lx1_0_2, lx1_0_3⟩ := lts0 x1_0.lt
  obtain ⟨cx1_1_0, cx1_1_1, cx1_1_2, cx1_1_3⟩ := x1_1.c4
  obtain ⟨lx1_1_0, lx1_1_1, lx1_1_2, lx1_1_3⟩ := lts1 x1_1.lt
  go_wp2_with fail
  (with_reducible refine (t_add _ b A n c D m e x (t) (k) ?_ b' A' n' c' D' m' e' x' (t') (k') ?_ ?_ ?_ ?_ ?_).mono ?_); (exact h); (exact h'); (first | omega | decide | assumption); (first | omega | decide | assumption); (first | omega | decide | assumption); (first | omega | decide | assumption); rintro e w2 ⟨b2, A2, n2, c2, A'2, n'2, c'2, x2, rfl, h2, hb2⟩
  clear cx1_0_0 cx1_0_1 cx1_0_2 cx1_0_3 lx1_0_0 lx1_0_1 lx1_0_2 lx1_0_3 cx1_1_0 cx1_1_1 cx1_1_2 cx1_1_3 lx1_1_0 lx1_1_1 lx1_1_2 lx1_1_3
  have q2 : Below w1.heap.size w1 w2 := hb2
  replace h := h.belw q2
  replace h' := h'.belw q2
  replace x1_0 := x1_0.below q2 x1_0.lt
  replace x1_1 := x1_1.below q2 x1_1.lt
  replace x1_2 := x1_2.below q2 x1_2.lt
  replace x1_3 := x1_3.below q2 x1_3.lt
  have bw2 : Below w.heap.size w w2 := bw1.trans (q2.mono bw1.size)
  have lw2 : w1.heap.size ≤ w2.heap.size := q2.size
  clear hb2 q2 bw1
  obtain ⟨cx1_2_0, cx1_2_1, cx1_2_2, cx1_2_3⟩ := x1_2.c4
  obtain ⟨fx1_2_0, fx1_2_1, fx1_2_2, fx1_2_3⟩ := x1_2.f4
  obtain ⟨lx1_2_0, lx1_2_1, lx1_2_2, lx1_2_3⟩ := lts2 x1_2.lt
  go_wp2_with fail
  refine bodyPost_ret (v := .tuple #[.agg #[.bool b2, .slice A2 n2 c2, .slice A'2 n'2 c'2, .bool x2], .nilIface]) (by simp [results, Tryz.results33, go_sem, *] <;> first | rfl | exact ⟨rfl, rfl⟩) rfl ?_
  have kp := (((((Kp.refl w2).setB (p := ⟨w.heap.size + 1 + 1, 0, none⟩) x1_2.box (by decide) (.bool b2)).setB (p := ⟨w.heap.size + 1 + 1, 1, none⟩) (x1_2.box.set ⟨w.heap.size + 1 + 1, 0, none⟩ (.bool b2)) (by decide) (.slice A2 n2 c2)).setB (p := ⟨w.heap.size + 1 + 1, 2, none⟩) ((x1_2.box.set ⟨w.heap.size + 1 + 1, 0, none⟩ (.bool b2)).set ⟨w.heap.size + 1 + 1, 1, none⟩ (.slice A2 n2 c2)) (by decide) (.slice A'2 n'2 c'2)).setB (p := ⟨w.heap.size + 1 + 1, 3, none⟩) (((x1_2.box.set ⟨w.heap.size + 1 + 1, 0, none⟩ (.bool b2)).set ⟨w.heap.size + 1 + 1, 1, none⟩ (.slice A2 n2 c2)).set ⟨w.heap.size + 1 + 1, 2, none⟩ (.slice A'2 n'2 c'2)) (by decide) (.bool x2))
  exact ⟨b2, A2, n2, c2, A'2, n'2, c'2, x2, rfl, h2.keep kp, ((((bw2.setCell (p := ⟨w.heap.size + 1 + 1, 0, none⟩) (by dsimp only; omega) (.bool b2)).setCell (p := ⟨w.heap.size + 1 + 1, 1, none⟩) (by dsimp only; omega) (.slice A2 n2 c2)).setCell (p := ⟨w.heap.size + 1 + 1, 2, none⟩) (by dsimp only; omega) (.slice A'2 n'2 c'2)).setCell (p := ⟨w.heap.size + 1 + 1, 3, none⟩) (by dsimp only; omega) (.bool x2))⟩
end Go.Proofs.YtpnnfbodphflpaaGreatDoor

/- Walks: the reference: what is wrong with a turn. -/
namespace Go.Proofs.YtpnnfbodphflpaaGreatDoor
open Go Go.RowKit Bn
attribute [local go_sem ↓] Go.wp_at_zero Go.wp_at_succ
/-- A turn is accepted. -/
def accT (a : RD) (x : Bool) : Bool := a.ok && (!x || a.q.num.sign == 0)
theorem g_sign_e (w : World) (b : Bool) (A : Option Addr) (n c : Nat) (D : Option Addr) (m e : Nat) (q : Rat) (k : Nat) (h : QZ w b A n c D m e q k) (s : Int) (hs : q.num.sign = s) (h0 : 0 < k) (hk : k ≤ 40000000) : Calls Tryz.prog 38 #[.agg #[.bool b, .slice A n c, .slice D m e]] w (RetV w (.int .i64 s)) := by subst hs; exact g_sign w b A n c D m e q k h h0 hk
set_option maxRecDepth 100000 in
set_option maxHeartbeats 2000000 in
/-- linkworkref12.Check -/
theorem g_check_1 (w : World) (b : Bool) (A : Option Addr) (n c : Nat) (D : Option Addr) (m e : Nat) (a : RD) (k : Nat) (h : QD w b A n c D m e a k) (h0 : 0 < k) (hk : k ≤ 30000000) (x : Bool) (ho : a.ok = false) :
    Calls Tryz.prog 12 #[.agg #[.bool b, .slice A n c, .slice D m e, .bool x]] w (RetV w (.int .i64 2)) := by
  have HO := Lib.hid ho
  have hq : QZ w b A n c D m e a.q k := ⟨a, h, rfl⟩
  clear ho
  go_enter Tryz.func12, Tryz.ntmps12
  go_wp2_with fail
  (with_reducible refine (g_valid_e _ b A n c D m e a k false ?_ ?_ ?_).mono ?_); (exact h.belw ((Below.refl _ _).alloc (Nat.le_refl _) _)); (omega); (exact HO.out); rintro e w1 ⟨rfl, hb1⟩
  have q1 : Below w.heap.size w w1 := ((Below.refl _ _).alloc (Nat.le_refl _) _).trans (hb1.mono (by simp))
  replace h := h.belw q1
  replace hq := hq.belw q1
  have x1_0 : Blk w1 (w.heap.size) 26 #[.bool b, .slice A n c, .slice D m e, .bool x] := (blkAt _ _ _ (by simp)).below hb1 (by simp)
  have bw1 : Below w.heap.size w w1 := (brefl w).trans (q1.mono (brefl w).size)
  have lw1 : w.heap.size + 1 ≤ w1.heap.size := by have := hb1.size; simp at this; omega
  clear hb1 q1
  obtain ⟨cx1_0_0, cx1_0_1, cx1_0_2, cx1_0_3⟩ := x1_0.c4
  obtain ⟨lx1_0_0, lx1_0_1, lx1_0_2, lx1_0_3⟩ := lts0 x1_0.lt
  go_wp2_with fail
  go_ret
  exact retI rfl bw1
set_option maxRecDepth 100000 in
set_option maxHeartbeats 2000000 in
/-- linkworkref12.Check -/
theorem g_check_2 (w : World) (b : Bool) (A : Option Addr) (n c : Nat) (D : Option Addr) (m e : Nat) (a : RD) (k : Nat) (h : QD w b A n c D m e a k) (h0 : 0 < k) (hk : k ≤ 30000000) (ho : a.ok = true) :
    Calls Tryz.prog 12 #[.agg #[.bool b, .slice A n c, .slice D m e, .bool false]] w (RetV w (.int .i64 0)) := by
  have HO := Lib.hid ho
  have hq : QZ w b A n c D m e a.q k := ⟨a, h, rfl⟩
  clear ho
  go_enter Tryz.func12, Tryz.ntmps12
  go_wp2_with fail
  (with_reducible refine (g_valid_e _ b A n c D m e a k true ?_ ?_ ?_).mono ?_); (exact h.belw ((Below.refl _ _).alloc (Nat.le_refl _) _)); (omega); (exact HO.out); rintro e w1 ⟨rfl, hb1⟩
  have q1 : Below w.heap.size w w1 := ((Below.refl _ _).alloc (Nat.le_refl _) _).trans (hb1.mono (by simp))
  replace h := h.belw q1
  replace hq := hq.belw q1
  have x1_0 : Blk w1 (w.heap.size) 26 #[.bool b, .slice A n c, .slice D m e, .bool false] := (blkAt _ _ _ (by simp)).below hb1 (by simp)
  have bw1 : Below w.heap.size w w1 := (brefl w).trans (q1.mono (brefl w).size)
  have lw1 : w.heap.size + 1 ≤ w1.heap.size := by have := hb1.size; simp at this; omega
  clear hb1 q1
  obtain ⟨cx1_0_0, cx1_0_1, cx1_0_2, cx1_0_3⟩ := x1_0.c4
  obtain ⟨lx1_0_0, lx1_0_1, lx1_0_2, lx1_0_3⟩ := lts0 x1_0.lt
  go_wp2_with fail
  go_ret
  exact retI rfl bw1
set_option maxRecDepth 100000 in
set_option maxHeartbeats 2000000 in
/-- linkworkref12.Check -/
theorem g_check_3 (w : World) (b : Bool) (A : Option Addr) (n c : Nat) (D : Option Addr) (m e : Nat) (a : RD) (k : Nat) (h : QD w b A n c D m e a k) (h0 : 0 < k) (hk : k ≤ 30000000) (ho : a.ok = true) (hs : a.q.num.sign = 0) :
    Calls Tryz.prog 12 #[.agg #[.bool b, .slice A n c, .slice D m e, .bool true]] w (RetV w (.int .i64 0)) := by
  have HO := Lib.hid ho
  have hq : QZ w b A n c D m e a.q k := ⟨a, h, rfl⟩
  clear ho
  have HS := Lib.hid hs
  clear hs
  go_enter Tryz.func12, Tryz.ntmps12
  go_wp2_with fail
  (with_reducible refine (g_valid_e _ b A n c D m e a k true ?_ ?_ ?_).mono ?_); (exact h.belw ((Below.refl _ _).alloc (Nat.le_refl _) _)); (omega); (exact HO.out); rintro e w1 ⟨rfl, hb1⟩
  have q1 : Below w.heap.size w w1 := ((Below.refl _ _).alloc (Nat.le_refl _) _).trans (hb1.mono (by simp))
  replace h := h.belw q1
  replace hq := hq.belw q1
  have x1_0 : Blk w1 (w.heap.size) 26 #[.bool b, .slice A n c, .slice D m e, .bool true] := (blkAt _ _ _ (by simp)).below hb1 (by simp)
  have bw1 : Below w.heap.size w w1 := (brefl w).trans (q1.mono (brefl w).size)
  have lw1 : w.heap.size + 1 ≤ w1.heap.size := by have := hb1.size; simp at this; omega
  clear hb1 q1
  obtain ⟨cx1_0_0, cx1_0_1, cx1_0_2, cx1_0_3⟩ := x1_0.c4
  obtain ⟨lx1_0_0, lx1_0_1, lx1_0_2, lx1_0_3⟩ := lts0 x1_0.lt
  go_wp2_with fail
  (with_reducible refine (g_sign_e _ b A n c D m e (a.q) (k) ?_ 0 ?_ ?_ ?_).mono ?_); (exact hq); (exact HS.out); (omega); (omega); rintro e w2 ⟨rfl, hb2⟩
  clear cx1_0_0 cx1_0_1 cx1_0_2 cx1_0_3 lx1_0_0 lx1_0_1 lx1_0_2 lx1_0_3
  have q2 : Below w1.heap.size w1 w2 := hb2
  replace h := h.belw q2
  replace hq := hq.belw q2
  replace x1_0 := x1_0.below q2 x1_0.lt
  have bw2 : Below w.heap.size w w2 := bw1.trans (q2.mono bw1.size)
  have lw2 : w1.heap.size ≤ w2.heap.size := q2.size
  clear hb2 q2 bw1
  go_wp2_with fail
  go_ret
  exact retI rfl bw2
set_option maxRecDepth 100000 in
set_option maxHeartbeats 2000000 in
/-- linkworkref12.Check -/
theorem g_check_4 (w : World) (b : Bool) (A : Option Addr) (n c : Nat) (D : Option Addr) (m e : Nat) (a : RD) (k : Nat) (h : QD w b A n c D m e a k) (h0 : 0 < k) (hk : k ≤ 30000000) (ho : a.ok = true) (hs : a.q.num.sign ≠ 0) :
    Calls Tryz.prog 12 #[.agg #[.bool b, .slice A n c, .slice D m e, .bool true]] w (RetV w (.int .i64 2)) := by
  have HO := Lib.hid ho
  have hq : QZ w b A n c D m e a.q k := ⟨a, h, rfl⟩
  clear ho
  obtain ⟨s, hs1⟩ : ∃ s, a.q.num.sign = s := ⟨_, rfl⟩
  rw [hs1] at hs
  have e0 : ((s : Int) == 0) = false := by simpa using hs
  have e1 : ((s : Int) != 0) = true := bne_iff_ne.2 hs
  have HS := Lib.hid hs1
  clear hs hs1
  go_enter Tryz.func12, Tryz.ntmps12
  go_wp2_with fail
  (with_reducible refine (g_valid_e _ b A n c D m e a k true ?_ ?_ ?_).mono ?_); (exact h.belw ((Below.refl _ _).alloc (Nat.le_refl _) _)); (omega); (exact HO.out); rintro e w1 ⟨rfl, hb1⟩
  have q1 : Below w.heap.size w w1 := ((Below.refl _ _).alloc (Nat.le_refl _) _).trans (hb1.mono (by simp))
  replace h := h.belw q1
  replace hq := hq.belw q1
  have x1_0 : Blk w1 (w.heap.size) 26 #[.bool b, .slice A n c, .slice D m e, .bool true] := (blkAt _ _ _ (by simp)).below hb1 (by simp)
  have bw1 : Below w.heap.size w w1 := (brefl w).trans (q1.mono (brefl w).size)
  have lw1 : w.heap.size + 1 ≤ w1.heap.size := by have := hb1.size; simp at this; omega
  clear hb1 q1
  obtain ⟨cx1_0_0, cx1_0_1, cx1_0_2, cx1_0_3⟩ := x1_0.c4
  obtain ⟨lx1_0_0, lx1_0_1, lx1_0_2, lx1_0_3⟩ := lts0 x1_0.lt
  go_wp2_with fail
  (with_reducible refine (g_sign_e _ b A n c D m e (a.q) (k) ?_ s ?_ ?_ ?_).mono ?_); (exact hq); (exact HS.out); (omega); (omega); rintro e w2 ⟨rfl, hb2⟩
  clear cx1_0_0 cx1_0_1 cx1_0_2 cx1_0_3 lx1_0_0 lx1_0_1 lx1_0_2 lx1_0_3
  have q2 : Below w1.heap.size w1 w2 := hb2
  replace h := h.belw q2
  replace hq := hq.belw q2
  replace x1_0 := x1_0.below q2 x1_0.lt
  have bw2 : Below w.heap.size w w2 := bw1.trans (q2.mono bw1.size)
  have lw2 : w1.heap.size ≤ w2.heap.size := q2.size
  clear hb2 q2 bw1
  go_wp2_with fail
  go_ret
  exact retI rfl bw2
theorem g_check (w : World) (b : Bool) (A : Option Addr) (n c : Nat) (D : Option Addr) (m e : Nat) (a : RD) (k : Nat) (h : QD w b A n c D m e a k) (h0 : 0 < k) (hk : k ≤ 30000000) (x : Bool) : Calls Tryz.prog 12 #[.agg #[.bool b, .slice A n c, .slice D m e, .bool x]] w (RetV w (.int .i64 (if accT a x then 0 else 2))) := by
  cases ho : a.ok
  · have : accT a x = false := by unfold accT; rw [ho]; rfl
    rw [this]; exact g_check_1 w b A n c D m e a k h h0 hk x ho
  · cases x
    · have : accT a false = true := by unfold accT; rw [ho]; rfl
      rw [this]; exact g_check_2 w b A n c D m e a k h h0 hk ho
    · by_cases hs : a.q.num.sign = 0
      · have : accT a true = true := by unfold accT; rw [ho, hs]; rfl
        rw [this]; exact g_check_3 w b A n c D m e a k h h0 hk ho hs
      · have : accT a true = false := by unfold accT; rw [ho]; simpa using hs
        rw [this]; exact g_check_4 w b A n c D m e a k h h0 hk ho hs
/-- An accepted turn, with its number. -/
theorem acc_tk {w : World} {b : Bool} {A : Option Addr} {n c : Nat} {D : Option Addr} {m e : Nat} {a : RD} {k : Nat} (h : QD w b A n c D m e a k) {x : Bool} (ha : accT a x = true) : TK w b A n c D m e x ⟨a.q, x⟩ k := by
  unfold accT at ha
  have h1 := (Bool.and_eq_true _ _).mp ha
  refine ⟨⟨a, h, rfl, h1.1⟩, rfl, fun hx => ?_⟩
  have h2 := h1.2
  simp only at hx
  rw [hx] at h2
  exact Rat.num_eq_zero.1 (Int.sign_eq_zero_iff_zero.1 (by simpa using h2))
end Go.Proofs.YtpnnfbodphflpaaGreatDoor

/- Walks: the laws' own small functions: short, good. -/
namespace Go.Proofs.YtpnnfbodphflpaaGreatDoor
open Go Go.RowKit Bn
attribute [local go_sem ↓] Go.wp_at_zero Go.wp_at_succ
/-- Fractions in a row, of some lengths. -/
def Rs (w : World) (g N : Nat) (ns ms : Nat → Nat) : Prop := g < w.heap.size ∧ ∀ i, i < N → ∃ b A c D e, w.cell? ⟨g, i * 3, none⟩ = some (.bool b) ∧ w.cell? ⟨g, i * 3 + 1, none⟩ = some (.slice A (ns i) c) ∧ w.cell? ⟨g, i * 3 + 2, none⟩ = some (.slice D (ms i) e)
theorem Rs.belw {w w' : World} {g N : Nat} {ns ms : Nat → Nat} (h : Rs w g N ns ms) (hb : Below w.heap.size w w') : Rs w' g N ns ms := by
  obtain ⟨hg, h⟩ := h
  have hc := (bcell hb).1
  refine ⟨Nat.lt_of_lt_of_le hg hb.size, fun i hi => ?_⟩
  obtain ⟨b, A, c, D, e, h1, h2, h3⟩ := h i hi
  exact ⟨b, A, c, D, e, (hc _ _ hg).trans h1, (hc _ _ hg).trans h2, (hc _ _ hg).trans h3⟩
def RetSh (w : World) (N : Nat) (ns ms : Nat → Nat) (e : Ending) (w' : World) : Prop := ∃ r : Bool, e = .returned (.bool r) ∧ (r = true → ∀ i, i < N → ns i ≤ 6 ∧ ms i ≤ 6) ∧ Below w.heap.size w w'
set_option maxRecDepth 100000 in
set_option maxHeartbeats 2000000 in
theorem l_short (w : World) (g N : Nat) (ns ms : Nat → Nat) (h : Rs w g N ns ms) (hN : N ≤ 1000) :
    Calls Tryz.prog 7 #[.slice (some ⟨g, 0, none⟩) N N] w (RetSh w N ns ms) := by
  go_enter Tryz.func7, Tryz.ntmps7
  go_wp2_with fail
  go_loopw [7] (fun iv wr => ∃ i : Nat, i ≤ N ∧ iv = .int .i64 (i : Nat) ∧ (∀ j, j < i → ns j ≤ 6 ∧ ms j ≤ 6) ∧ Below w.heap.size w wr) (fun iv _ => N - (intOf iv).toNat)
  case atStart => exact ⟨0, Nat.zero_le _, rfl, fun j hj => absurd hj (by omega), brefl w⟩
  case round =>
    obtain ⟨i, hi, rfl, hall, hb⟩ := hrel
    have HA := Lib.hid hall
    have HB := Lib.hid hb
    by_cases hlt : i < N
    · have hw := h.belw hb
      obtain ⟨b, A, c, D, e, c0, c1, c2⟩ := hw.2 i hlt
      have hgl := hw.1
      have H := Lib.hid h
      obtain ⟨p, hp⟩ : ∃ p, ns i = p := ⟨_, rfl⟩
      obtain ⟨q, hq⟩ : ∃ q, ms i = q := ⟨_, rfl⟩
      rw [hp] at c1
      rw [hq] at c2
      have HP := Lib.hid (And.intro hp hq)
      clear h hw hall hb hp hq
      by_cases h1 : p ≤ 6
      · by_cases h2 : q ≤ 6
        · go_wp2_with fail
          go_roundw
          case rel => exact ⟨i + 1, by omega, by go_num, fun j hj => by
            by_cases hji : j = i
            · subst hji; rw [HP.out.1, HP.out.2]; exact ⟨h1, h2⟩
            · exact HA.out j (by omega), HB.out.alloc HB.out.size _⟩
          case measure => simp [intOf]; omega
        · go_wp2_with fail
          go_ret
          exact ⟨false, rfl, (fun h => nomatch h), HB.out.alloc HB.out.size _⟩
      · go_wp2_with fail
        go_ret
        exact ⟨false, rfl, (fun h => nomatch h), HB.out.alloc HB.out.size _⟩
    · have hiN : i = N := by omega
      subst hiN
      clear h hall hb
      go_wp2_with fail
      go_ret
      exact ⟨true, rfl, fun _ => HA.out, HB.out⟩
/-- Turns in a row, accepted or not. -/
def Gs (w : World) (g N k : Nat) (rs : Nat → RD) (xs : Nat → Bool) : Prop := g < w.heap.size ∧ ∀ i, i < N → ∃ b A m c D m' e, w.cell? ⟨g, i * 4, none⟩ = some (.bool b) ∧ w.cell? ⟨g, i * 4 + 1, none⟩ = some (.slice A m c) ∧ w.cell? ⟨g, i * 4 + 2, none⟩ = some (.slice D m' e) ∧ w.cell? ⟨g, i * 4 + 3, none⟩ = some (.bool (xs i)) ∧ QD w b A m c D m' e (rs i) k
theorem Gs.belw {w w' : World} {g N k : Nat} {rs : Nat → RD} {xs : Nat → Bool} (h : Gs w g N k rs xs) (hb : Below w.heap.size w w') : Gs w' g N k rs xs := by
  obtain ⟨hg, h⟩ := h
  have hc := (bcell hb).1
  refine ⟨Nat.lt_of_lt_of_le hg hb.size, fun i hi => ?_⟩
  obtain ⟨b, A, m, c, D, m', e, h1, h2, h3, h4, h5⟩ := h i hi
  exact ⟨b, A, m, c, D, m', e, (hc _ _ hg).trans h1, (hc _ _ hg).trans h2, (hc _ _ hg).trans h3, (hc _ _ hg).trans h4, h5.belw hb⟩
end Go.Proofs.YtpnnfbodphflpaaGreatDoor

/- Walks: equal fields of equal fractions. -/
namespace Go.Proofs.YtpnnfbodphflpaaGreatDoor
open Go Go.RowKit Bn
attribute [local go_sem ↓] Go.wp_at_zero Go.wp_at_succ
set_option maxHeartbeats 1000000 in
/-- linkworkbase.Words, of equal lists -/
theorem b_words (w : World) (A : Option Addr) (n c : Nat) (l : List Nat) (wa : Wd w A n c l) (A' : Option Addr) (n' c' : Nat) (wb : Wd w A' n' c' l) (hn : n ≤ 1000000000) :
    Calls Tryz.prog 41 #[.slice A n c, .slice A' n' c'] w (RetV w (.bool true)) := by
  have hnn : n' = n := by rw [wa.2.1, wb.2.1]
  subst hnn
  have HA := Lib.hid wa
  have HB := Lib.hid wb
  clear wa wb
  go_enter Tryz.func41, Tryz.ntmps41
  go_wp2_with fail
  go_loopw [5] (fun iv wr => ∃ (i q : Nat), i ≤ n' ∧ iv = .int .i64 (i : Nat) ∧ wr = w.drewN q) (fun iv _ => n' - (intOf iv).toNat)
  case atStart => exact ⟨0, 0, Nat.zero_le _, rfl, rfl⟩
  case round =>
    obtain ⟨i, q, hi, rfl, rfl⟩ := hrel
    by_cases hlt : i < n'
    · obtain ⟨g, o, rfl, hc1⟩ := HA.out.at_ (by omega)
      obtain ⟨g', o', rfl, hc2⟩ := HB.out.at_ (by omega)
      have h1 := hc1 i hlt
      have h2 := hc2 i hlt
      have hi0 : (0 : Int) ≤ (i : Int) := by omega
      have hi1 : (i : Int) < (n' : Int) := by omega
      generalize wd l i = x at h1 h2
      clear hc1 hc2
      go_wp2_with fail
      go_quiet (fail)
      go_wp2
      go_roundw
      case rel => exact ⟨i + 1, _, by omega, by go_num, rfl⟩
      case measure => simp [intOf]; omega
    · go_wp2
      go_ret
      exact retB rfl (by repeat (first | exact Below.refl _ _ | refine below_drewN ?_ _))
set_option maxRecDepth 100000 in
set_option maxHeartbeats 2000000 in
/-- linkworkbase.Rat -/
theorem b_rat (w : World) (b : Bool) (A : Option Addr) (n c : Nat) (D : Option Addr) (m e : Nat) (b' : Bool) (A' : Option Addr) (n' c' : Nat) (D' : Option Addr) (m' e' : Nat) (q : Rat) (k k' : Nat) (h : QV w b A n c D m e q k) (h' : QV w b' A' n' c' D' m' e' q k') (hk : k ≤ 1000000) :
    Calls Tryz.prog 15 #[.agg #[.bool b, .slice A n c, .slice D m e], .agg #[.bool b', .slice A' n' c', .slice D' m' e']] w (RetV w (.bool true)) := by
  obtain ⟨e1, ha, hd, hk1, hk2⟩ := h
  obtain ⟨e1', ha', hd', _, _⟩ := h'
  subst e1 e1'
  have HE : ((rd q).neg == (rd q).neg) = true := by simp
  have HA := Lib.hid (And.intro ha ha')
  have HD := Lib.hid (And.intro hd hd')
  clear ha ha' hd hd'
  go_enter Tryz.func15, Tryz.ntmps15
  go_wp2_with fail
  (with_reducible refine (b_words _ A n c (rd q).num ?_ A' n' c' ?_ ?_).mono ?_); (exact HA.out.1.keep (((Kp.refl _).alloc _).alloc _)); (exact HA.out.2.keep (((Kp.refl _).alloc _).alloc _)); (omega); rintro e w1 ⟨rfl, hb⟩
  have q1 : Below w.heap.size w w1 := (((Below.refl _ _).alloc (Nat.le_refl _) _).alloc (by simp) _).trans (hb.mono (by simp <;> omega))
  have x0 : Blk w1 w.heap.size 24 #[.bool (rd q).neg, .slice A n c, .slice D m e] := ((blkAt w _ _ rfl).alloc _).below hb (by simp <;> omega)
  have x1 : Blk w1 (w.heap.size + 1) 24 #[.bool (rd q).neg, .slice A' n' c', .slice D' m' e'] := (blkAt _ _ _ (by simp)).below hb (by simp)
  have c02 : w1.cell? ⟨w.heap.size, 2, none⟩ = some (.slice D m e) := x0.cell 2
  have c12 : w1.cell? ⟨w.heap.size + 1, 2, none⟩ = some (.slice D' m' e') := x1.cell 2
  clear hb
  go_wp2_with fail
  (with_reducible refine (b_words _ D m e (rd q).den ?_ D' m' e' ?_ ?_).mono ?_); (exact HD.out.1.belw q1); (exact HD.out.2.belw q1); (omega); rintro e w2 ⟨rfl, hb2⟩
  go_wp2_with fail
  go_ret
  exact ⟨rfl, q1.trans (hb2.mono q1.size)⟩
end Go.Proofs.YtpnnfbodphflpaaGreatDoor
