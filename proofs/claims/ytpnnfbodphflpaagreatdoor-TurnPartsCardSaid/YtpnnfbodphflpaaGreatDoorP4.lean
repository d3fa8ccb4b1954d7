/- Part P4: lemmas and walks that the claim rests on. No claim is made here. -/
import Derived.Deep.RegionHeld3
import Derived.Deep.DrawnRows
import Derived.Deep.RegionHeld
import Derived.Deep.DeepCutAuto
import Derived.BigQuiet
import Derived.Test.YtpnnfbodphflpaaGreatDoorP3
set_option linter.unusedVariables false
/- Walks: fractions, sums and products. -/
namespace Go.Proofs.YtpnnfbodphflpaaGreatDoor
open Go Go.RowKit Bn
attribute [local go_sem ↓] Go.wp_at_zero Go.wp_at_succ
set_option maxHeartbeats 2000000 in
/-- fraction.Of -/
theorem f_of (w : World) (i : Int) (hi : -4294967296 < i) (hi2 : i < 4294967296) :
    Calls Tryz.prog 81 #[.int .i64 i] w (RetF w (i : Rat) 1) := by
  go_enter Tryz.func81, Tryz.ntmps81
  go_wp2_with fail
  (with_reducible refine (i_of1 _ (i) ?_ ?_).mono ?_); (first | omega | decide | assumption); (first | omega | decide | assumption); rintro e w1 ⟨b1, A1, n1, c1, rfl, h1, hb1⟩
  have q1 : Below w.heap.size w w1 := ((Below.refl _ _).alloc (Nat.le_refl _) _).trans (hb1.mono (by simp))
  have x1_0 : Blk w1 (w.heap.size) 24 #[.bool false, .slice none 0 0, .slice none 0 0] := (blkAt _ _ _ (by simp)).below hb1 (by simp)
  have bw1 : Below w.heap.size w w1 := (brefl w).trans (q1.mono (brefl w).size)
  have lw1 : w.heap.size + 1 ≤ w1.heap.size := by have := hb1.size; simp at this; omega
  clear hb1 q1
  go_wp2_with fail
  (with_reducible refine (f_one _).mono ?_); rintro e w2 ⟨b2, A2, n2, c2, rfl, h2, hb2⟩
  have q2 : Below w1.heap.size w1 w2 := hb2
  replace h1 := h1.belw q2
  replace x1_0 := x1_0.below q2 x1_0.lt
  have bw2 : Below w.heap.size w w2 := bw1.trans (q2.mono bw1.size)
  have lw2 : w1.heap.size ≤ w2.heap.size := q2.size
  clear hb2 q2 bw1
  go_wp2_with fail
  (with_reducible refine (f_form _ b1 A1 n1 c1 (i) (1) ?_ b2 A2 n2 c2 (1) (1) ?_ ((i : Rat)) (1) ?_ ?_ ?_ ?_).mono ?_); (exact h1.iz); (exact h2.iz); (decide); (exact int_q i); (exact Sz_int (by omega) (by decide)); (decide); rintro e w3 ⟨b3, A3, n3, c3, A'3, n'3, c'3, rfl, h3, hb3⟩
  have q3 : Below w2.heap.size w2 w3 := hb3
  replace h1 := h1.belw q3
  replace h2 := h2.belw q3
  replace x1_0 := x1_0.below q3 x1_0.lt
  have bw3 : Below w.heap.size w w3 := bw2.trans (q3.mono bw2.size)
  have lw3 : w2.heap.size ≤ w3.heap.size := q3.size
  clear hb3 q3 bw2
  obtain ⟨cx1_0_0, cx1_0_1, cx1_0_2⟩ := x1_0.c3
  obtain ⟨fx1_0_0, fx1_0_1, fx1_0_2⟩ := x1_0.f3
  obtain ⟨lx1_0_0, lx1_0_1, lx1_0_2, lx1_0_3⟩ := lts0 x1_0.lt
  go_wp2_with fail
  refine bodyPost_ret (v := .agg #[.bool b3, .slice A3 n3 c3, .slice A'3 n'3 c'3]) (by simp [results, Tryz.results81, go_sem, *] <;> first | rfl | exact ⟨rfl, rfl⟩) rfl ?_
  exact ⟨b3, A3, n3, c3, A'3, n'3, c'3, rfl, h3.keep ((((Kp.refl w3).setB (p := ⟨w.heap.size, 0, none⟩) x1_0.box (by decide) (.bool b3)).setB (p := ⟨w.heap.size, 1, none⟩) (x1_0.box.set ⟨w.heap.size, 0, none⟩ (.bool b3)) (by decide) (.slice A3 n3 c3)).setB (p := ⟨w.heap.size, 2, none⟩) ((x1_0.box.set ⟨w.heap.size, 0, none⟩ (.bool b3)).set ⟨w.heap.size, 1, none⟩ (.slice A3 n3 c3)) (by decide) (.slice A'3 n'3 c'3)), (((bw3.setCell (p := ⟨w.heap.size, 0, none⟩) (by dsimp only; omega) (.bool b3)).setCell (p := ⟨w.heap.size, 1, none⟩) (by dsimp only; omega) (.slice A3 n3 c3)).setCell (p := ⟨w.heap.size, 2, none⟩) (by dsimp only; omega) (.slice A'3 n'3 c'3))⟩
set_option maxHeartbeats 2000000 in
/-- fraction.Sign -/
theorem f_sign (w : World) (b : Bool) (A : Option Addr) (n c : Nat) (D : Option Addr) (m e : Nat) (q : Rat) (k : Nat) (h : QZ w b A n c D m e q k) (h0 : 0 < k) (hk : k ≤ 40000000) :
    Calls Tryz.prog 40 #[.agg #[.bool b, .slice A n c, .slice D m e]] w (RetV w (.int .i64 q.num.sign)) := by
  go_enter Tryz.func40, Tryz.ntmps40
  go_wp2_with fail
  (with_reducible refine (f_parts _ b A n c D m e (q) (k) ?_ ?_ ?_).mono ?_); (exact (h.belw ((Below.refl _ _).alloc (Nat.le_refl _) _))); (first | omega | decide | assumption); (first | omega | decide | assumption); rintro e w1 ⟨b1, A1, n1, c1, b'1, A'1, n'1, c'1, rfl, h1, h'1, hb1⟩
  have q1 : Below w.heap.size w w1 := ((Below.refl _ _).alloc (Nat.le_refl _) _).trans (hb1.mono (by simp))
  replace h := h.belw q1
  have x1_0 : Blk w1 (w.heap.size) 24 #[.bool b, .slice A n c, .slice D m e] := (blkAt _ _ _ (by simp)).below hb1 (by simp)
  have bw1 : Below w.heap.size w w1 := (brefl w).trans (q1.mono (brefl w).size)
  have lw1 : w.heap.size + 1 ≤ w1.heap.size := by have := hb1.size; simp at this; omega
  clear hb1 q1
  go_wp2_with fail
  (with_reducible refine (i_sign _ b1 A1 n1 c1 ((q).num) ((k)) ?_ ?_).mono ?_); (exact (h1.belw (((Below.refl _ _).alloc (Nat.le_refl _) _).alloc (by simp) _)).iz); (first | omega | decide | assumption); rintro e w2 ⟨rfl, hb2⟩
  have q2 : Below w1.heap.size w1 w2 := (((Below.refl _ _).alloc (Nat.le_refl _) _).alloc (by simp) _).trans (hb2.mono (by simp <;> omega))
  replace h := h.belw q2
  replace h1 := h1.belw q2
  replace h'1 := h'1.belw q2
  replace x1_0 := x1_0.below q2 x1_0.lt
  have x2_0 : Blk w2 (w1.heap.size) 48 #[.bool b1, .slice A1 n1 c1] := ((blkAt _ _ _ (by simp)).alloc _).below hb2 (by simp <;> omega)
  have x2_1 : Blk w2 (w1.heap.size + 1) 48 #[.bool b'1, .slice A'1 n'1 c'1] := (blkAt _ _ _ (by simp)).below hb2 (by simp)
  have bw2 : Below w.heap.size w w2 := bw1.trans (q2.mono bw1.size)
  have lw2 : w1.heap.size + 2 ≤ w2.heap.size := by have := hb2.size; simp at this; omega
  clear hb2 q2 bw1
  go_wp2_with fail
  go_ret
  exact retI rfl bw2
set_option maxHeartbeats 2000000 in
/-- fraction.Neg -/
theorem f_neg (w : World) (b : Bool) (A : Option Addr) (n c : Nat) (D : Option Addr) (m e : Nat) (q : Rat) (k : Nat) (h : QZ w b A n c D m e q k) (h0 : 0 < k) (hk : k ≤ 40000000) :
    Calls Tryz.prog 86 #[.agg #[.bool b, .slice A n c, .slice D m e]] w (RetF w (-q) k) := by
  have HS := Lib.hid (h.sz h0)
  go_enter Tryz.func86, Tryz.ntmps86
  go_wp2_with fail
  (with_reducible refine (f_parts _ b A n c D m e (q) (k) ?_ ?_ ?_).mono ?_); (exact (h.belw (((Below.refl _ _).alloc (Nat.le_refl _) _).alloc (by simp) _))); (first | omega | decide | assumption); (first | omega | decide | assumption); rintro e w1 ⟨b1, A1, n1, c1, b'1, A'1, n'1, c'1, rfl, h1, h'1, hb1⟩
  have q1 : Below w.heap.size w w1 := (((Below.refl _ _).alloc (Nat.le_refl _) _).alloc (by simp) _).trans (hb1.mono (by simp <;> omega))
  replace h := h.belw q1
  have x1_0 : Blk w1 (w.heap.size) 24 #[.bool b, .slice A n c, .slice D m e] := ((blkAt _ _ _ (by simp)).alloc _).below hb1 (by simp <;> omega)
  have x1_1 : Blk w1 (w.heap.size + 1) 24 #[.bool false, .slice none 0 0, .slice none 0 0] := (blkAt _ _ _ (by simp)).below hb1 (by simp)
  have bw1 : Below w.heap.size w w1 := (brefl w).trans (q1.mono (brefl w).size)
  have lw1 : w.heap.size + 2 ≤ w1.heap.size := by have := hb1.size; simp at this; omega
  clear hb1 q1
  go_wp2_with fail
  have p2 : Kp w1 ((w1.alloc (.cells #[.bool b1, .slice A1 n1 c1] 48)).alloc (.cells #[.bool b'1, .slice A'1 n'1 c'1] 48)) := (((Kp.refl w1).alloc (.cells #[.bool b1, .slice A1 n1 c1] 48)).alloc (.cells #[.bool b'1, .slice A'1 n'1 c'1] 48))
  have bw2 : Below w.heap.size w ((w1.alloc (.cells #[.bool b1, .slice A1 n1 c1] 48)).alloc (.cells #[.bool b'1, .slice A'1 n'1 c'1] 48)) := ((bw1.alloc (by first | omega | (simp <;> omega)) (.cells #[.bool b1, .slice A1 n1 c1] 48)).alloc (by first | omega | (simp <;> omega)) (.cells #[.bool b'1, .slice A'1 n'1 c'1] 48))
  have x2_0 : Blk ((w1.alloc (.cells #[.bool b1, .slice A1 n1 c1] 48)).alloc (.cells #[.bool b'1, .slice A'1 n'1 c'1] 48)) (w1.heap.size) 48 #[.bool b1, .slice A1 n1 c1] := ((blkAt _ _ _ (by simp)).alloc (.cells #[.bool b'1, .slice A'1 n'1 c'1] 48))
  have x2_1 : Blk ((w1.alloc (.cells #[.bool b1, .slice A1 n1 c1] 48)).alloc (.cells #[.bool b'1, .slice A'1 n'1 c'1] 48)) (w1.heap.size + 1) 48 #[.bool b'1, .slice A'1 n'1 c'1] := (blkAt _ _ _ (by simp))
  replace x1_0 : Blk ((w1.alloc (.cells #[.bool b1, .slice A1 n1 c1] 48)).alloc (.cells #[.bool b'1, .slice A'1 n'1 c'1] 48)) (w.heap.size) 24 #[.bool b, .slice A n c, .slice D m e] := ((x1_0.alloc (.cells #[.bool b1, .slice A1 n1 c1] 48)).alloc (.cells #[.bool b'1, .slice A'1 n'1 c'1] 48))
  replace x1_1 : Blk ((w1.alloc (.cells #[.bool b1, .slice A1 n1 c1] 48)).alloc (.cells #[.bool b'1, .slice A'1 n'1 c'1] 48)) (w.heap.size + 1) 24 #[.bool false, .slice none 0 0, .slice none 0 0] := ((x1_1.alloc (.cells #[.bool b1, .slice A1 n1 c1] 48)).alloc (.cells #[.bool b'1, .slice A'1 n'1 c'1] 48))
  have lw2 : w1.heap.size + 2 ≤ ((w1.alloc (.cells #[.bool b1, .slice A1 n1 c1] 48)).alloc (.cells #[.bool b'1, .slice A'1 n'1 c'1] 48)).heap.size := by simp
  generalize hE2 : ((w1.alloc (.cells #[.bool b1, .slice A1 n1 c1] 48)).alloc (.cells #[.bool b'1, .slice A'1 n'1 c'1] 48)) = w2 at p2 bw2 lw2 x2_0 x2_1 x1_0 x1_1 ⊢
  clear hE2
  replace h := h.keep p2
  replace h1 := h1.keep p2
  replace h'1 := h'1.keep p2
  clear bw1
  obtain ⟨lx1_0_0, lx1_0_1, lx1_0_2, lx1_0_3⟩ := lts0 x1_0.lt
  have cx1_1_0 : w2.cell? ⟨w.heap.size + 1, 0, none⟩ = some (.bool false) := x1_1.cell 0
  have fx1_1_0 : w2.frozen? ⟨w.heap.size + 1, 0, none⟩ = false := x1_1.frozen 0
  have cx1_1_1 : w2.cell? ⟨w.heap.size + 1, 1, none⟩ = some (.slice none 0 0) := x1_1.cell 1
  have fx1_1_1 : w2.frozen? ⟨w.heap.size + 1, 1, none⟩ = false := x1_1.frozen 1
  have cx1_1_2 : w2.cell? ⟨w.heap.size + 1, 2, none⟩ = some (.slice none 0 0) := x1_1.cell 2
  have fx1_1_2 : w2.frozen? ⟨w.heap.size + 1, 2, none⟩ = false := x1_1.frozen 2
  obtain ⟨lx1_1_0, lx1_1_1, lx1_1_2, lx1_1_3⟩ := lts1 x1_1.lt
  obtain ⟨cx2_0_0, cx2_0_1⟩ := x2_0.c2
  obtain ⟨lx2_0_0, lx2_0_1, lx2_0_2, lx2_0_3⟩ := lts0 x2_0.lt
  obtain ⟨cx2_1_0, cx2_1_1⟩ := x2_1.c2
  obtain ⟨lx2_1_0, lx2_1_1, lx2_1_2, lx2_1_3⟩ := lts1 x2_1.lt
  have nfx1_0 : ¬ w.heap.size = w.heap.size + 1 := by omega
  have nex1_0 : ¬ w.heap.size = w.heap.size + 1 := by omega
  have nfx2_0 : ¬ w1.heap.size = w.heap.size + 1 := by omega
  have nex2_0 : ¬ w1.heap.size = w.heap.size + 1 := by omega
  have nfx2_1 : ¬ w1.heap.size + 1 = w.heap.size + 1 := by omega
  have nex2_1 : ¬ w1.heap.size = w.heap.size := by omega
  go_region_held3 (fun w' => SeesX w2.heap.size (w.heap.size + 1) w2 w') (first | with_reducible exact SeesX.of (Nat.le_refl _) (by assumption) | with_reducible exact SeesX.of (Nat.le_refl _) (brefl _).drew | with_reducible exact (SeesX.set (SeesX.set (SeesX.set (SeesX.of (Nat.le_refl _) (by assumption))))) | with_reducible exact (SeesX.set (SeesX.set (SeesX.of (Nat.le_refl _) (by assumption)))) | with_reducible exact (SeesX.set (SeesX.of (Nat.le_refl _) (by assumption))) | exact SeesX.of (Nat.le_refl _) (below_drewN (brefl _) 1) | exact SeesX.of (Nat.le_refl _) (below_drewN (by assumption) _))
    (first
      | (go_at_call 129; (with_reducible refine (i_neg _ b1 A1 n1 c1 ((q).num) ((k)) ?_ ?_).mono ?_); (exact h1.iz); (first | omega | decide | assumption); rintro e w3 ⟨b3, A3, n3, c3, rfl, h3, hb3⟩; replace hb3 := bnext (below_drewN (brefl _) 1) hb3; have q3 : Below w2.heap.size w2 w3 := bnext (brefl w2) hb3; replace h := h.belw hb3; replace h1 := h1.belw hb3; replace h'1 := h'1.belw hb3)
      | (go_at_call 125; (with_reducible refine (f_form _ b3 A3 n3 c3 (-((q).num)) (((k))) ?_ b'1 A'1 n'1 c'1 (((q).den : Int)) ((k)) ?_ (-q) (k) ?_ ?_ ?_ ?_).mono ?_); (exact h3.iz); (exact h'1.iz); (exact den_ne _); (exact (neg_q q).symm); (exact Sz_neg HS.out); (omega); rintro e w4 ⟨b4, A4, n4, c4, A'4, n'4, c'4, rfl, h4, hb4⟩; have q4 : Below w2.heap.size w2 w4 := bnext q3 hb4; replace h := h.belw hb4; replace h1 := h1.belw hb4; replace h'1 := h'1.belw hb4; replace h3 := h3.belw hb4; have x1_1 : Blk w4 (w.heap.size + 1) 24 #[.bool false, .slice none 0 0, .slice none 0 0] := x1_1.below q4 x1_1.lt; obtain ⟨cx1_1_0, cx1_1_1, cx1_1_2⟩ := x1_1.c3; obtain ⟨fx1_1_0, fx1_1_1, fx1_1_2⟩ := x1_1.f3))
  have bw4 : Below w.heap.size w w4 := bw2.trans (q4.mono bw2.size)
  clear lx1_0_0 lx1_0_1 lx1_0_2 lx1_0_3 cx1_1_0 fx1_1_0 cx1_1_1 fx1_1_1 cx1_1_2 fx1_1_2 lx1_1_0 lx1_1_1 lx1_1_2 lx1_1_3 cx2_0_0 cx2_0_1 lx2_0_0 lx2_0_1 lx2_0_2 lx2_0_3 cx2_1_0 cx2_1_1 lx2_1_0 lx2_1_1 lx2_1_2 lx2_1_3
  replace x1_0 := x1_0.below q4 x1_0.lt
  replace x2_0 := x2_0.below q4 x2_0.lt
  replace x2_1 := x2_1.below q4 x2_1.lt
  have lw4 : w2.heap.size ≤ w4.heap.size := q4.size
  obtain ⟨cx1_1_0, cx1_1_1, cx1_1_2⟩ := x1_1.c3
  obtain ⟨fx1_1_0, fx1_1_1, fx1_1_2⟩ := x1_1.f3
  go_wp2_with fail
  refine bodyPost_ret (v := .agg #[.bool b4, .slice A4 n4 c4, .slice A'4 n'4 c'4]) (by simp [results, Tryz.results86, go_sem, *] <;> first | rfl | exact ⟨rfl, rfl⟩) rfl ?_
  exact ⟨b4, A4, n4, c4, A'4, n'4, c'4, rfl, h4.keep ((((Kp.refl w4).setB (p := ⟨w.heap.size + 1, 0, none⟩) x1_1.box (by decide) (.bool b4)).setB (p := ⟨w.heap.size + 1, 1, none⟩) (x1_1.box.set ⟨w.heap.size + 1, 0, none⟩ (.bool b4)) (by decide) (.slice A4 n4 c4)).setB (p := ⟨w.heap.size + 1, 2, none⟩) ((x1_1.box.set ⟨w.heap.size + 1, 0, none⟩ (.bool b4)).set ⟨w.heap.size + 1, 1, none⟩ (.slice A4 n4 c4)) (by decide) (.slice A'4 n'4 c'4)), (((bw4.setCell (p := ⟨w.heap.size + 1, 0, none⟩) (by dsimp only; omega) (.bool b4)).setCell (p := ⟨w.heap.size + 1, 1, none⟩) (by dsimp only; omega) (.slice A4 n4 c4)).setCell (p := ⟨w.heap.size + 1, 2, none⟩) (by dsimp only; omega) (.slice A'4 n'4 c'4))⟩
set_option maxHeartbeats 2000000 in
/-- fraction.Add -/
theorem f_add (w : World) (b : Bool) (A : Option Addr) (n c : Nat) (D : Option Addr) (m e : Nat) (q : Rat) (k : Nat) (h : QZ w b A n c D m e q k) (b' : Bool) (A' : Option Addr) (n' c' : Nat) (D' : Option Addr) (m' e' : Nat) (q' : Rat) (k' : Nat) (h' : QZ w b' A' n' c' D' m' e' q' k') (h0 : 0 < k) (hk : k ≤ 40000000) (h0' : 0 < k') (hk' : k' ≤ 40000000) :
    Calls Tryz.prog 83 #[.agg #[.bool b, .slice A n c, .slice D m e], .agg #[.bool b', .slice A' n' c', .slice D' m' e']] w (RetF w (q + q') (k + k' + 1)) := by
  have HS := Lib.hid (h.sz h0)
  have HS' := Lib.hid (h'.sz h0')
  go_enter Tryz.func83, Tryz.ntmps83
  go_wp2_with fail
  (with_reducible refine (f_parts _ b A n c D m e (q) (k) ?_ ?_ ?_).mono ?_); (exact (h.belw ((((Below.refl _ _).alloc (Nat.le_refl _) _).alloc (by simp) _).alloc (by simp <;> omega) _))); (first | omega | decide | assumption); (first | omega | decide | assumption); rintro e w1 ⟨b1, A1, n1, c1, b'1, A'1, n'1, c'1, rfl, h1, h'1, hb1⟩
  have q1 : Below w.heap.size w w1 := ((((Below.refl _ _).alloc (Nat.le_refl _) _).alloc (by simp) _).alloc (by simp <;> omega) _).trans (hb1.mono (by simp <;> omega))
  replace h := h.belw q1
  replace h' := h'.belw q1
  have x1_0 : Blk w1 (w.heap.size) 24 #[.bool b, .slice A n c, .slice D m e] := (((blkAt _ _ _ (by simp)).alloc _).alloc _).below hb1 (by simp <;> omega)
  have x1_1 : Blk w1 (w.heap.size + 1) 24 #[.bool b', .slice A' n' c', .slice D' m' e'] := ((blkAt _ _ _ (by simp)).alloc _).below hb1 (by simp <;> omega)
  have x1_2 : Blk w1 (w.heap.size + 1 + 1) 24 #[.bool false, .slice none 0 0, .slice none 0 0] := (blkAt _ _ _ (by simp)).below hb1 (by simp)
  have bw1 : Below w.heap.size w w1 := (brefl w).trans (q1.mono (brefl w).size)
  have lw1 : w.heap.size + 3 ≤ w1.heap.size := by have := hb1.size; simp at this; omega
  clear hb1 q1
  obtain ⟨cx1_1_0, cx1_1_1, cx1_1_2⟩ := x1_1.c3
  obtain ⟨lx1_1_0, lx1_1_1, lx1_1_2, lx1_1_3⟩ := lts1 x1_1.lt
  go_wp2_with fail
  (with_reducible refine (f_parts _ b' A' n' c' D' m' e' (q') (k') ?_ ?_ ?_).mono ?_); (exact (h'.belw (((Below.refl _ _).alloc (Nat.le_refl _) _).alloc (by simp) _))); (first | omega | decide | assumption); (first | omega | decide | assumption); rintro e w2 ⟨b2, A2, n2, c2, b'2, A'2, n'2, c'2, rfl, h2, h'2, hb2⟩
  clear cx1_1_0 cx1_1_1 cx1_1_2 lx1_1_0 lx1_1_1 lx1_1_2 lx1_1_3
  have q2 : Below w1.heap.size w1 w2 := (((Below.refl _ _).alloc (Nat.le_refl _) _).alloc (by simp) _).trans (hb2.mono (by simp <;> omega))
  replace h := h.belw q2
  replace h' := h'.belw q2
  replace h1 := h1.belw q2
  replace h'1 := h'1.belw q2
  replace x1_0 := x1_0.below q2 x1_0.lt
  replace x1_1 := x1_1.below q2 x1_1.lt
  replace x1_2 := x1_2.below q2 x1_2.lt
  have x2_0 : Blk w2 (w1.heap.size) 48 #[.bool b1, .slice A1 n1 c1] := ((blkAt _ _ _ (by simp)).alloc _).below hb2 (by simp <;> omega)
  have x2_1 : Blk w2 (w1.heap.size + 1) 48 #[.bool b'1, .slice A'1 n'1 c'1] := (blkAt _ _ _ (by simp)).below hb2 (by simp)
  have bw2 : Below w.heap.size w w2 := bw1.trans (q2.mono bw1.size)
  have lw2 : w1.heap.size + 2 ≤ w2.heap.size := by have := hb2.size; simp at this; omega
  clear hb2 q2 bw1
  go_wp2_with fail
  have p3 : Kp w2 ((w2.alloc (.cells #[.bool b2, .slice A2 n2 c2] 48)).alloc (.cells #[.bool b'2, .slice A'2 n'2 c'2] 48)) := (((Kp.refl w2).alloc (.cells #[.bool b2, .slice A2 n2 c2] 48)).alloc (.cells #[.bool b'2, .slice A'2 n'2 c'2] 48))
  have bw3 : Below w.heap.size w ((w2.alloc (.cells #[.bool b2, .slice A2 n2 c2] 48)).alloc (.cells #[.bool b'2, .slice A'2 n'2 c'2] 48)) := ((bw2.alloc (by first | omega | (simp <;> omega)) (.cells #[.bool b2, .slice A2 n2 c2] 48)).alloc (by first | omega | (simp <;> omega)) (.cells #[.bool b'2, .slice A'2 n'2 c'2] 48))
  have x3_0 : Blk ((w2.alloc (.cells #[.bool b2, .slice A2 n2 c2] 48)).alloc (.cells #[.bool b'2, .slice A'2 n'2 c'2] 48)) (w2.heap.size) 48 #[.bool b2, .slice A2 n2 c2] := ((blkAt _ _ _ (by simp)).alloc (.cells #[.bool b'2, .slice A'2 n'2 c'2] 48))
  have x3_1 : Blk ((w2.alloc (.cells #[.bool b2, .slice A2 n2 c2] 48)).alloc (.cells #[.bool b'2, .slice A'2 n'2 c'2] 48)) (w2.heap.size + 1) 48 #[.bool b'2, .slice A'2 n'2 c'2] := (blkAt _ _ _ (by simp))
  replace x1_0 : Blk ((w2.alloc (.cells #[.bool b2, .slice A2 n2 c2] 48)).alloc (.cells #[.bool b'2, .slice A'2 n'2 c'2] 48)) (w.heap.size) 24 #[.bool b, .slice A n c, .slice D m e] := ((x1_0.alloc (.cells #[.bool b2, .slice A2 n2 c2] 48)).alloc (.cells #[.bool b'2, .slice A'2 n'2 c'2] 48))
  replace x1_1 : Blk ((w2.alloc (.cells #[.bool b2, .slice A2 n2 c2] 48)).alloc (.cells #[.bool b'2, .slice A'2 n'2 c'2] 48)) (w.heap.size + 1) 24 #[.bool b', .slice A' n' c', .slice D' m' e'] := ((x1_1.alloc (.cells #[.bool b2, .slice A2 n2 c2] 48)).alloc (.cells #[.bool b'2, .slice A'2 n'2 c'2] 48))
  replace x1_2 : Blk ((w2.alloc (.cells #[.bool b2, .slice A2 n2 c2] 48)).alloc (.cells #[.bool b'2, .slice A'2 n'2 c'2] 48)) (w.heap.size + 1 + 1) 24 #[.bool false, .slice none 0 0, .slice none 0 0] := ((x1_2.alloc (.cells #[.bool b2, .slice A2 n2 c2] 48)).alloc (.cells #[.bool b'2, .slice A'2 n'2 c'2] 48))
  replace x2_0 : Blk ((w2.alloc (.cells #[.bool b2, .slice A2 n2 c2] 48)).alloc (.cells #[.bool b'2, .slice A'2 n'2 c'2] 48)) (w1.heap.size) 48 #[.bool b1, .slice A1 n1 c1] := ((x2_0.alloc (.cells #[.bool b2, .slice A2 n2 c2] 48)).alloc (.cells #[.bool b'2, .slice A'2 n'2 c'2] 48))
  replace x2_1 : Blk ((w2.alloc (.cells #[.bool b2, .slice A2 n2 c2] 48)).alloc (.cells #[.bool b'2, .slice A'2 n'2 c'2] 48)) (w1.heap.size + 1) 48 #[.bool b'1, .slice A'1 n'1 c'1] := ((x2_1.alloc (.cells #[.bool b2, .slice A2 n2 c2] 48)).alloc (.cells #[.bool b'2, .slice A'2 n'2 c'2] 48))
  have lw3 : w2.heap.size + 2 ≤ ((w2.alloc (.cells #[.bool b2, .slice A2 n2 c2] 48)).alloc (.cells #[.bool b'2, .slice A'2 n'2 c'2] 48)).heap.size := by simp
  generalize hE3 : ((w2.alloc (.cells #[.bool b2, .slice A2 n2 c2] 48)).alloc (.cells #[.bool b'2, .slice A'2 n'2 c'2] 48)) = w3 at p3 bw3 lw3 x3_0 x3_1 x1_0 x1_1 x1_2 x2_0 x2_1 ⊢
  clear hE3
  replace h := h.keep p3
  replace h' := h'.keep p3
  replace h1 := h1.keep p3
  replace h'1 := h'1.keep p3
  replace h2 := h2.keep p3
  replace h'2 := h'2.keep p3
  clear bw2
  obtain ⟨lx1_0_0, lx1_0_1, lx1_0_2, lx1_0_3⟩ := lts0 x1_0.lt
  obtain ⟨lx1_1_0, lx1_1_1, lx1_1_2, lx1_1_3⟩ := lts1 x1_1.lt
  have cx1_2_0 : w3.cell? ⟨w.heap.size + 1 + 1, 0, none⟩ = some (.bool false) := x1_2.cell 0
  have fx1_2_0 : w3.frozen? ⟨w.heap.size + 1 + 1, 0, none⟩ = false := x1_2.frozen 0
  have cx1_2_1 : w3.cell? ⟨w.heap.size + 1 + 1, 1, none⟩ = some (.slice none 0 0) := x1_2.cell 1
  have fx1_2_1 : w3.frozen? ⟨w.heap.size + 1 + 1, 1, none⟩ = false := x1_2.frozen 1
  have cx1_2_2 : w3.cell? ⟨w.heap.size + 1 + 1, 2, none⟩ = some (.slice none 0 0) := x1_2.cell 2
  have fx1_2_2 : w3.frozen? ⟨w.heap.size + 1 + 1, 2, none⟩ = false := x1_2.frozen 2
  obtain ⟨lx1_2_0, lx1_2_1, lx1_2_2, lx1_2_3⟩ := lts2 x1_2.lt
  obtain ⟨cx2_0_0, cx2_0_1⟩ := x2_0.c2
  obtain ⟨lx2_0_0, lx2_0_1, lx2_0_2, lx2_0_3⟩ := lts0 x2_0.lt
  obtain ⟨cx2_1_0, cx2_1_1⟩ := x2_1.c2
  obtain ⟨lx2_1_0, lx2_1_1, lx2_1_2, lx2_1_3⟩ := lts1 x2_1.lt
  obtain ⟨cx3_0_0, cx3_0_1⟩ := x3_0.c2
  obtain ⟨lx3_0_0, lx3_0_1, lx3_0_2, lx3_0_3⟩ := lts0 x3_0.lt
  obtain ⟨cx3_1_0, cx3_1_1⟩ := x3_1.c2
  obtain ⟨lx3_1_0, lx3_1_1, lx3_1_2, lx3_1_3⟩ := lts1 x3_1.lt
  have nfx1_0 : ¬ w.heap.size = w.heap.size + 1 + 1 := by omega
  have nex1_0 : ¬ w.heap.size = w.heap.size + 2 := by omega
  have nfx1_1 : ¬ w.heap.size + 1 = w.heap.size + 1 + 1 := by omega
  have nex1_1 : ¬ w.heap.size = w.heap.size + 1 := by omega
  have nfx2_0 : ¬ w1.heap.size = w.heap.size + 1 + 1 := by omega
  have nex2_0 : ¬ w1.heap.size = w.heap.size + 2 := by omega
  have nfx2_1 : ¬ w1.heap.size + 1 = w.heap.size + 1 + 1 := by omega
  have nex2_1 : ¬ w1.heap.size = w.heap.size + 1 := by omega
  have nfx3_0 : ¬ w2.heap.size = w.heap.size + 1 + 1 := by omega
  have nex3_0 : ¬ w2.heap.size = w.heap.size + 2 := by omega
  have nfx3_1 : ¬ w2.heap.size + 1 = w.heap.size + 1 + 1 := by omega
  have nex3_1 : ¬ w2.heap.size = w.heap.size + 1 := by omega
  go_region_held3 (fun w' => SeesX w3.heap.size (w.heap.size + 1 + 1) w3 w') (first | with_reducible exact SeesX.of (Nat.le_refl _) (by assumption) | with_reducible exact SeesX.of (Nat.le_refl _) (brefl _).drew | with_reducible exact (SeesX.set (SeesX.set (SeesX.set (SeesX.of (Nat.le_refl _) (by assumption))))) | with_reducible exact (SeesX.set (SeesX.set (SeesX.of (Nat.le_refl _) (by assumption)))) | with_reducible exact (SeesX.set (SeesX.of (Nat.le_refl _) (by assumption))) | exact SeesX.of (Nat.le_refl _) (below_drewN (brefl _) 1) | exact SeesX.of (Nat.le_refl _) (below_drewN (by assumption) _))
    (first
      | (go_at_call 126; (with_reducible refine (i_mul _ b1 A1 n1 c1 ((q).num) ((k)) ?_ b'2 A'2 n'2 c'2 (((q').den : Int)) ((k')) ?_ ?_).mono ?_); (exact h1.iz); (exact h'2.iz); (first | omega | decide | assumption); rintro e w4 ⟨b4, A4, n4, c4, rfl, h4, hb4⟩; replace hb4 := bnext (below_drewN (brefl _) 1) hb4; have q4 : Below w3.heap.size w3 w4 := bnext (brefl w3) hb4; replace h := h.belw hb4; replace h' := h'.belw hb4; replace h1 := h1.belw hb4; replace h'1 := h'1.belw hb4; replace h2 := h2.belw hb4; replace h'2 := h'2.belw hb4)
      | (go_at_call 126; (with_reducible refine (i_mul _ b2 A2 n2 c2 ((q').num) ((k')) ?_ b'1 A'1 n'1 c'1 (((q).den : Int)) ((k)) ?_ ?_).mono ?_); (exact h2.iz); (exact h'1.iz); (first | omega | decide | assumption); rintro e w5 ⟨b5, A5, n5, c5, rfl, h5, hb5⟩; have q5 : Below w3.heap.size w3 w5 := bnext q4 hb5; replace h := h.belw hb5; replace h' := h'.belw hb5; replace h1 := h1.belw hb5; replace h'1 := h'1.belw hb5; replace h2 := h2.belw hb5; replace h'2 := h'2.belw hb5; replace h4 := h4.belw hb5)
      | (go_at_call 127; (with_reducible refine (i_add _ b4 A4 n4 c4 (((q).num) * (((q').den : Int))) (((k)) + ((k'))) ?_ b5 A5 n5 c5 (((q').num) * (((q).den : Int))) (((k')) + ((k))) ?_ ?_).mono ?_); (exact h4.iz); (exact h5.iz); (first | omega | decide | assumption); rintro e w6 ⟨b6, A6, n6, c6, rfl, h6, hb6⟩; have q6 : Below w3.heap.size w3 w6 := bnext q5 hb6; replace h := h.belw hb6; replace h' := h'.belw hb6; replace h1 := h1.belw hb6; replace h'1 := h'1.belw hb6; replace h2 := h2.belw hb6; replace h'2 := h'2.belw hb6; replace h4 := h4.belw hb6; replace h5 := h5.belw hb6)
      | (go_at_call 126; (with_reducible refine (i_mul _ b'1 A'1 n'1 c'1 (((q).den : Int)) ((k)) ?_ b'2 A'2 n'2 c'2 (((q').den : Int)) ((k')) ?_ ?_).mono ?_); (exact h'1.iz); (exact h'2.iz); (first | omega | decide | assumption); rintro e w7 ⟨b7, A7, n7, c7, rfl, h7, hb7⟩; have q7 : Below w3.heap.size w3 w7 := bnext q6 hb7; replace h := h.belw hb7; replace h' := h'.belw hb7; replace h1 := h1.belw hb7; replace h'1 := h'1.belw hb7; replace h2 := h2.belw hb7; replace h'2 := h'2.belw hb7; replace h4 := h4.belw hb7; replace h5 := h5.belw hb7; replace h6 := h6.belw hb7)
      | (go_at_call 125; (with_reducible refine (f_form _ b6 A6 n6 c6 ((((q).num) * (((q').den : Int))) + (((q').num) * (((q).den : Int)))) ((((k)) + ((k'))) + (((k')) + ((k))) + 1) ?_ b7 A7 n7 c7 ((((q).den : Int)) * (((q').den : Int))) (((k)) + ((k'))) ?_ (q + q') (k + k' + 1) ?_ ?_ ?_ ?_).mono ?_); (exact h6.iz); (exact h7.iz); (exact Int.mul_ne_zero (den_ne _) (den_ne _)); (exact (add_q _ _).symm); (exact Sz_add HS.out HS'.out); (omega); rintro e w8 ⟨b8, A8, n8, c8, A'8, n'8, c'8, rfl, h8, hb8⟩; have q8 : Below w3.heap.size w3 w8 := bnext q7 hb8; replace h := h.belw hb8; replace h' := h'.belw hb8; replace h1 := h1.belw hb8; replace h'1 := h'1.belw hb8; replace h2 := h2.belw hb8; replace h'2 := h'2.belw hb8; replace h4 := h4.belw hb8; replace h5 := h5.belw hb8; replace h6 := h6.belw hb8; replace h7 := h7.belw hb8; have x1_2 : Blk w8 (w.heap.size + 1 + 1) 24 #[.bool false, .slice none 0 0, .slice none 0 0] := x1_2.below q8 x1_2.lt; obtain ⟨cx1_2_0, cx1_2_1, cx1_2_2⟩ := x1_2.c3; obtain ⟨fx1_2_0, fx1_2_1, fx1_2_2⟩ := x1_2.f3))
  have bw8 : Below w.heap.size w w8 := bw3.trans (q8.mono bw3.size)
  clear lx1_0_0 lx1_0_1 lx1_0_2 lx1_0_3 lx1_1_0 lx1_1_1 lx1_1_2 lx1_1_3 cx1_2_0 fx1_2_0 cx1_2_1 fx1_2_1 cx1_2_2 fx1_2_2 lx1_2_0 lx1_2_1 lx1_2_2 lx1_2_3 cx2_0_0 cx2_0_1 lx2_0_0 lx2_0_1 lx2_0_2 lx2_0_3 cx2_1_0 cx2_1_1 lx2_1_0 lx2_1_1 lx2_1_2 lx2_1_3 cx3_0_0 cx3_0_1 lx3_0_0 lx3_0_1 lx3_0_2 lx3_0_3 cx3_1_0 cx3_1_1 lx3_1_0 lx3_1_1 lx3_1_2 lx3_1_3
  replace x1_0 := x1_0.below q8 x1_0.lt
  replace x1_1 := x1_1.below q8 x1_1.lt
  replace x2_0 := x2_0.below q8 x2_0.lt
  replace x2_1 := x2_1.below q8 x2_1.lt
  replace x3_0 := x3_0.below q8 x3_0.lt
  replace x3_1 := x3_1.below q8 x3_1.lt
  have lw8 : w3.heap.size ≤ w8.heap.size := q8.size
  obtain ⟨cx1_2_0, cx1_2_1, cx1_2_2⟩ := x1_2.c3
  obtain ⟨fx1_2_0, fx1_2_1, fx1_2_2⟩ := x1_2.f3
  go_wp2_with fail
  refine bodyPost_ret (v := .agg #[.bool b8, .slice A8 n8 c8, .slice A'8 n'8 c'8]) (by simp [results, Tryz.results83, go_sem, *] <;> first | rfl | exact ⟨rfl, rfl⟩) rfl ?_
  exact ⟨b8, A8, n8, c8, A'8, n'8, c'8, rfl, h8.keep ((((Kp.refl w8).setB (p := ⟨w.heap.size + 1 + 1, 0, none⟩) x1_2.box (by decide) (.bool b8)).setB (p := ⟨w.heap.size + 1 + 1, 1, none⟩) (x1_2.box.set ⟨w.heap.size + 1 + 1, 0, none⟩ (.bool b8)) (by decide) (.slice A8 n8 c8)).setB (p := ⟨w.heap.size + 1 + 1, 2, none⟩) ((x1_2.box.set ⟨w.heap.size + 1 + 1, 0, none⟩ (.bool b8)).set ⟨w.heap.size + 1 + 1, 1, none⟩ (.slice A8 n8 c8)) (by decide) (.slice A'8 n'8 c'8)), (((bw8.setCell (p := ⟨w.heap.size + 1 + 1, 0, none⟩) (by dsimp only; omega) (.bool b8)).setCell (p := ⟨w.heap.size + 1 + 1, 1, none⟩) (by dsimp only; omega) (.slice A8 n8 c8)).setCell (p := ⟨w.heap.size + 1 + 1, 2, none⟩) (by dsimp only; omega) (.slice A'8 n'8 c'8))⟩
set_option maxHeartbeats 2000000 in
/-- fraction.Mul -/
theorem f_mul (w : World) (b : Bool) (A : Option Addr) (n c : Nat) (D : Option Addr) (m e : Nat) (q : Rat) (k : Nat) (h : QZ w b A n c D m e q k) (b' : Bool) (A' : Option Addr) (n' c' : Nat) (D' : Option Addr) (m' e' : Nat) (q' : Rat) (k' : Nat) (h' : QZ w b' A' n' c' D' m' e' q' k') (h0 : 0 < k) (hk : k ≤ 40000000) (h0' : 0 < k') (hk' : k' ≤ 40000000) :
    Calls Tryz.prog 82 #[.agg #[.bool b, .slice A n c, .slice D m e], .agg #[.bool b', .slice A' n' c', .slice D' m' e']] w (RetF w (q * q') (k + k')) := by
  have HS := Lib.hid (h.sz h0)
  have HS' := Lib.hid (h'.sz h0')
  go_enter Tryz.func82, Tryz.ntmps82
  go_wp2_with fail
  (with_reducible refine (f_parts _ b A n c D m e (q) (k) ?_ ?_ ?_).mono ?_); (exact (h.belw ((((Below.refl _ _).alloc (Nat.le_refl _) _).alloc (by simp) _).alloc (by simp <;> omega) _))); (first | omega | decide | assumption); (first | omega | decide | assumption); rintro e w1 ⟨b1, A1, n1, c1, b'1, A'1, n'1, c'1, rfl, h1, h'1, hb1⟩
  have q1 : Below w.heap.size w w1 := ((((Below.refl _ _).alloc (Nat.le_refl _) _).alloc (by simp) _).alloc (by simp <;> omega) _).trans (hb1.mono (by simp <;> omega))
  replace h := h.belw q1
  replace h' := h'.belw q1
  have x1_0 : Blk w1 (w.heap.size) 24 #[.bool b, .slice A n c, .slice D m e] := (((blkAt _ _ _ (by simp)).alloc _).alloc _).below hb1 (by simp <;> omega)
  have x1_1 : Blk w1 (w.heap.size + 1) 24 #[.bool b', .slice A' n' c', .slice D' m' e'] := ((blkAt _ _ _ (by simp)).alloc _).below hb1 (by simp <;> omega)
  have x1_2 : Blk w1 (w.heap.size + 1 + 1) 24 #[.bool false, .slice none 0 0, .slice none 0 0] := (blkAt _ _ _ (by simp)).below hb1 (by simp)
  have bw1 : Below w.heap.size w w1 := (brefl w).trans (q1.mono (brefl w).size)
  have lw1 : w.heap.size + 3 ≤ w1.heap.size := by have := hb1.size; simp at this; omega
  clear hb1 q1
  obtain ⟨cx1_1_0, cx1_1_1, cx1_1_2⟩ := x1_1.c3
  obtain ⟨lx1_1_0, lx1_1_1, lx1_1_2, lx1_1_3⟩ := lts1 x1_1.lt
  go_wp2_with fail
  (with_reducible refine (f_parts _ b' A' n' c' D' m' e' (q') (k') ?_ ?_ ?_).mono ?_); (exact (h'.belw (((Below.refl _ _).alloc (Nat.le_refl _) _).alloc (by simp) _))); (first | omega | decide | assumption); (first | omega | decide | assumption); rintro e w2 ⟨b2, A2, n2, c2, b'2, A'2, n'2, c'2, rfl, h2, h'2, hb2⟩
  clear cx1_1_0 cx1_1_1 cx1_1_2 lx1_1_0 lx1_1_1 lx1_1_2 lx1_1_3
  have q2 : Below w1.heap.size w1 w2 := (((Below.refl _ _).alloc (Nat.le_refl _) _).alloc (by simp) _).trans (hb2.mono (by simp <;> omega))
  replace h := h.belw q2
  replace h' := h'.belw q2
  replace h1 := h1.belw q2
  replace h'1 := h'1.belw q2
  replace x1_0 := x1_0.below q2 x1_0.lt
  replace x1_1 := x1_1.below q2 x1_1.lt
  replace x1_2 := x1_2.below q2 x1_2.lt
  have x2_0 : Blk w2 (w1.heap.size) 48 #[.bool b1, .slice A1 n1 c1] := ((blkAt _ _ _ (by simp)).alloc _).below hb2 (by simp <;> omega)
  have x2_1 : Blk w2 (w1.heap.size + 1) 48 #[.bool b'1, .slice A'1 n'1 c'1] := (blkAt _ _ _ (by simp)).below hb2 (by simp)
  have bw2 : Below w.heap.size w w2 := bw1.trans (q2.mono bw1.size)
  have lw2 : w1.heap.size + 2 ≤ w2.heap.size := by have := hb2.size; simp at this; omega
  clear hb2 q2 bw1
  go_wp2_with fail
  have p3 : Kp w2 ((w2.alloc (.cells #[.bool b2, .slice A2 n2 c2] 48)).alloc (.cells #[.bool b'2, .slice A'2 n'2 c'2] 48)) := (((Kp.refl w2).alloc (.cells #[.bool b2, .slice A2 n2 c2] 48)).alloc (.cells #[.bool b'2, .slice A'2 n'2 c'2] 48))
  have bw3 : Below w.heap.size w ((w2.alloc (.cells #[.bool b2, .slice A2 n2 c2] 48)).alloc (.cells #[.bool b'2, .slice A'2 n'2 c'2] 48)) := ((bw2.alloc (by first | omega | (simp <;> omega)) (.cells #[.bool b2, .slice A2 n2 c2] 48)).alloc (by first | omega | (simp <;> omega)) (.cells #[.bool b'2, .slice A'2 n'2 c'2] 48))
  have x3_0 : Blk ((w2.alloc (.cells #[.bool b2, .slice A2 n2 c2] 48)).alloc (.cells #[.bool b'2, .slice A'2 n'2 c'2] 48)) (w2.heap.size) 48 #[.bool b2, .slice A2 n2 c2] := ((blkAt _ _ _ (by simp)).alloc (.cells #[.bool b'2, .slice A'2 n'2 c'2] 48))
  have x3_1 : Blk ((w2.alloc (.cells #[.bool b2, .slice A2 n2 c2] 48)).alloc (.cells #[.bool b'2, .slice A'2 n'2 c'2] 48)) (w2.heap.size + 1) 48 #[.bool b'2, .slice A'2 n'2 c'2] := (blkAt _ _ _ (by simp))
  replace x1_0 : Blk ((w2.alloc (.cells #[.bool b2, .slice A2 n2 c2] 48)).alloc (.cells #[.bool b'2, .slice A'2 n'2 c'2] 48)) (w.heap.size) 24 #[.bool b, .slice A n c, .slice D m e] := ((x1_0.alloc (.cells #[.bool b2, .slice A2 n2 c2] 48)).alloc (.cells #[.bool b'2, .slice A'2 n'2 c'2] 48))
  replace x1_1 : Blk ((w2.alloc (.cells #[.bool b2, .slice A2 n2 c2] 48)).alloc (.cells #[.bool b'2, .slice A'2 n'2 c'2] 48)) (w.heap.size + 1) 24 #[.bool b', .slice A' n' c', .slice D' m' e'] := ((x1_1.alloc (.cells #[.bool b2, .slice A2 n2 c2] 48)).alloc (.cells #[.bool b'2, .slice A'2 n'2 c'2] 48))
  replace x1_2 : Blk ((w2.alloc (.cells #[.bool b2, .slice A2 n2 c2] 48)).alloc (.cells #[.bool b'2, .slice A'2 n'2 c'2] 48)) (w.heap.size + 1 + 1) 24 #[.bool false, .slice none 0 0, .slice none 0 0] := ((x1_2.alloc (.cells #[.bool b2, .slice A2 n2 c2] 48)).alloc (.cells #[.bool b'2, .slice A'2 n'2 c'2] 48))
  replace x2_0 : Blk ((w2.alloc (.cells #[.bool b2, .slice A2 n2 c2] 48)).alloc (.cells #[.bool b'2, .slice A'2 n'2 c'2] 48)) (w1.heap.size) 48 #[.bool b1, .slice A1 n1 c1] := ((x2_0.alloc (.cells #[.bool b2, .slice A2 n2 c2] 48)).alloc (.cells #[.bool b'2, .slice A'2 n'2 c'2] 48))
  replace x2_1 : Blk ((w2.alloc (.cells #[.bool b2, .slice A2 n2 c2] 48)).alloc (.cells #[.bool b'2, .slice A'2 n'2 c'2] 48)) (w1.heap.size + 1) 48 #[.bool b'1, .slice A'1 n'1 c'1] := ((x2_1.alloc (.cells #[.bool b2, .slice A2 n2 c2] 48)).alloc (.cells #[.bool b'2, .slice A'2 n'2 c'2] 48))
  have lw3 : w2.heap.size + 2 ≤ ((w2.alloc (.cells #[.bool b2, .slice A2 n2 c2] 48)).alloc (.cells #[.bool b'2, .slice A'2 n'2 c'2] 48)).heap.size := by simp
  generalize hE3 : ((w2.alloc (.cells #[.bool b2, .slice A2 n2 c2] 48)).alloc (.cells #[.bool b'2, .slice A'2 n'2 c'2] 48)) = w3 at p3 bw3 lw3 x3_0 x3_1 x1_0 x1_1 x1_2 x2_0 x2_1 ⊢
  clear hE3
  replace h := h.keep p3
  replace h' := h'.keep p3
  replace h1 := h1.keep p3
  replace h'1 := h'1.keep p3
  replace h2 := h2.keep p3
  replace h'2 := h'2.keep p3
  clear bw2
  obtain ⟨lx1_0_0, lx1_0_1, lx1_0_2, lx1_0_3⟩ := lts0 x1_0.lt
  obtain ⟨lx1_1_0, lx1_1_1, lx1_1_2, lx1_1_3⟩ := lts1 x1_1.lt
  have cx1_2_0 : w3.cell? ⟨w.heap.size + 1 + 1, 0, none⟩ = some (.bool false) := x1_2.cell 0
  have fx1_2_0 : w3.frozen? ⟨w.heap.size + 1 + 1, 0, none⟩ = false := x1_2.frozen 0
  have cx1_2_1 : w3.cell? ⟨w.heap.size + 1 + 1, 1, none⟩ = some (.slice none 0 0) := x1_2.cell 1
  have fx1_2_1 : w3.frozen? ⟨w.heap.size + 1 + 1, 1, none⟩ = false := x1_2.frozen 1
  have cx1_2_2 : w3.cell? ⟨w.heap.size + 1 + 1, 2, none⟩ = some (.slice none 0 0) := x1_2.cell 2
  have fx1_2_2 : w3.frozen? ⟨w.heap.size + 1 + 1, 2, none⟩ = false := x1_2.frozen 2
  obtain ⟨lx1_2_0, lx1_2_1, lx1_2_2, lx1_2_3⟩ := lts2 x1_2.lt
  obtain ⟨cx2_0_0, cx2_0_1⟩ := x2_0.c2
  obtain ⟨lx2_0_0, lx2_0_1, lx2_0_2, lx2_0_3⟩ := lts0 x2_0.lt
  obtain ⟨cx2_1_0, cx2_1_1⟩ := x2_1.c2
  obtain ⟨lx2_1_0, lx2_1_1, lx2_1_2, lx2_1_3⟩ := lts1 x2_1.lt
  obtain ⟨cx3_0_0, cx3_0_1⟩ := x3_0.c2
  obtain ⟨lx3_0_0, lx3_0_1, lx3_0_2, lx3_0_3⟩ := lts0 x3_0.lt
  obtain ⟨cx3_1_0, cx3_1_1⟩ := x3_1.c2
  obtain ⟨lx3_1_0, lx3_1_1, lx3_1_2, lx3_1_3⟩ := lts1 x3_1.lt
  have nfx1_0 : ¬ w.heap.size = w.heap.size + 1 + 1 := by omega
  have nex1_0 : ¬ w.heap.size = w.heap.size + 2 := by omega
  have nfx1_1 : ¬ w.heap.size + 1 = w.heap.size + 1 + 1 := by omega
  have nex1_1 : ¬ w.heap.size = w.heap.size + 1 := by omega
  have nfx2_0 : ¬ w1.heap.size = w.heap.size + 1 + 1 := by omega
  have nex2_0 : ¬ w1.heap.size = w.heap.size + 2 := by omega
  have nfx2_1 : ¬ w1.heap.size + 1 = w.heap.size + 1 + 1 := by omega
  have nex2_1 : ¬ w1.heap.size = w.heap.size + 1 := by omega
  have nfx3_0 : ¬ w2.heap.size = w.heap.size + 1 + 1 := by omega
  have nex3_0 : ¬ w2.heap.size = w.heap.size + 2 := by omega
  have nfx3_1 : ¬ w2.heap.size + 1 = w.heap.size + 1 + 1 := by omega
  have nex3_1 : ¬ w2.heap.size = w.heap.size + 1 := by omega
  go_region_held3 (fun w' => SeesX w3.heap.size (w.heap.size + 1 + 1) w3 w') (first | with_reducible exact SeesX.of (Nat.le_refl _) (by assumption) | with_reducible exact SeesX.of (Nat.le_refl _) (brefl _).drew | with_reducible exact (SeesX.set (SeesX.set (SeesX.set (SeesX.of (Nat.le_refl _) (by assumption))))) | with_reducible exact (SeesX.set (SeesX.set (SeesX.of (Nat.le_refl _) (by assumption)))) | with_reducible exact (SeesX.set (SeesX.of (Nat.le_refl _) (by assumption))) | exact SeesX.of (Nat.le_refl _) (below_drewN (brefl _) 1) | exact SeesX.of (Nat.le_refl _) (below_drewN (by assumption) _))
    (first
      | (go_at_call 126; (with_reducible refine (i_mul _ b1 A1 n1 c1 ((q).num) ((k)) ?_ b2 A2 n2 c2 ((q').num) ((k')) ?_ ?_).mono ?_); (exact h1.iz); (exact h2.iz); (first | omega | decide | assumption); rintro e w4 ⟨b4, A4, n4, c4, rfl, h4, hb4⟩; replace hb4 := bnext (below_drewN (brefl _) 1) hb4; have q4 : Below w3.heap.size w3 w4 := bnext (brefl w3) hb4; replace h := h.belw hb4; replace h' := h'.belw hb4; replace h1 := h1.belw hb4; replace h'1 := h'1.belw hb4; replace h2 := h2.belw hb4; replace h'2 := h'2.belw hb4)
      | (go_at_call 126; (with_reducible refine (i_mul _ b'1 A'1 n'1 c'1 (((q).den : Int)) ((k)) ?_ b'2 A'2 n'2 c'2 (((q').den : Int)) ((k')) ?_ ?_).mono ?_); (exact h'1.iz); (exact h'2.iz); (first | omega | decide | assumption); rintro e w5 ⟨b5, A5, n5, c5, rfl, h5, hb5⟩; have q5 : Below w3.heap.size w3 w5 := bnext q4 hb5; replace h := h.belw hb5; replace h' := h'.belw hb5; replace h1 := h1.belw hb5; replace h'1 := h'1.belw hb5; replace h2 := h2.belw hb5; replace h'2 := h'2.belw hb5; replace h4 := h4.belw hb5)
      | (go_at_call 125; (with_reducible refine (f_form _ b4 A4 n4 c4 (((q).num) * ((q').num)) (((k)) + ((k'))) ?_ b5 A5 n5 c5 ((((q).den : Int)) * (((q').den : Int))) (((k)) + ((k'))) ?_ (q * q') (k + k') ?_ ?_ ?_ ?_).mono ?_); (exact h4.iz); (exact h5.iz); (exact Int.mul_ne_zero (den_ne _) (den_ne _)); (exact (mul_q _ _).symm); (exact Sz_mul HS.out HS'.out); (omega); rintro e w6 ⟨b6, A6, n6, c6, A'6, n'6, c'6, rfl, h6, hb6⟩; have q6 : Below w3.heap.size w3 w6 := bnext q5 hb6; replace h := h.belw hb6; replace h' := h'.belw hb6; replace h1 := h1.belw hb6; replace h'1 := h'1.belw hb6; replace h2 := h2.belw hb6; replace h'2 := h'2.belw hb6; replace h4 := h4.belw hb6; replace h5 := h5.belw hb6; have x1_2 : Blk w6 (w.heap.size + 1 + 1) 24 #[.bool false, .slice none 0 0, .slice none 0 0] := x1_2.below q6 x1_2.lt; obtain ⟨cx1_2_0, cx1_2_1, cx1_2_2⟩ := x1_2.c3; obtain ⟨fx1_2_0, fx1_2_1, fx1_2_2⟩ := x1_2.f3))
  have bw6 : Below w.heap.size w w6 := bw3.trans (q6.mono bw3.size)
  clear lx1_0_0 lx1_0_1 lx1_0_2 lx1_0_3 lx1_1_0 lx1_1_1 lx1_1_2 lx1_1_3 cx1_2_0 fx1_2_0 cx1_2_1 fx1_2_1 cx1_2_2 fx1_2_2 lx1_2_0 lx1_2_1 lx1_2_2 lx1_2_3 cx2_0_0 cx2_0_1 lx2_0_0 lx2_0_1 lx2_0_2 lx2_0_3 cx2_1_0 cx2_1_1 lx2_1_0 lx2_1_1 lx2_1_2 lx2_1_3 cx3_0_0 cx3_0_1 lx3_0_0 lx3_0_1 lx3_0_2 lx3_0_3 cx3_1_0 cx3_1_1 lx3_1_0 lx3_1_1 lx3_1_2 lx3_1_3
  replace x1_0 := x1_0.below q6 x1_0.lt
  replace x1_1 := x1_1.below q6 x1_1.lt
  replace x2_0 := x2_0.below q6 x2_0.lt
  replace x2_1 := x2_1.below q6 x2_1.lt
  replace x3_0 := x3_0.below q6 x3_0.lt
  replace x3_1 := x3_1.below q6 x3_1.lt
  have lw6 : w3.heap.size ≤ w6.heap.size := q6.size
  obtain ⟨cx1_2_0, cx1_2_1, cx1_2_2⟩ := x1_2.c3
  obtain ⟨fx1_2_0, fx1_2_1, fx1_2_2⟩ := x1_2.f3
  go_wp2_with fail
  refine bodyPost_ret (v := .agg #[.bool b6, .slice A6 n6 c6, .slice A'6 n'6 c'6]) (by simp [results, Tryz.results82, go_sem, *] <;> first | rfl | exact ⟨rfl, rfl⟩) rfl ?_
  exact ⟨b6, A6, n6, c6, A'6, n'6, c'6, rfl, h6.keep ((((Kp.refl w6).setB (p := ⟨w.heap.size + 1 + 1, 0, none⟩) x1_2.box (by decide) (.bool b6)).setB (p := ⟨w.heap.size + 1 + 1, 1, none⟩) (x1_2.box.set ⟨w.heap.size + 1 + 1, 0, none⟩ (.bool b6)) (by decide) (.slice A6 n6 c6)).setB (p := ⟨w.heap.size + 1 + 1, 2, none⟩) ((x1_2.box.set ⟨w.heap.size + 1 + 1, 0, none⟩ (.bool b6)).set ⟨w.heap.size + 1 + 1, 1, none⟩ (.slice A6 n6 c6)) (by decide) (.slice A'6 n'6 c'6)), (((bw6.setCell (p := ⟨w.heap.size + 1 + 1, 0, none⟩) (by dsimp only; omega) (.bool b6)).setCell (p := ⟨w.heap.size + 1 + 1, 1, none⟩) (by dsimp only; omega) (.slice A6 n6 c6)).setCell (p := ⟨w.heap.size + 1 + 1, 2, none⟩) (by dsimp only; omega) (.slice A'6 n'6 c'6))⟩
set_option maxHeartbeats 2000000 in
/-- fraction.Sub -/
theorem f_sub (w : World) (b : Bool) (A : Option Addr) (n c : Nat) (D : Option Addr) (m e : Nat) (q : Rat) (k : Nat) (h : QZ w b A n c D m e q k) (b' : Bool) (A' : Option Addr) (n' c' : Nat) (D' : Option Addr) (m' e' : Nat) (q' : Rat) (k' : Nat) (h' : QZ w b' A' n' c' D' m' e' q' k') (h0 : 0 < k) (hk : k ≤ 40000000) (h0' : 0 < k') (hk' : k' ≤ 40000000) :
    Calls Tryz.prog 85 #[.agg #[.bool b, .slice A n c, .slice D m e], .agg #[.bool b', .slice A' n' c', .slice D' m' e']] w (RetF w (q - q') (k + k' + 1)) := by
  rw [show q - q' = q + -q' from Rat.sub_eq_add_neg q q']
  go_enter Tryz.func85, Tryz.ntmps85
  go_wp2_with fail
  have p1 : Kp w (((w.alloc (.cells #[.bool b, .slice A n c, .slice D m e] 24)).alloc (.cells #[.bool b', .slice A' n' c', .slice D' m' e'] 24)).alloc (.cells #[.bool false, .slice none 0 0, .slice none 0 0] 24)) := ((((Kp.refl w).alloc (.cells #[.bool b, .slice A n c, .slice D m e] 24)).alloc (.cells #[.bool b', .slice A' n' c', .slice D' m' e'] 24)).alloc (.cells #[.bool false, .slice none 0 0, .slice none 0 0] 24))
  have bw1 : Below w.heap.size w (((w.alloc (.cells #[.bool b, .slice A n c, .slice D m e] 24)).alloc (.cells #[.bool b', .slice A' n' c', .slice D' m' e'] 24)).alloc (.cells #[.bool false, .slice none 0 0, .slice none 0 0] 24)) := ((((brefl w).alloc (by first | omega | (simp <;> omega)) (.cells #[.bool b, .slice A n c, .slice D m e] 24)).alloc (by first | omega | (simp <;> omega)) (.cells #[.bool b', .slice A' n' c', .slice D' m' e'] 24)).alloc (by first | omega | (simp <;> omega)) (.cells #[.bool false, .slice none 0 0, .slice none 0 0] 24))
  have x1_0 : Blk (((w.alloc (.cells #[.bool b, .slice A n c, .slice D m e] 24)).alloc (.cells #[.bool b', .slice A' n' c', .slice D' m' e'] 24)).alloc (.cells #[.bool false, .slice none 0 0, .slice none 0 0] 24)) (w.heap.size) 24 #[.bool b, .slice A n c, .slice D m e] := (((blkAt _ _ _ (by simp)).alloc (.cells #[.bool b', .slice A' n' c', .slice D' m' e'] 24)).alloc (.cells #[.bool false, .slice none 0 0, .slice none 0 0] 24))
  have x1_1 : Blk (((w.alloc (.cells #[.bool b, .slice A n c, .slice D m e] 24)).alloc (.cells #[.bool b', .slice A' n' c', .slice D' m' e'] 24)).alloc (.cells #[.bool false, .slice none 0 0, .slice none 0 0] 24)) (w.heap.size + 1) 24 #[.bool b', .slice A' n' c', .slice D' m' e'] := ((blkAt _ _ _ (by simp)).alloc (.cells #[.bool false, .slice none 0 0, .slice none 0 0] 24))
  have x1_2 : Blk (((w.alloc (.cells #[.bool b, .slice A n c, .slice D m e] 24)).alloc (.cells #[.bool b', .slice A' n' c', .slice D' m' e'] 24)).alloc (.cells #[.bool false, .slice none 0 0, .slice none 0 0] 24)) (w.heap.size + 1 + 1) 24 #[.bool false, .slice none 0 0, .slice none 0 0] := (blkAt _ _ _ (by simp))
  have lw1 : w.heap.size + 3 ≤ (((w.alloc (.cells #[.bool b, .slice A n c, .slice D m e] 24)).alloc (.cells #[.bool b', .slice A' n' c', .slice D' m' e'] 24)).alloc (.cells #[.bool false, .slice none 0 0, .slice none 0 0] 24)).heap.size := by simp
  generalize hE1 : (((w.alloc (.cells #[.bool b, .slice A n c, .slice D m e] 24)).alloc (.cells #[.bool b', .slice A' n' c', .slice D' m' e'] 24)).alloc (.cells #[.bool false, .slice none 0 0, .slice none 0 0] 24)) = w1 at p1 bw1 lw1 x1_0 x1_1 x1_2 ⊢
  clear hE1
  replace h := h.keep p1
  replace h' := h'.keep p1
  obtain ⟨cx1_0_0, cx1_0_1, cx1_0_2⟩ := x1_0.c3
  obtain ⟨lx1_0_0, lx1_0_1, lx1_0_2, lx1_0_3⟩ := lts0 x1_0.lt
  obtain ⟨cx1_1_0, cx1_1_1, cx1_1_2⟩ := x1_1.c3
  obtain ⟨lx1_1_0, lx1_1_1, lx1_1_2, lx1_1_3⟩ := lts1 x1_1.lt
  obtain ⟨cx1_2_0, cx1_2_1, cx1_2_2⟩ := x1_2.c3
  obtain ⟨fx1_2_0, fx1_2_1, fx1_2_2⟩ := x1_2.f3
  obtain ⟨lx1_2_0, lx1_2_1, lx1_2_2, lx1_2_3⟩ := lts2 x1_2.lt
  have nfx1_0 : ¬ w.heap.size = w.heap.size + 1 + 1 := by omega
  have nex1_0 : ¬ w.heap.size = w.heap.size + 2 := by omega
  have nfx1_1 : ¬ w.heap.size + 1 = w.heap.size + 1 + 1 := by omega
  have nex1_1 : ¬ w.heap.size = w.heap.size + 1 := by omega
  go_region_held3 (fun w' => SeesX w1.heap.size (w.heap.size + 1 + 1) w1 w') (first | with_reducible exact SeesX.of (Nat.le_refl _) (by assumption) | with_reducible exact SeesX.of (Nat.le_refl _) (brefl _).drew | with_reducible exact (SeesX.set (SeesX.set (SeesX.set (SeesX.of (Nat.le_refl _) (by assumption))))) | with_reducible exact (SeesX.set (SeesX.set (SeesX.of (Nat.le_refl _) (by assumption)))) | with_reducible exact (SeesX.set (SeesX.of (Nat.le_refl _) (by assumption))) | exact SeesX.of (Nat.le_refl _) (below_drewN (brefl _) 1) | exact SeesX.of (Nat.le_refl _) (below_drewN (by assumption) _))
    (first
      | (go_at_call 86; (with_reducible refine (f_neg _ b' A' n' c' D' m' e' (q') (k') ?_ ?_ ?_).mono ?_); (exact h'); (first | omega | decide | assumption); (first | omega | decide | assumption); rintro e w2 ⟨b2, A2, n2, c2, A'2, n'2, c'2, rfl, h2, hb2⟩; replace hb2 := bnext (below_drewN (brefl _) 1) hb2; have q2 : Below w1.heap.size w1 w2 := bnext (brefl w1) hb2; replace h := h.belw hb2; replace h' := h'.belw hb2)
      | (go_at_call 83; (with_reducible refine (f_add _ b A n c D m e (q) (k) ?_ b2 A2 n2 c2 A'2 n'2 c'2 (-(q')) ((k')) ?_ ?_ ?_ ?_ ?_).mono ?_); (exact h); (exact h2.qz); (first | omega | decide | assumption); (first | omega | decide | assumption); (first | omega | decide | assumption); (first | omega | decide | assumption); rintro e w3 ⟨b3, A3, n3, c3, A'3, n'3, c'3, rfl, h3, hb3⟩; have q3 : Below w1.heap.size w1 w3 := bnext q2 hb3; replace h := h.belw hb3; replace h' := h'.belw hb3; replace h2 := h2.belw hb3; have x1_2 : Blk w3 (w.heap.size + 1 + 1) 24 #[.bool false, .slice none 0 0, .slice none 0 0] := x1_2.below q3 x1_2.lt; obtain ⟨cx1_2_0, cx1_2_1, cx1_2_2⟩ := x1_2.c3; obtain ⟨fx1_2_0, fx1_2_1, fx1_2_2⟩ := x1_2.f3))
  have bw3 : Below w.heap.size w w3 := bw1.trans (q3.mono bw1.size)
  clear cx1_0_0 cx1_0_1 cx1_0_2 lx1_0_0 lx1_0_1 lx1_0_2 lx1_0_3 cx1_1_0 cx1_1_1 cx1_1_2 lx1_1_0 lx1_1_1 lx1_1_2 lx1_1_3 cx1_2_0 fx1_2_0 cx1_2_1 fx1_2_1 cx1_2_2 fx1_2_2 lx1_2_0 lx1_2_1 lx1_2_2 lx1_2_3
  replace x1_0 := x1_0.below q3 x1_0.lt
  replace x1_1 := x1_1.below q3 x1_1.lt
  have lw3 : w1.heap.size ≤ w3.heap.size := q3.size
  obtain ⟨cx1_2_0, cx1_2_1, cx1_2_2⟩ := x1_2.c3
  obtain ⟨fx1_2_0, fx1_2_1, fx1_2_2⟩ := x1_2.f3
  go_wp2_with fail
  refine bodyPost_ret (v := .agg #[.bool b3, .slice A3 n3 c3, .slice A'3 n'3 c'3]) (by simp [results, Tryz.results85, go_sem, *] <;> first | rfl | exact ⟨rfl, rfl⟩) rfl ?_
  exact ⟨b3, A3, n3, c3, A'3, n'3, c'3, rfl, h3.keep ((((Kp.refl w3).setB (p := ⟨w.heap.size + 1 + 1, 0, none⟩) x1_2.box (by decide) (.bool b3)).setB (p := ⟨w.heap.size + 1 + 1, 1, none⟩) (x1_2.box.set ⟨w.heap.size + 1 + 1, 0, none⟩ (.bool b3)) (by decide) (.slice A3 n3 c3)).setB (p := ⟨w.heap.size + 1 + 1, 2, none⟩) ((x1_2.box.set ⟨w.heap.size + 1 + 1, 0, none⟩ (.bool b3)).set ⟨w.heap.size + 1 + 1, 1, none⟩ (.slice A3 n3 c3)) (by decide) (.slice A'3 n'3 c'3)), (((bw3.setCell (p := ⟨w.heap.size + 1 + 1, 0, none⟩) (by dsimp only; omega) (.bool b3)).setCell (p := ⟨w.heap.size + 1 + 1, 1, none⟩) (by dsimp only; omega) (.slice A3 n3 c3)).setCell (p := ⟨w.heap.size + 1 + 1, 2, none⟩) (by dsimp only; omega) (.slice A'3 n'3 c'3))⟩
set_option maxHeartbeats 2000000 in
/-- fraction.From -/
theorem f_from (w : World) (b : Bool) (A : Option Addr) (n c : Nat) (z : Int) (k : Nat) (h : IZ w b A n c z k) (b' : Bool) (A' : Option Addr) (n' c' : Nat) (z' : Int) (k' : Nat) (h' : IZ w b' A' n' c' z' k') (q : Rat) (K : Nat) (hd : z' ≠ 0) (hq : Rat.divInt z z' = q) (hs : Sz q K) (hk : k + k' ≤ 300000000) :
    Calls Tryz.prog 154 #[.agg #[.bool b, .slice A n c], .agg #[.bool b', .slice A' n' c']] w (RetFe w .nilIface q K) := by
  obtain ⟨s, hs1⟩ : ∃ s, z'.sign = s := ⟨_, rfl⟩
  have e0 : ((s : Int) == 0) = false := by simp; rintro rfl; exact hd (Int.sign_eq_zero_iff_zero.1 hs1)
  have HS1 := Lib.hid hs1
  have HD := Lib.hid hd
  have HQ := Lib.hid hq
  have HS := Lib.hid hs
  clear hs1 hd hq hs
  go_enter Tryz.func154, Tryz.ntmps154
  go_wp2_with fail
  (with_reducible refine (i_sign_e _ b' A' n' c' (z') (k') ?_ s ?_ ?_).mono ?_); (exact (h'.belw ((((Below.refl _ _).alloc (Nat.le_refl _) _).alloc (by simp) _).alloc (by simp <;> omega) _))); (exact HS1.out); (omega); rintro e w1 ⟨rfl, hb1⟩
  have q1 : Below w.heap.size w w1 := ((((Below.refl _ _).alloc (Nat.le_refl _) _).alloc (by simp) _).alloc (by simp <;> omega) _).trans (hb1.mono (by simp <;> omega))
  replace h := h.belw q1
  replace h' := h'.belw q1
  have x1_0 : Blk w1 (w.heap.size) 48 #[.bool b, .slice A n c] := (((blkAt _ _ _ (by simp)).alloc _).alloc _).below hb1 (by simp <;> omega)
  have x1_1 : Blk w1 (w.heap.size + 1) 48 #[.bool b', .slice A' n' c'] := ((blkAt _ _ _ (by simp)).alloc _).below hb1 (by simp <;> omega)
  have x1_2 : Blk w1 (w.heap.size + 1 + 1) 24 #[.bool false, .slice none 0 0, .slice none 0 0] := (blkAt _ _ _ (by simp)).below hb1 (by simp)
  have bw1 : Below w.heap.size w w1 := (brefl w).trans (q1.mono (brefl w).size)
  have lw1 : w.heap.size + 3 ≤ w1.heap.size := by have := hb1.size; simp at this; omega
  clear hb1 q1
  obtain ⟨cx1_0_0, cx1_0_1⟩ := x1_0.c2
  obtain ⟨lx1_0_0, lx1_0_1, lx1_0_2, lx1_0_3⟩ := lts0 x1_0.lt
  obtain ⟨cx1_1_0, cx1_1_1⟩ := x1_1.c2
  obtain ⟨lx1_1_0, lx1_1_1, lx1_1_2, lx1_1_3⟩ := lts1 x1_1.lt
  go_wp2_with fail
  (with_reducible refine (f_form _ b A n c (z) (k) ?_ b' A' n' c' (z') (k') ?_ q K ?_ ?_ ?_ ?_).mono ?_); (exact h); (exact h'); (exact HD.out); (exact HQ.out); (exact HS.out); (omega); rintro e w2 ⟨b2, A2, n2, c2, A'2, n'2, c'2, rfl, h2, hb2⟩
  clear cx1_0_0 cx1_0_1 lx1_0_0 lx1_0_1 lx1_0_2 lx1_0_3 cx1_1_0 cx1_1_1 lx1_1_0 lx1_1_1 lx1_1_2 lx1_1_3
  have q2 : Below w1.heap.size w1 w2 := hb2
  replace h := h.belw q2
  replace h' := h'.belw q2
  replace x1_0 := x1_0.below q2 x1_0.lt
  replace x1_1 := x1_1.below q2 x1_1.lt
  replace x1_2 := x1_2.below q2 x1_2.lt
  have bw2 : Below w.heap.size w w2 := bw1.trans (q2.mono bw1.size)
  have lw2 : w1.heap.size ≤ w2.heap.size := q2.size
  clear hb2 q2 bw1
  obtain ⟨cx1_2_0, cx1_2_1, cx1_2_2⟩ := x1_2.c3
  obtain ⟨fx1_2_0, fx1_2_1, fx1_2_2⟩ := x1_2.f3
  obtain ⟨lx1_2_0, lx1_2_1, lx1_2_2, lx1_2_3⟩ := lts2 x1_2.lt
  go_wp2_with fail
  refine bodyPost_ret (v := .tuple #[.agg #[.bool b2, .slice A2 n2 c2, .slice A'2 n'2 c'2], .nilIface]) (by simp [results, Tryz.results154, go_sem, *] <;> first | rfl | exact ⟨rfl, rfl⟩) rfl ?_
  exact ⟨b2, A2, n2, c2, A'2, n'2, c'2, rfl, h2.keep ((((Kp.refl w2).setB (p := ⟨w.heap.size + 1 + 1, 0, none⟩) x1_2.box (by decide) (.bool b2)).setB (p := ⟨w.heap.size + 1 + 1, 1, none⟩) (x1_2.box.set ⟨w.heap.size + 1 + 1, 0, none⟩ (.bool b2)) (by decide) (.slice A2 n2 c2)).setB (p := ⟨w.heap.size + 1 + 1, 2, none⟩) ((x1_2.box.set ⟨w.heap.size + 1 + 1, 0, none⟩ (.bool b2)).set ⟨w.heap.size + 1 + 1, 1, none⟩ (.slice A2 n2 c2)) (by decide) (.slice A'2 n'2 c'2)), (((bw2.setCell (p := ⟨w.heap.size + 1 + 1, 0, none⟩) (by dsimp only; omega) (.bool b2)).setCell (p := ⟨w.heap.size + 1 + 1, 1, none⟩) (by dsimp only; omega) (.slice A2 n2 c2)).setCell (p := ⟨w.heap.size + 1 + 1, 2, none⟩) (by dsimp only; omega) (.slice A'2 n'2 c'2))⟩
set_option maxHeartbeats 2000000 in
/-- fraction.Div -/
theorem f_div (w : World) (b : Bool) (A : Option Addr) (n c : Nat) (D : Option Addr) (m e : Nat) (q : Rat) (k : Nat) (h : QZ w b A n c D m e q k) (b' : Bool) (A' : Option Addr) (n' c' : Nat) (D' : Option Addr) (m' e' : Nat) (q' : Rat) (k' : Nat) (h' : QZ w b' A' n' c' D' m' e' q' k') (h0 : 0 < k) (hk : k ≤ 40000000) (h0' : 0 < k') (hk' : k' ≤ 40000000) (hne : q' ≠ 0) :
    Calls Tryz.prog 128 #[.agg #[.bool b, .slice A n c, .slice D m e], .agg #[.bool b', .slice A' n' c', .slice D' m' e']] w (RetFe w (.nilIface) (q / q') (k + k')) := by
  have HS := Lib.hid (h.sz h0)
  have HS' := Lib.hid (h'.sz h0')
  have HN := Lib.hid hne
  clear hne
  go_enter Tryz.func128, Tryz.ntmps128
  go_wp2_with fail
  (with_reducible refine (f_parts _ b A n c D m e (q) (k) ?_ ?_ ?_).mono ?_); (exact (h.belw ((((Below.refl _ _).alloc (Nat.le_refl _) _).alloc (by simp) _).alloc (by simp <;> omega) _))); (first | omega | decide | assumption); (first | omega | decide | assumption); rintro e w1 ⟨b1, A1, n1, c1, b'1, A'1, n'1, c'1, rfl, h1, h'1, hb1⟩
  have q1 : Below w.heap.size w w1 := ((((Below.refl _ _).alloc (Nat.le_refl _) _).alloc (by simp) _).alloc (by simp <;> omega) _).trans (hb1.mono (by simp <;> omega))
  replace h := h.belw q1
  replace h' := h'.belw q1
  have x1_0 : Blk w1 (w.heap.size) 24 #[.bool b, .slice A n c, .slice D m e] := (((blkAt _ _ _ (by simp)).alloc _).alloc _).below hb1 (by simp <;> omega)
  have x1_1 : Blk w1 (w.heap.size + 1) 24 #[.bool b', .slice A' n' c', .slice D' m' e'] := ((blkAt _ _ _ (by simp)).alloc _).below hb1 (by simp <;> omega)
  have x1_2 : Blk w1 (w.heap.size + 1 + 1) 24 #[.bool false, .slice none 0 0, .slice none 0 0] := (blkAt _ _ _ (by simp)).below hb1 (by simp)
  have bw1 : Below w.heap.size w w1 := (brefl w).trans (q1.mono (brefl w).size)
  have lw1 : w.heap.size + 3 ≤ w1.heap.size := by have := hb1.size; simp at this; omega
  clear hb1 q1
  obtain ⟨cx1_1_0, cx1_1_1, cx1_1_2⟩ := x1_1.c3
  obtain ⟨lx1_1_0, lx1_1_1, lx1_1_2, lx1_1_3⟩ := lts1 x1_1.lt
  go_wp2_with fail
  (with_reducible refine (f_parts _ b' A' n' c' D' m' e' (q') (k') ?_ ?_ ?_).mono ?_); (exact (h'.belw (((Below.refl _ _).alloc (Nat.le_refl _) _).alloc (by simp) _))); (first | omega | decide | assumption); (first | omega | decide | assumption); rintro e w2 ⟨b2, A2, n2, c2, b'2, A'2, n'2, c'2, rfl, h2, h'2, hb2⟩
  clear cx1_1_0 cx1_1_1 cx1_1_2 lx1_1_0 lx1_1_1 lx1_1_2 lx1_1_3
  have q2 : Below w1.heap.size w1 w2 := (((Below.refl _ _).alloc (Nat.le_refl _) _).alloc (by simp) _).trans (hb2.mono (by simp <;> omega))
  replace h := h.belw q2
  replace h' := h'.belw q2
  replace h1 := h1.belw q2
  replace h'1 := h'1.belw q2
  replace x1_0 := x1_0.below q2 x1_0.lt
  replace x1_1 := x1_1.below q2 x1_1.lt
  replace x1_2 := x1_2.below q2 x1_2.lt
  have x2_0 : Blk w2 (w1.heap.size) 48 #[.bool b1, .slice A1 n1 c1] := ((blkAt _ _ _ (by simp)).alloc _).below hb2 (by simp <;> omega)
  have x2_1 : Blk w2 (w1.heap.size + 1) 48 #[.bool b'1, .slice A'1 n'1 c'1] := (blkAt _ _ _ (by simp)).below hb2 (by simp)
  have bw2 : Below w.heap.size w w2 := bw1.trans (q2.mono bw1.size)
  have lw2 : w1.heap.size + 2 ≤ w2.heap.size := by have := hb2.size; simp at this; omega
  clear hb2 q2 bw1
  go_wp2_with fail
  have p3 : Kp w2 ((w2.alloc (.cells #[.bool b2, .slice A2 n2 c2] 48)).alloc (.cells #[.bool b'2, .slice A'2 n'2 c'2] 48)) := (((Kp.refl w2).alloc (.cells #[.bool b2, .slice A2 n2 c2] 48)).alloc (.cells #[.bool b'2, .slice A'2 n'2 c'2] 48))
  have bw3 : Below w.heap.size w ((w2.alloc (.cells #[.bool b2, .slice A2 n2 c2] 48)).alloc (.cells #[.bool b'2, .slice A'2 n'2 c'2] 48)) := ((bw2.alloc (by first | omega | (simp <;> omega)) (.cells #[.bool b2, .slice A2 n2 c2] 48)).alloc (by first | omega | (simp <;> omega)) (.cells #[.bool b'2, .slice A'2 n'2 c'2] 48))
  have x3_0 : Blk ((w2.alloc (.cells #[.bool b2, .slice A2 n2 c2] 48)).alloc (.cells #[.bool b'2, .slice A'2 n'2 c'2] 48)) (w2.heap.size) 48 #[.bool b2, .slice A2 n2 c2] := ((blkAt _ _ _ (by simp)).alloc (.cells #[.bool b'2, .slice A'2 n'2 c'2] 48))
  have x3_1 : Blk ((w2.alloc (.cells #[.bool b2, .slice A2 n2 c2] 48)).alloc (.cells #[.bool b'2, .slice A'2 n'2 c'2] 48)) (w2.heap.size + 1) 48 #[.bool b'2, .slice A'2 n'2 c'2] := (blkAt _ _ _ (by simp))
  replace x1_0 : Blk ((w2.alloc (.cells #[.bool b2, .slice A2 n2 c2] 48)).alloc (.cells #[.bool b'2, .slice A'2 n'2 c'2] 48)) (w.heap.size) 24 #[.bool b, .slice A n c, .slice D m e] := ((x1_0.alloc (.cells #[.bool b2, .slice A2 n2 c2] 48)).alloc (.cells #[.bool b'2, .slice A'2 n'2 c'2] 48))
  replace x1_1 : Blk ((w2.alloc (.cells #[.bool b2, .slice A2 n2 c2] 48)).alloc (.cells #[.bool b'2, .slice A'2 n'2 c'2] 48)) (w.heap.size + 1) 24 #[.bool b', .slice A' n' c', .slice D' m' e'] := ((x1_1.alloc (.cells #[.bool b2, .slice A2 n2 c2] 48)).alloc (.cells #[.bool b'2, .slice A'2 n'2 c'2] 48))
  replace x1_2 : Blk ((w2.alloc (.cells #[.bool b2, .slice A2 n2 c2] 48)).alloc (.cells #[.bool b'2, .slice A'2 n'2 c'2] 48)) (w.heap.size + 1 + 1) 24 #[.bool false, .slice none 0 0, .slice none 0 0] := ((x1_2.alloc (.cells #[.bool b2, .slice A2 n2 c2] 48)).alloc (.cells #[.bool b'2, .slice A'2 n'2 c'2] 48))
  replace x2_0 : Blk ((w2.alloc (.cells #[.bool b2, .slice A2 n2 c2] 48)).alloc (.cells #[.bool b'2, .slice A'2 n'2 c'2] 48)) (w1.heap.size) 48 #[.bool b1, .slice A1 n1 c1] := ((x2_0.alloc (.cells #[.bool b2, .slice A2 n2 c2] 48)).alloc (.cells #[.bool b'2, .slice A'2 n'2 c'2] 48))
  replace x2_1 : Blk ((w2.alloc (.cells #[.bool b2, .slice A2 n2 c2] 48)).alloc (.cells #[.bool b'2, .slice A'2 n'2 c'2] 48)) (w1.heap.size + 1) 48 #[.bool b'1, .slice A'1 n'1 c'1] := ((x2_1.alloc (.cells #[.bool b2, .slice A2 n2 c2] 48)).alloc (.cells #[.bool b'2, .slice A'2 n'2 c'2] 48))
  have lw3 : w2.heap.size + 2 ≤ ((w2.alloc (.cells #[.bool b2, .slice A2 n2 c2] 48)).alloc (.cells #[.bool b'2, .slice A'2 n'2 c'2] 48)).heap.size := by simp
  generalize hE3 : ((w2.alloc (.cells #[.bool b2, .slice A2 n2 c2] 48)).alloc (.cells #[.bool b'2, .slice A'2 n'2 c'2] 48)) = w3 at p3 bw3 lw3 x3_0 x3_1 x1_0 x1_1 x1_2 x2_0 x2_1 ⊢
  clear hE3
  replace h := h.keep p3
  replace h' := h'.keep p3
  replace h1 := h1.keep p3
  replace h'1 := h'1.keep p3
  replace h2 := h2.keep p3
  replace h'2 := h'2.keep p3
  clear bw2
  obtain ⟨lx1_0_0, lx1_0_1, lx1_0_2, lx1_0_3⟩ := lts0 x1_0.lt
  obtain ⟨lx1_1_0, lx1_1_1, lx1_1_2, lx1_1_3⟩ := lts1 x1_1.lt
  have cx1_2_0 : w3.cell? ⟨w.heap.size + 1 + 1, 0, none⟩ = some (.bool false) := x1_2.cell 0
  have fx1_2_0 : w3.frozen? ⟨w.heap.size + 1 + 1, 0, none⟩ = false := x1_2.frozen 0
  have cx1_2_1 : w3.cell? ⟨w.heap.size + 1 + 1, 1, none⟩ = some (.slice none 0 0) := x1_2.cell 1
  have fx1_2_1 : w3.frozen? ⟨w.heap.size + 1 + 1, 1, none⟩ = false := x1_2.frozen 1
  have cx1_2_2 : w3.cell? ⟨w.heap.size + 1 + 1, 2, none⟩ = some (.slice none 0 0) := x1_2.cell 2
  have fx1_2_2 : w3.frozen? ⟨w.heap.size + 1 + 1, 2, none⟩ = false := x1_2.frozen 2
  obtain ⟨lx1_2_0, lx1_2_1, lx1_2_2, lx1_2_3⟩ := lts2 x1_2.lt
  obtain ⟨cx2_0_0, cx2_0_1⟩ := x2_0.c2
  obtain ⟨lx2_0_0, lx2_0_1, lx2_0_2, lx2_0_3⟩ := lts0 x2_0.lt
  obtain ⟨cx2_1_0, cx2_1_1⟩ := x2_1.c2
  obtain ⟨lx2_1_0, lx2_1_1, lx2_1_2, lx2_1_3⟩ := lts1 x2_1.lt
  obtain ⟨cx3_0_0, cx3_0_1⟩ := x3_0.c2
  obtain ⟨lx3_0_0, lx3_0_1, lx3_0_2, lx3_0_3⟩ := lts0 x3_0.lt
  obtain ⟨cx3_1_0, cx3_1_1⟩ := x3_1.c2
  obtain ⟨lx3_1_0, lx3_1_1, lx3_1_2, lx3_1_3⟩ := lts1 x3_1.lt
  have nfx1_0 : ¬ w.heap.size = w.heap.size + 1 + 1 := by omega
  have nex1_0 : ¬ w.heap.size = w.heap.size + 2 := by omega
  have nfx1_1 : ¬ w.heap.size + 1 = w.heap.size + 1 + 1 := by omega
  have nex1_1 : ¬ w.heap.size = w.heap.size + 1 := by omega
  have nfx2_0 : ¬ w1.heap.size = w.heap.size + 1 + 1 := by omega
  have nex2_0 : ¬ w1.heap.size = w.heap.size + 2 := by omega
  have nfx2_1 : ¬ w1.heap.size + 1 = w.heap.size + 1 + 1 := by omega
  have nex2_1 : ¬ w1.heap.size = w.heap.size + 1 := by omega
  have nfx3_0 : ¬ w2.heap.size = w.heap.size + 1 + 1 := by omega
  have nex3_0 : ¬ w2.heap.size = w.heap.size + 2 := by omega
  have nfx3_1 : ¬ w2.heap.size + 1 = w.heap.size + 1 + 1 := by omega
  have nex3_1 : ¬ w2.heap.size = w.heap.size + 1 := by omega
  go_region_held3 (fun w' => SeesX w3.heap.size (w.heap.size + 1 + 1) w3 w') (first | with_reducible exact SeesX.of (Nat.le_refl _) (by assumption) | with_reducible exact SeesX.of (Nat.le_refl _) (brefl _).drew | with_reducible exact (SeesX.set (SeesX.set (SeesX.set (SeesX.of (Nat.le_refl _) (by assumption))))) | with_reducible exact (SeesX.set (SeesX.set (SeesX.of (Nat.le_refl _) (by assumption)))) | with_reducible exact (SeesX.set (SeesX.of (Nat.le_refl _) (by assumption))) | exact SeesX.of (Nat.le_refl _) (below_drewN (brefl _) 1) | exact SeesX.of (Nat.le_refl _) (below_drewN (by assumption) _))
    (first
      | (go_at_call 126; (with_reducible refine (i_mul _ b1 A1 n1 c1 ((q).num) ((k)) ?_ b'2 A'2 n'2 c'2 (((q').den : Int)) ((k')) ?_ ?_).mono ?_); (exact h1.iz); (exact h'2.iz); (first | omega | decide | assumption); rintro e w4 ⟨b4, A4, n4, c4, rfl, h4, hb4⟩; replace hb4 := bnext (below_drewN (brefl _) 1) hb4; have q4 : Below w3.heap.size w3 w4 := bnext (brefl w3) hb4; replace h := h.belw hb4; replace h' := h'.belw hb4; replace h1 := h1.belw hb4; replace h'1 := h'1.belw hb4; replace h2 := h2.belw hb4; replace h'2 := h'2.belw hb4)
      | (go_at_call 126; (with_reducible refine (i_mul _ b'1 A'1 n'1 c'1 (((q).den : Int)) ((k)) ?_ b2 A2 n2 c2 ((q').num) ((k')) ?_ ?_).mono ?_); (exact h'1.iz); (exact h2.iz); (first | omega | decide | assumption); rintro e w5 ⟨b5, A5, n5, c5, rfl, h5, hb5⟩; have q5 : Below w3.heap.size w3 w5 := bnext q4 hb5; replace h := h.belw hb5; replace h' := h'.belw hb5; replace h1 := h1.belw hb5; replace h'1 := h'1.belw hb5; replace h2 := h2.belw hb5; replace h'2 := h'2.belw hb5; replace h4 := h4.belw hb5)
      | (go_at_call 154; (with_reducible refine (f_from _ b4 A4 n4 c4 (((q).num) * (((q').den : Int))) (((k)) + ((k'))) ?_ b5 A5 n5 c5 ((((q).den : Int)) * ((q').num)) (((k)) + ((k'))) ?_ (q / q') (k + k') ?_ ?_ ?_ ?_).mono ?_); (exact h4.iz); (exact h5.iz); (exact Int.mul_ne_zero (den_ne _) (fun x => HN.out (Rat.num_eq_zero.1 x))); (exact (div_q _ _ HN.out).symm); (exact Sz_div HS.out HS'.out HN.out); (omega); rintro e w6 ⟨b6, A6, n6, c6, A'6, n'6, c'6, rfl, h6, hb6⟩; have q6 : Below w3.heap.size w3 w6 := bnext q5 hb6; replace h := h.belw hb6; replace h' := h'.belw hb6; replace h1 := h1.belw hb6; replace h'1 := h'1.belw hb6; replace h2 := h2.belw hb6; replace h'2 := h'2.belw hb6; replace h4 := h4.belw hb6; replace h5 := h5.belw hb6; have x1_2 : Blk w6 (w.heap.size + 1 + 1) 24 #[.bool false, .slice none 0 0, .slice none 0 0] := x1_2.below q6 x1_2.lt; obtain ⟨cx1_2_0, cx1_2_1, cx1_2_2⟩ := x1_2.c3; obtain ⟨fx1_2_0, fx1_2_1, fx1_2_2⟩ := x1_2.f3))
  have bw6 : Below w.heap.size w w6 := bw3.trans (q6.mono bw3.size)
  clear lx1_0_0 lx1_0_1 lx1_0_2 lx1_0_3 lx1_1_0 lx1_1_1 lx1_1_2 lx1_1_3 cx1_2_0 fx1_2_0 cx1_2_1 fx1_2_1 cx1_2_2 fx1_2_2 lx1_2_0 lx1_2_1 lx1_2_2 lx1_2_3 cx2_0_0 cx2_0_1 lx2_0_0 lx2_0_1 lx2_0_2 lx2_0_3 cx2_1_0 cx2_1_1 lx2_1_0 lx2_1_1 lx2_1_2 lx2_1_3 cx3_0_0 cx3_0_1 lx3_0_0 lx3_0_1 lx3_0_2 lx3_0_3 cx3_1_0 cx3_1_1 lx3_1_0 lx3_1_1 lx3_1_2 lx3_1_3
  replace x1_0 := x1_0.below q6 x1_0.lt
  replace x1_1 := x1_1.below q6 x1_1.lt
  replace x2_0 := x2_0.below q6 x2_0.lt
  replace x2_1 := x2_1.below q6 x2_1.lt
  replace x3_0 := x3_0.below q6 x3_0.lt
  replace x3_1 := x3_1.below q6 x3_1.lt
  have lw6 : w3.heap.size ≤ w6.heap.size := q6.size
  obtain ⟨cx1_2_0, cx1_2_1, cx1_2_2⟩ := x1_2.c3
  obtain ⟨fx1_2_0, fx1_2_1, fx1_2_2⟩ := x1_2.f3
  go_wp2_with fail
  refine bodyPost_ret (v := .tuple #[.agg #[.bool b6, .slice A6 n6 c6, .slice A'6 n'6 c'6], .nilIface]) (by simp [results, Tryz.results128, go_sem, *] <;> first | rfl | exact ⟨rfl, rfl⟩) rfl ?_
  exact ⟨b6, A6, n6, c6, A'6, n'6, c'6, rfl, h6.keep ((((Kp.refl w6).setB (p := ⟨w.heap.size + 1 + 1, 0, none⟩) x1_2.box (by decide) (.bool b6)).setB (p := ⟨w.heap.size + 1 + 1, 1, none⟩) (x1_2.box.set ⟨w.heap.size + 1 + 1, 0, none⟩ (.bool b6)) (by decide) (.slice A6 n6 c6)).setB (p := ⟨w.heap.size + 1 + 1, 2, none⟩) ((x1_2.box.set ⟨w.heap.size + 1 + 1, 0, none⟩ (.bool b6)).set ⟨w.heap.size + 1 + 1, 1, none⟩ (.slice A6 n6 c6)) (by decide) (.slice A'6 n'6 c'6)), (((bw6.setCell (p := ⟨w.heap.size + 1 + 1, 0, none⟩) (by dsimp only; omega) (.bool b6)).setCell (p := ⟨w.heap.size + 1 + 1, 1, none⟩) (by dsimp only; omega) (.slice A6 n6 c6)).setCell (p := ⟨w.heap.size + 1 + 1, 2, none⟩) (by dsimp only; omega) (.slice A'6 n'6 c'6))⟩
end Go.Proofs.YtpnnfbodphflpaaGreatDoor

/- Walks: the reference: fractions, what is valid. -/
namespace Go.Proofs.YtpnnfbodphflpaaGreatDoor
open Go Go.RowKit Bn
attribute [local go_sem ↓] Go.wp_at_zero Go.wp_at_succ
set_option maxRecDepth 100000 in
set_option maxHeartbeats 2000000 in
/-- linkworkref02.one -/
theorem g_one (w : World)  :
    Calls Tryz.prog 92 #[] w (RetI w 1 1) := by
  go_enter Tryz.func92, Tryz.ntmps92
  go_wp2_with fail
  (with_reducible refine (r01_of1 _ (1) ?_ ?_).mono ?_); (first | omega | decide | assumption); (first | omega | decide | assumption); rintro e w1 ⟨b1, A1, n1, c1, rfl, h1, hb1⟩
  have q1 : Below w.heap.size w w1 := ((Below.refl _ _).alloc (Nat.le_refl _) _).trans (hb1.mono (by simp))
  have x1_0 : Blk w1 (w.heap.size) 48 #[.bool false, .slice none 0 0] := (blkAt _ _ _ (by simp)).below hb1 (by simp)
  have bw1 : Below w.heap.size w w1 := (brefl w).trans (q1.mono (brefl w).size)
  have lw1 : w.heap.size + 1 ≤ w1.heap.size := by have := hb1.size; simp at this; omega
  clear hb1 q1
  obtain ⟨cx1_0_0, cx1_0_1⟩ := x1_0.c2
  obtain ⟨fx1_0_0, fx1_0_1⟩ := x1_0.f2
  obtain ⟨lx1_0_0, lx1_0_1, lx1_0_2, lx1_0_3⟩ := lts0 x1_0.lt
  go_wp2_with fail
  refine bodyPost_ret (v := .agg #[.bool b1, .slice A1 n1 c1]) (by simp [results, Tryz.results92, go_sem, *] <;> first | rfl | exact ⟨rfl, rfl⟩) rfl ?_
  exact ⟨b1, A1, n1, c1, rfl, h1.keep (((Kp.refl w1).setB (p := ⟨w.heap.size, 0, none⟩) x1_0.box (by decide) (.bool b1)).setB (p := ⟨w.heap.size, 1, none⟩) (x1_0.box.set ⟨w.heap.size, 0, none⟩ (.bool b1)) (by decide) (.slice A1 n1 c1)), ((bw1.setCell (p := ⟨w.heap.size, 0, none⟩) (by dsimp only; omega) (.bool b1)).setCell (p := ⟨w.heap.size, 1, none⟩) (by dsimp only; omega) (.slice A1 n1 c1))⟩
theorem r01_cmp_e (w : World) (b : Bool) (A : Option Addr) (n c : Nat) (z : Int) (k : Nat) (h : IZ w b A n c z k) (b' : Bool) (A' : Option Addr) (n' c' : Nat) (z' : Int) (k' : Nat) (h' : IZ w b' A' n' c' z' k') (s : Int) (hs : cmpI z z' = s) (hk : k + k' ≤ 999999999) :
    Calls Tryz.prog 90 #[.agg #[.bool b, .slice A n c], .agg #[.bool b', .slice A' n' c']] w (RetV w (.int .i64 s)) := by subst hs; exact r01_cmp w b A n c z k h b' A' n' c' z' k' h' hk

def plainB (l : List Nat) : Bool := l != [] && last0 l
theorem plain_0 : plainB [] = false := rfl
theorem plain_p {l : List Nat} (h : l ≠ []) : plainB l = last0 l := by unfold plainB; have : (l != []) = true := bne_iff_ne.2 h; rw [this]; rfl
theorem g_plain_e (w : World) (A : Option Addr) (n c : Nat) (l : List Nat) (v : Bool) (h : Wd w A n c l) (hv : plainB l = v) (hn : n ≤ 1000000000) :
    Calls Tryz.prog 89 #[.slice A n c] w (RetV w (.bool v)) := by
  have HL := Lib.hid h.2.1
  have HV := Lib.hid hv
  clear hv
  by_cases h0 : n = 0
  · subst h0
    have hl : l = [] := List.eq_nil_of_length_eq_zero HL.out.symm
    have HE := Lib.hid (show v = false by rw [← HV.out, hl]; rfl)
    clear hl
    go_enter Tryz.func89, Tryz.ntmps89
    go_wp2
    go_ret
    exact retB HE.out.symm (Below.refl _ _)
  · obtain ⟨g, o, rfl, hgl, hc⟩ := h.at2 (by omega)
    have hck := hc (n - 1) (by omega)
    have hlt := h.lt (n - 1)
    have hne : l ≠ [] := by rintro rfl; have := HL.out; simp at this; omega
    have he : v = (wd l (n - 1) != 0) := by rw [← HV.out, plain_p hne]; unfold last0; rw [← HL.out]
    have HE := Lib.hid he
    have hp : 0 < n := by omega
    clear hc h0 he hne
    generalize hgx : wd l (n - 1) = x at *
    clear hgx
    go_enter Tryz.func89, Tryz.ntmps89
    go_wp2
    go_ret
    refine retB ?_ (Below.refl _ _)
    rw [HE.out]
    by_cases hz : x = 0
    · subst hz; rfl
    · have h1 : (x != 0) = true := bne_iff_ne.2 hz
      have h2 : ((x : Int) != 0) = true := bne_iff_ne.2 (by omega)
      first | rw [h1, h2] | simp [hz]
theorem gok_0 {w : World} {b : Bool} {A : Option Addr} {n c : Nat} {D : Option Addr} {m e : Nat} {a : RD} {k : Nat} (h : QD w b A n c D m e a k) (h0 : 0 < n ∨ 0 < m) : a.ok = (plainB a.num && plainB a.den && Nat.gcd (val a.num) (val a.den) == 1) := by
  unfold RD.ok plainB
  rw [if_neg (by intro x; rcases h0 with h1 | h1; exact h.num_ne h1 x.1; exact h.den_ne_ h1 x.2)]
  cases (a.num != []) <;> cases (a.den != []) <;> cases (last0 a.num) <;> cases (last0 a.den) <;> simp
theorem plain_wd {l : List Nat} (h : plainB l = true) : WD.ok ⟨false, l⟩ = true := by
  unfold plainB at h
  have h1 : l ≠ [] := by rintro rfl; exact absurd h (by decide)
  rw [wdok_ h1]
  exact ((Bool.and_eq_true _ _).mp h).2
set_option maxRecDepth 100000 in
set_option maxHeartbeats 1000000 in
/-- linkworkref02.Valid -/
theorem g_valid_0 (w : World) (b : Bool) (A : Option Addr) (n c : Nat) (D : Option Addr) (m e : Nat) (a : RD) (k : Nat) (h : QD w b A n c D m e a k) (hk : k ≤ 300000000) (h1 : n = 0) (h2 : m = 0) :
    Calls Tryz.prog 37 #[.agg #[.bool b, .slice A n c, .slice D m e]] w (RetV w (.bool a.ok)) := by
  have HR := Lib.hid (show a.ok = !b from ok_00 h h1 h2)
  have HK := Lib.hid hk
  subst h1 h2
  clear h hk
  go_enter Tryz.func37, Tryz.ntmps37
  go_wp2
  go_ret
  exact retB (by rw [HR.out]) ((Below.refl _ _).alloc (Nat.le_refl _) _)
set_option maxRecDepth 100000 in
set_option maxHeartbeats 1000000 in
/-- linkworkref02.Valid -/
theorem g_valid_z1 (w : World) (b : Bool) (A : Option Addr) (n c : Nat) (D : Option Addr) (m e : Nat) (a : RD) (k : Nat) (h : QD w b A n c D m e a k) (hk : k ≤ 300000000) (h1 : n = 0) (h2 : 0 < m) (p1 : plainB a.num = false) :
    Calls Tryz.prog 37 #[.agg #[.bool b, .slice A n c, .slice D m e]] w (RetV w (.bool a.ok)) := by
  have HR := Lib.hid (show a.ok = false by rw [gok_0 h (.inr h2), p1]; simp)
  have HP1 := Lib.hid p1
  have e1 : ((n : Int) == 0) = true := by simp [h1]
  have e2 : ((m : Int) == 0) = false := by simp; omega
  have HK := Lib.hid hk
  clear h1 hk p1 h2
  go_enter Tryz.func37, Tryz.ntmps37
  go_wp2_with fail
  (with_reducible refine (g_plain_e _ A n c a.num false ?_ ?_ ?_).mono ?_); (exact h.2.1.belw ((Below.refl _ _).alloc (Nat.le_refl _) _)); (exact HP1.out); (have := h.2.2.2.1; have := HK.out; omega); rintro e w1 ⟨rfl, hb1⟩
  have q1 : Below w.heap.size w w1 := ((Below.refl _ _).alloc (Nat.le_refl _) _).trans (hb1.mono (by simp))
  replace h := h.belw q1
  have x1_0 : Blk w1 (w.heap.size) 24 #[.bool b, .slice A n c, .slice D m e] := (blkAt _ _ _ (by simp)).below hb1 (by simp)
  have bw1 : Below w.heap.size w w1 := (brefl w).trans (q1.mono (brefl w).size)
  have lw1 : w.heap.size + 1 ≤ w1.heap.size := by have := hb1.size; simp at this; omega
  clear hb1 q1
  go_wp2_with fail
  go_ret
  exact retB HR.out.symm bw1
set_option maxRecDepth 100000 in
set_option maxHeartbeats 1000000 in
/-- linkworkref02.Valid -/
theorem g_valid_z2 (w : World) (b : Bool) (A : Option Addr) (n c : Nat) (D : Option Addr) (m e : Nat) (a : RD) (k : Nat) (h : QD w b A n c D m e a k) (hk : k ≤ 300000000) (h1 : n = 0) (h2 : 0 < m) (p1 : plainB a.num = true) (p2 : plainB a.den = false) :
    Calls Tryz.prog 37 #[.agg #[.bool b, .slice A n c, .slice D m e]] w (RetV w (.bool a.ok)) := by
  have HR := Lib.hid (show a.ok = false by rw [gok_0 h (.inr h2), p1, p2]; simp)
  have HP1 := Lib.hid p1
  have HP2 := Lib.hid p2
  have e1 : ((n : Int) == 0) = true := by simp [h1]
  have e2 : ((m : Int) == 0) = false := by simp; omega
  have HK := Lib.hid hk
  clear h1 hk p1 h2 p2
  go_enter Tryz.func37, Tryz.ntmps37
  go_wp2_with fail
  (with_reducible refine (g_plain_e _ A n c a.num true ?_ ?_ ?_).mono ?_); (exact h.2.1.belw ((Below.refl _ _).alloc (Nat.le_refl _) _)); (exact HP1.out); (have := h.2.2.2.1; have := HK.out; omega); rintro e w1 ⟨rfl, hb1⟩
  have q1 : Below w.heap.size w w1 := ((Below.refl _ _).alloc (Nat.le_refl _) _).trans (hb1.mono (by simp))
  replace h := h.belw q1
  have x1_0 : Blk w1 (w.heap.size) 24 #[.bool b, .slice A n c, .slice D m e] := (blkAt _ _ _ (by simp)).below hb1 (by simp)
  have bw1 : Below w.heap.size w w1 := (brefl w).trans (q1.mono (brefl w).size)
  have lw1 : w.heap.size + 1 ≤ w1.heap.size := by have := hb1.size; simp at this; omega
  clear hb1 q1
  obtain ⟨cx1_0_0, cx1_0_1, cx1_0_2⟩ := x1_0.c3
  obtain ⟨lx1_0_0, lx1_0_1, lx1_0_2, lx1_0_3⟩ := lts0 x1_0.lt
  go_wp2_with fail
  (with_reducible refine (g_plain_e _ D m e a.den false ?_ ?_ ?_).mono ?_); (exact h.2.2.1); (exact HP2.out); (have := h.2.2.2.2; have := HK.out; omega); rintro e w2 ⟨rfl, hb2⟩
  clear cx1_0_0 cx1_0_1 cx1_0_2 lx1_0_0 lx1_0_1 lx1_0_2 lx1_0_3
  have q2 : Below w1.heap.size w1 w2 := hb2
  replace h := h.belw q2
  replace x1_0 := x1_0.below q2 x1_0.lt
  have bw2 : Below w.heap.size w w2 := bw1.trans (q2.mono bw1.size)
  have lw2 : w1.heap.size ≤ w2.heap.size := q2.size
  clear hb2 q2 bw1
  go_wp2_with fail
  go_ret
  exact retB HR.out.symm bw2
set_option maxRecDepth 100000 in
set_option maxHeartbeats 1000000 in
/-- linkworkref02.Valid -/
theorem g_valid_z3 (w : World) (b : Bool) (A : Option Addr) (n c : Nat) (D : Option Addr) (m e : Nat) (a : RD) (k : Nat) (h : QD w b A n c D m e a k) (hk : k ≤ 300000000) (h1 : n = 0) (h2 : 0 < m) (p1 : plainB a.num = true) (p2 : plainB a.den = true) :
    Calls Tryz.prog 37 #[.agg #[.bool b, .slice A n c, .slice D m e]] w (RetV w (.bool a.ok)) := by
  have HR := Lib.hid (show a.ok = (Nat.gcd (val a.num) (val a.den) == 1) by rw [gok_0 h (.inr h2), p1, p2]; simp)
  have HP1 := Lib.hid p1
  have HP2 := Lib.hid p2
  have e1 : ((n : Int) == 0) = true := by simp [h1]
  have e2 : ((m : Int) == 0) = false := by simp; omega
  have HK := Lib.hid hk
  clear h1 hk p1 h2 p2
  go_enter Tryz.func37, Tryz.ntmps37
  go_wp2_with fail
  obtain ⟨s, hs⟩ : ∃ s, cmpI ((Nat.gcd ((val a.num : Int)).natAbs ((val a.den : Int)).natAbs : Nat)) 1 = s := ⟨_, rfl⟩
  have HC := Lib.hid hs
  clear hs
  have hN := h.num_z (plain_wd HP1.out)
  have hD := h.den_z (plain_wd HP2.out)
  (with_reducible refine (g_plain_e _ A n c a.num true ?_ ?_ ?_).mono ?_); (exact h.2.1.belw ((Below.refl _ _).alloc (Nat.le_refl _) _)); (exact HP1.out); (have := h.2.2.2.1; have := HK.out; omega); rintro e w1 ⟨rfl, hb1⟩
  have q1 : Below w.heap.size w w1 := ((Below.refl _ _).alloc (Nat.le_refl _) _).trans (hb1.mono (by simp))
  replace h := h.belw q1
  replace hN := hN.belw q1
  replace hD := hD.belw q1
  have x1_0 : Blk w1 (w.heap.size) 24 #[.bool b, .slice A n c, .slice D m e] := (blkAt _ _ _ (by simp)).below hb1 (by simp)
  have bw1 : Below w.heap.size w w1 := (brefl w).trans (q1.mono (brefl w).size)
  have lw1 : w.heap.size + 1 ≤ w1.heap.size := by have := hb1.size; simp at this; omega
  clear hb1 q1
  obtain ⟨cx1_0_0, cx1_0_1, cx1_0_2⟩ := x1_0.c3
  obtain ⟨lx1_0_0, lx1_0_1, lx1_0_2, lx1_0_3⟩ := lts0 x1_0.lt
  go_wp2_with fail
  (with_reducible refine (g_plain_e _ D m e a.den true ?_ ?_ ?_).mono ?_); (exact h.2.2.1); (exact HP2.out); (have := h.2.2.2.2; have := HK.out; omega); rintro e w2 ⟨rfl, hb2⟩
  clear cx1_0_0 cx1_0_1 cx1_0_2 lx1_0_0 lx1_0_1 lx1_0_2 lx1_0_3
  have q2 : Below w1.heap.size w1 w2 := hb2
  replace h := h.belw q2
  replace hN := hN.belw q2
  replace hD := hD.belw q2
  replace x1_0 := x1_0.below q2 x1_0.lt
  have bw2 : Below w.heap.size w w2 := bw1.trans (q2.mono bw1.size)
  have lw2 : w1.heap.size ≤ w2.heap.size := q2.size
  clear hb2 q2 bw1
  obtain ⟨cx1_0_0, cx1_0_1, cx1_0_2⟩ := x1_0.c3
  obtain ⟨lx1_0_0, lx1_0_1, lx1_0_2, lx1_0_3⟩ := lts0 x1_0.lt
  go_wp2_with fail
  (with_reducible refine (r01_gcd _ false A n c ((val a.num : Int)) (k) ?_ false D m e ((val a.den : Int)) (k) ?_ ?_).mono ?_); (exact hN); (exact hD); (have := HK.out; omega); rintro e w3 ⟨b3, A3, n3, c3, rfl, h3, hb3⟩
  clear cx1_0_0 cx1_0_1 cx1_0_2 lx1_0_0 lx1_0_1 lx1_0_2 lx1_0_3
  have q3 : Below w2.heap.size w2 w3 := hb3
  replace h := h.belw q3
  replace hN := hN.belw q3
  replace hD := hD.belw q3
  replace x1_0 := x1_0.below q3 x1_0.lt
  have bw3 : Below w.heap.size w w3 := bw2.trans (q3.mono bw2.size)
  have lw3 : w2.heap.size ≤ w3.heap.size := q3.size
  clear hb3 q3 bw2
  go_wp2_with fail
  (with_reducible refine (g_one _).mono ?_); rintro e w4 ⟨b4, A4, n4, c4, rfl, h4, hb4⟩
  have q4 : Below w3.heap.size w3 w4 := hb4
  replace h := h.belw q4
  replace hN := hN.belw q4
  replace hD := hD.belw q4
  replace h3 := h3.belw q4
  replace x1_0 := x1_0.below q4 x1_0.lt
  have bw4 : Below w.heap.size w w4 := bw3.trans (q4.mono bw3.size)
  have lw4 : w3.heap.size ≤ w4.heap.size := q4.size
  clear hb4 q4 bw3
  go_wp2_with fail
  (with_reducible refine (r01_cmp_e _ b3 A3 n3 c3 ((Nat.gcd (((val a.num : Int))).natAbs (((val a.den : Int))).natAbs : Nat)) ((k) + (k)) ?_ b4 A4 n4 c4 (1) (1) ?_ s ?_ ?_).mono ?_); (exact h3.iz); (exact h4.iz); (exact HC.out); (have := HK.out; omega); rintro e w5 ⟨rfl, hb5⟩
  have q5 : Below w4.heap.size w4 w5 := hb5
  replace h := h.belw q5
  replace hN := hN.belw q5
  replace hD := hD.belw q5
  replace h3 := h3.belw q5
  replace h4 := h4.belw q5
  replace x1_0 := x1_0.below q5 x1_0.lt
  have bw5 : Below w.heap.size w w5 := bw4.trans (q5.mono bw4.size)
  have lw5 : w4.heap.size ≤ w5.heap.size := q5.size
  clear hb5 q5 bw4
  go_wp2_with fail
  go_ret
  exact retB (ok_last HC.out HR.out) bw5
set_option maxRecDepth 100000 in
set_option maxHeartbeats 1000000 in
/-- linkworkref02.Valid -/
theorem g_valid_p1 (w : World) (b : Bool) (A : Option Addr) (n c : Nat) (D : Option Addr) (m e : Nat) (a : RD) (k : Nat) (h : QD w b A n c D m e a k) (hk : k ≤ 300000000) (h1 : 0 < n) (p1 : plainB a.num = false) :
    Calls Tryz.prog 37 #[.agg #[.bool b, .slice A n c, .slice D m e]] w (RetV w (.bool a.ok)) := by
  have HR := Lib.hid (show a.ok = false by rw [gok_0 h (.inl h1), p1]; simp)
  have HP1 := Lib.hid p1
  have e1 : ((n : Int) == 0) = false := by simp; omega
  have HK := Lib.hid hk
  clear h1 hk p1
  go_enter Tryz.func37, Tryz.ntmps37
  go_wp2_with fail
  (with_reducible refine (g_plain_e _ A n c a.num false ?_ ?_ ?_).mono ?_); (exact h.2.1.belw ((Below.refl _ _).alloc (Nat.le_refl _) _)); (exact HP1.out); (have := h.2.2.2.1; have := HK.out; omega); rintro e w1 ⟨rfl, hb1⟩
  have q1 : Below w.heap.size w w1 := ((Below.refl _ _).alloc (Nat.le_refl _) _).trans (hb1.mono (by simp))
  replace h := h.belw q1
  have x1_0 : Blk w1 (w.heap.size) 24 #[.bool b, .slice A n c, .slice D m e] := (blkAt _ _ _ (by simp)).below hb1 (by simp)
  have bw1 : Below w.heap.size w w1 := (brefl w).trans (q1.mono (brefl w).size)
  have lw1 : w.heap.size + 1 ≤ w1.heap.size := by have := hb1.size; simp at this; omega
  clear hb1 q1
  go_wp2_with fail
  go_ret
  exact retB HR.out.symm bw1
set_option maxRecDepth 100000 in
set_option maxHeartbeats 1000000 in
/-- linkworkref02.Valid -/
theorem g_valid_p2 (w : World) (b : Bool) (A : Option Addr) (n c : Nat) (D : Option Addr) (m e : Nat) (a : RD) (k : Nat) (h : QD w b A n c D m e a k) (hk : k ≤ 300000000) (h1 : 0 < n) (p1 : plainB a.num = true) (p2 : plainB a.den = false) :
    Calls Tryz.prog 37 #[.agg #[.bool b, .slice A n c, .slice D m e]] w (RetV w (.bool a.ok)) := by
  have HR := Lib.hid (show a.ok = false by rw [gok_0 h (.inl h1), p1, p2]; simp)
  have HP1 := Lib.hid p1
  have HP2 := Lib.hid p2
  have e1 : ((n : Int) == 0) = false := by simp; omega
  have HK := Lib.hid hk
  clear h1 hk p1 p2
  go_enter Tryz.func37, Tryz.ntmps37
  go_wp2_with fail
  (with_reducible refine (g_plain_e _ A n c a.num true ?_ ?_ ?_).mono ?_); (exact h.2.1.belw ((Below.refl _ _).alloc (Nat.le_refl _) _)); (exact HP1.out); (have := h.2.2.2.1; have := HK.out; omega); rintro e w1 ⟨rfl, hb1⟩
  have q1 : Below w.heap.size w w1 := ((Below.refl _ _).alloc (Nat.le_refl _) _).trans (hb1.mono (by simp))
  replace h := h.belw q1
  have x1_0 : Blk w1 (w.heap.size) 24 #[.bool b, .slice A n c, .slice D m e] := (blkAt _ _ _ (by simp)).below hb1 (by simp)
  have bw1 : Below w.heap.size w w1 := (brefl w).trans (q1.mono (brefl w).size)
  have lw1 : w.heap.size + 1 ≤ w1.heap.size := by have := hb1.size; simp at this; omega
  clear hb1 q1
  obtain ⟨cx1_0_0, cx1_0_1, cx1_0_2⟩ := x1_0.c3
  obtain ⟨lx1_0_0, lx1_0_1, lx1_0_2, lx1_0_3⟩ := lts0 x1_0.lt
  go_wp2_with fail
  (with_reducible refine (g_plain_e _ D m e a.den false ?_ ?_ ?_).mono ?_); (exact h.2.2.1); (exact HP2.out); (have := h.2.2.2.2; have := HK.out; omega); rintro e w2 ⟨rfl, hb2⟩
  clear cx1_0_0 cx1_0_1 cx1_0_2 lx1_0_0 lx1_0_1 lx1_0_2 lx1_0_3
  have q2 : Below w1.heap.size w1 w2 := hb2
  replace h := h.belw q2
  replace x1_0 := x1_0.below q2 x1_0.lt
  have bw2 : Below w.heap.size w w2 := bw1.trans (q2.mono bw1.size)
  have lw2 : w1.heap.size ≤ w2.heap.size := q2.size
  clear hb2 q2 bw1
  go_wp2_with fail
  go_ret
  exact retB HR.out.symm bw2
set_option maxRecDepth 100000 in
set_option maxHeartbeats 1000000 in
/-- linkworkref02.Valid -/
theorem g_valid_p3 (w : World) (b : Bool) (A : Option Addr) (n c : Nat) (D : Option Addr) (m e : Nat) (a : RD) (k : Nat) (h : QD w b A n c D m e a k) (hk : k ≤ 300000000) (h1 : 0 < n) (p1 : plainB a.num = true) (p2 : plainB a.den = true) :
    Calls Tryz.prog 37 #[.agg #[.bool b, .slice A n c, .slice D m e]] w (RetV w (.bool a.ok)) := by
  have HR := Lib.hid (show a.ok = (Nat.gcd (val a.num) (val a.den) == 1) by rw [gok_0 h (.inl h1), p1, p2]; simp)
  have HP1 := Lib.hid p1
  have HP2 := Lib.hid p2
  have e1 : ((n : Int) == 0) = false := by simp; omega
  have HK := Lib.hid hk
  clear h1 hk p1 p2
  go_enter Tryz.func37, Tryz.ntmps37
  go_wp2_with fail
  obtain ⟨s, hs⟩ : ∃ s, cmpI ((Nat.gcd ((val a.num : Int)).natAbs ((val a.den : Int)).natAbs : Nat)) 1 = s := ⟨_, rfl⟩
  have HC := Lib.hid hs
  clear hs
  have hN := h.num_z (plain_wd HP1.out)
  have hD := h.den_z (plain_wd HP2.out)
  (with_reducible refine (g_plain_e _ A n c a.num true ?_ ?_ ?_).mono ?_); (exact h.2.1.belw ((Below.refl _ _).alloc (Nat.le_refl _) _)); (exact HP1.out); (have := h.2.2.2.1; have := HK.out; omega); rintro e w1 ⟨rfl, hb1⟩
  have q1 : Below w.heap.size w w1 := ((Below.refl _ _).alloc (Nat.le_refl _) _).trans (hb1.mono (by simp))
  replace h := h.belw q1
  replace hN := hN.belw q1
  replace hD := hD.belw q1
  have x1_0 : Blk w1 (w.heap.size) 24 #[.bool b, .slice A n c, .slice D m e] := (blkAt _ _ _ (by simp)).below hb1 (by simp)
  have bw1 : Below w.heap.size w w1 := (brefl w).trans (q1.mono (brefl w).size)
  have lw1 : w.heap.size + 1 ≤ w1.heap.size := by have := hb1.size; simp at this; omega
  clear hb1 q1
  obtain ⟨cx1_0_0, cx1_0_1, cx1_0_2⟩ := x1_0.c3
  obtain ⟨lx1_0_0, lx1_0_1, lx1_0_2, lx1_0_3⟩ := lts0 x1_0.lt
  go_wp2_with fail
  (with_reducible refine (g_plain_e _ D m e a.den true ?_ ?_ ?_).mono ?_); (exact h.2.2.1); (exact HP2.out); (have := h.2.2.2.2; have := HK.out; omega); rintro e w2 ⟨rfl, hb2⟩
  clear cx1_0_0 cx1_0_1 cx1_0_2 lx1_0_0 lx1_0_1 lx1_0_2 lx1_0_3
  have q2 : Below w1.heap.size w1 w2 := hb2
  replace h := h.belw q2
  replace hN := hN.belw q2
  replace hD := hD.belw q2
  replace x1_0 := x1_0.below q2 x1_0.lt
  have bw2 : Below w.heap.size w w2 := bw1.trans (q2.mono bw1.size)
  have lw2 : w1.heap.size ≤ w2.heap.size := q2.size
  clear hb2 q2 bw1
  obtain ⟨cx1_0_0, cx1_0_1, cx1_0_2⟩ := x1_0.c3
  obtain ⟨lx1_0_0, lx1_0_1, lx1_0_2, lx1_0_3⟩ := lts0 x1_0.lt
  go_wp2_with fail
  (with_reducible refine (r01_gcd _ false A n c ((val a.num : Int)) (k) ?_ false D m e ((val a.den : Int)) (k) ?_ ?_).mono ?_); (exact hN); (exact hD); (have := HK.out; omega); rintro e w3 ⟨b3, A3, n3, c3, rfl, h3, hb3⟩
  clear cx1_0_0 cx1_0_1 cx1_0_2 lx1_0_0 lx1_0_1 lx1_0_2 lx1_0_3
  have q3 : Below w2.heap.size w2 w3 := hb3
  replace h := h.belw q3
  replace hN := hN.belw q3
  replace hD := hD.belw q3
  replace x1_0 := x1_0.below q3 x1_0.lt
  have bw3 : Below w.heap.size w w3 := bw2.trans (q3.mono bw2.size)
  have lw3 : w2.heap.size ≤ w3.heap.size := q3.size
  clear hb3 q3 bw2
  go_wp2_with fail
  (with_reducible refine (g_one _).mono ?_); rintro e w4 ⟨b4, A4, n4, c4, rfl, h4, hb4⟩
  have q4 : Below w3.heap.size w3 w4 := hb4
  replace h := h.belw q4
  replace hN := hN.belw q4
  replace hD := hD.belw q4
  replace h3 := h3.belw q4
  replace x1_0 := x1_0.below q4 x1_0.lt
  have bw4 : Below w.heap.size w w4 := bw3.trans (q4.mono bw3.size)
  have lw4 : w3.heap.size ≤ w4.heap.size := q4.size
  clear hb4 q4 bw3
  go_wp2_with fail
  (with_reducible refine (r01_cmp_e _ b3 A3 n3 c3 ((Nat.gcd (((val a.num : Int))).natAbs (((val a.den : Int))).natAbs : Nat)) ((k) + (k)) ?_ b4 A4 n4 c4 (1) (1) ?_ s ?_ ?_).mono ?_); (exact h3.iz); (exact h4.iz); (exact HC.out); (have := HK.out; omega); rintro e w5 ⟨rfl, hb5⟩
  have q5 : Below w4.heap.size w4 w5 := hb5
  replace h := h.belw q5
  replace hN := hN.belw q5
  replace hD := hD.belw q5
  replace h3 := h3.belw q5
  replace h4 := h4.belw q5
  replace x1_0 := x1_0.below q5 x1_0.lt
  have bw5 : Below w.heap.size w w5 := bw4.trans (q5.mono bw4.size)
  have lw5 : w4.heap.size ≤ w5.heap.size := q5.size
  clear hb5 q5 bw4
  go_wp2_with fail
  go_ret
  exact retB (ok_last HC.out HR.out) bw5
theorem g_valid (w : World) (b : Bool) (A : Option Addr) (n c : Nat) (D : Option Addr) (m e : Nat) (a : RD) (k : Nat) (h : QD w b A n c D m e a k) (hk : k ≤ 300000000) : Calls Tryz.prog 37 #[.agg #[.bool b, .slice A n c, .slice D m e]] w (RetV w (.bool a.ok)) := by
  rcases Nat.eq_zero_or_pos n with h1 | h1
  · rcases Nat.eq_zero_or_pos m with h2 | h2
    · exact g_valid_0 w b A n c D m e a k h hk h1 h2
    · cases p1 : plainB a.num
      · exact g_valid_z1 w b A n c D m e a k h hk h1 h2 p1
      · cases p2 : plainB a.den
        · exact g_valid_z2 w b A n c D m e a k h hk h1 h2 p1 p2
        · exact g_valid_z3 w b A n c D m e a k h hk h1 h2 p1 p2
  · cases p1 : plainB a.num
    · exact g_valid_p1 w b A n c D m e a k h hk h1 p1
    · cases p2 : plainB a.den
      · exact g_valid_p2 w b A n c D m e a k h hk h1 p1 p2
      · exact g_valid_p3 w b A n c D m e a k h hk h1 p1 p2
end Go.Proofs.YtpnnfbodphflpaaGreatDoor

/- Rotations with rational half-angle tangents, in plain fractions. -/
namespace Bn
structure TN where
  t : Rat
  h : Bool
deriving DecidableEq
def TN.ok (a : TN) : Prop := a.h = true → a.t = 0
def tzero : TN := ⟨0, false⟩
def thalf : TN := ⟨0, true⟩
def tcos (a : TN) : Rat := if a.h = true then -1 else (1 - a.t * a.t) / (1 + a.t * a.t)
def tsin (a : TN) : Rat := if a.h = true then 0 else (a.t + a.t) / (1 + a.t * a.t)
def tneg (a : TN) : TN := ⟨-a.t, a.h⟩
/-- The sum when the second one is not half a turn, or both are. -/
def tadd1 (a b : TN) : TN :=
  if a.h = true then (if b.h = true then tzero else if b.t = 0 then thalf else ⟨-1 / b.t, false⟩)
  else if 1 - a.t * b.t = 0 then thalf else ⟨(a.t + b.t) / (1 - a.t * b.t), false⟩
def tadd (a b : TN) : TN := if a.h = false ∧ b.h = true then tadd1 b a else tadd1 a b
theorem sq_nonneg' (x : Rat) : 0 ≤ x * x := by
  rcases Rat.le_total (a := 0) (b := x) with h | h
  · exact Rat.mul_nonneg h h
  · have : 0 ≤ -x := by grind
    have := Rat.mul_nonneg this this
    grind
theorem one_add_sq (x : Rat) : 1 + x * x ≠ 0 := by
  have := sq_nonneg' x
  grind
theorem tcs (a : TN) : tcos a * tcos a + tsin a * tsin a = 1 := by
  unfold tcos tsin
  have := one_add_sq a.t
  split
  · grind
  · grind
/-- A turn is given by its cosine and sine. -/
theorem tcs_inj {a b : TN} (ha : a.ok) (hb : b.ok) (hc : tcos a = tcos b) (hs : tsin a = tsin b) : a = b := by
  rcases a with ⟨s, g⟩
  rcases b with ⟨t, h⟩
  have h1 := one_add_sq s
  have h2 := one_add_sq t
  cases g <;> cases h <;> simp only [tcos, tsin, TN.ok, if_true, if_false, Bool.false_eq_true, forall_const, false_implies] at *
  · congr 1
    grind
  · grind
  · grind
  · rw [ha, hb]
theorem tadd_ok {a b : TN} : (tadd a b).ok := by
  unfold tadd tadd1 TN.ok tzero thalf
  split <;> (repeat' split) <;> simp
theorem tcos_add {a b : TN} (ha : a.ok) (hb : b.ok) : tcos (tadd a b) = tcos a * tcos b - tsin a * tsin b := by
  rcases a with ⟨s, g⟩
  rcases b with ⟨t, h⟩
  have h1 := one_add_sq s
  have h2 := one_add_sq t
  cases g <;> cases h <;> simp only [tadd, tadd1, tcos, tsin, TN.ok, tzero, thalf, if_true, if_false, Bool.false_eq_true, Bool.true_eq_false, forall_const, false_implies, and_true, and_false, and_self] at *
  · split
    · simp only [if_true]; grind
    · have h3 := one_add_sq ((s + t) / (1 - s * t))
      simp only [Bool.false_eq_true, if_false]
      grind
  · split
    · simp only [if_true]; grind
    · have h3 := one_add_sq (-1 / s)
      simp only [Bool.false_eq_true, if_false]
      grind
  · split
    · simp only [if_true]; grind
    · have h3 := one_add_sq (-1 / t)
      simp only [Bool.false_eq_true, if_false]
      grind
  · grind
theorem tsin_add {a b : TN} (ha : a.ok) (hb : b.ok) : tsin (tadd a b) = tsin a * tcos b + tcos a * tsin b := by
  rcases a with ⟨s, g⟩
  rcases b with ⟨t, h⟩
  have h1 := one_add_sq s
  have h2 := one_add_sq t
  cases g <;> cases h <;> simp only [tadd, tadd1, tcos, tsin, TN.ok, tzero, thalf, if_true, if_false, Bool.false_eq_true, Bool.true_eq_false, forall_const, false_implies, and_true, and_false, and_self] at *
  · split
    · simp only [if_true]; grind
    · have h3 := one_add_sq ((s + t) / (1 - s * t))
      simp only [Bool.false_eq_true, if_false]
      grind
  · split
    · simp only [if_true]; grind
    · have h3 := one_add_sq (-1 / s)
      simp only [Bool.false_eq_true, if_false]
      grind
  · split
    · simp only [if_true]; grind
    · have h3 := one_add_sq (-1 / t)
      simp only [Bool.false_eq_true, if_false]
      grind
  · grind
theorem tcos_neg (a : TN) : tcos (tneg a) = tcos a := by
  unfold tcos tneg
  split <;> grind
theorem tsin_neg (a : TN) : tsin (tneg a) = - tsin a := by
  unfold tsin tneg
  have := one_add_sq a.t
  split
  · grind
  · grind
theorem tneg_ok {a : TN} (h : a.ok) : (tneg a).ok := by
  unfold TN.ok tneg at *
  intro hh
  have := h hh
  simp [this]
theorem tadd_comm {a b : TN} (ha : a.ok) (hb : b.ok) : tadd a b = tadd b a :=
  tcs_inj tadd_ok tadd_ok (by rw [tcos_add ha hb, tcos_add hb ha]; grind) (by rw [tsin_add ha hb, tsin_add hb ha]; grind)
theorem tadd_assoc {a b c : TN} (ha : a.ok) (hb : b.ok) (hc : c.ok) : tadd (tadd a b) c = tadd a (tadd b c) :=
  tcs_inj tadd_ok tadd_ok
    (by rw [tcos_add tadd_ok hc, tcos_add ha tadd_ok, tcos_add ha hb, tsin_add ha hb, tcos_add hb hc, tsin_add hb hc]; grind)
    (by rw [tsin_add tadd_ok hc, tsin_add ha tadd_ok, tcos_add ha hb, tsin_add ha hb, tcos_add hb hc, tsin_add hb hc]; grind)
theorem tzero_ok : tzero.ok := by intro h; cases h
theorem tadd_neg {a : TN} (ha : a.ok) : tadd a (tneg a) = tzero :=
  tcs_inj tadd_ok tzero_ok
    (by rw [tcos_add ha (tneg_ok ha), tcos_neg, tsin_neg]; have := tcs a; have e : tcos tzero = 1 := by unfold tcos tzero; simp; grind
        rw [e]; grind)
    (by rw [tsin_add ha (tneg_ok ha), tcos_neg, tsin_neg]; have e : tsin tzero = 0 := by unfold tsin tzero; simp; grind
        rw [e]; grind)
theorem tadd_zero {a : TN} (ha : a.ok) : tadd a tzero = a := by
  refine tcs_inj tadd_ok ha ?_ ?_
  · have e : tcos tzero = 1 := by unfold tcos tzero; simp; grind
    have e2 : tsin tzero = 0 := by unfold tsin tzero; simp; grind
    rw [tcos_add ha tzero_ok, e, e2]; grind
  · have e : tcos tzero = 1 := by unfold tcos tzero; simp; grind
    have e2 : tsin tzero = 0 := by unfold tsin tzero; simp; grind
    rw [tsin_add ha tzero_ok, e, e2]; grind
theorem tadd_cancel {a x : TN} (ha : a.ok) (hx : x.ok) : tadd (tadd a x) (tneg a) = x := by
  rw [tadd_comm ha hx, tadd_assoc hx ha (tneg_ok ha), tadd_neg ha, tadd_zero hx]
theorem tadd_back {a b : TN} (ha : a.ok) (hb : b.ok) : tadd a (tadd b (tneg a)) = b := by
  rw [tadd_comm ha tadd_ok, tadd_assoc hb (tneg_ok ha) ha, tadd_comm (tneg_ok ha) ha, tadd_neg ha, tadd_zero hb]

/-! ### order -/
def tpart (a : TN) : Int := if a.h = true then 1 else if a.t < 0 then 2 else 0
def rcmp (a b : Rat) : Int := if a < b then -1 else if a = b then 0 else 1
def tcmp (a b : TN) : Int := if tpart a < tpart b then -1 else if tpart b < tpart a then 1 else rcmp a.t b.t
def tinside (a b x : TN) : Bool := if tcmp a b = 0 then true else decide (tcmp (tadd x (tneg a)) (tadd b (tneg a)) ≤ 0)
def tbetween (a b : TN) : TN :=
  if (tadd b (tneg a)).h = true then tadd a ⟨1, false⟩
  else if 0 < (tadd b (tneg a)).t then tadd a ⟨(tadd b (tneg a)).t / 2, false⟩
  else tadd a thalf
theorem rcmp_neg (a b : Rat) : rcmp a b = - rcmp b a := by
  unfold rcmp
  rcases (show a < b ∨ a = b ∨ b < a by grind) with h | h | h
  · rw [if_pos h, if_neg (by grind), if_neg (by grind)]
  · subst h; simp
  · rw [if_pos h, if_neg (by grind), if_neg (by grind)]; rfl
theorem rcmp_zero {a b : Rat} : rcmp a b = 0 ↔ a = b := by
  unfold rcmp
  split
  · grind
  · split
    · simpa
    · simpa
theorem tcmp_neg (a b : TN) : tcmp a b = - tcmp b a := by
  unfold tcmp
  have := rcmp_neg a.t b.t
  by_cases h1 : tpart a < tpart b
  · simp only [if_pos h1, if_neg (show ¬ tpart b < tpart a by omega)]
  · by_cases h2 : tpart b < tpart a
    · simp only [if_neg h1, if_pos h2]; rfl
    · simp only [if_neg h1, if_neg h2]; exact this
theorem tcmp_zero {a b : TN} (ha : a.ok) (hb : b.ok) : tcmp a b = 0 ↔ a = b := by
  constructor
  · intro h
    unfold tcmp at h
    by_cases h1 : tpart a < tpart b
    · rw [if_pos h1] at h; omega
    · by_cases h2 : tpart b < tpart a
      · rw [if_neg h1, if_pos h2] at h; omega
      · rw [if_neg h1, if_neg h2] at h
        have ht := rcmp_zero.1 h
        have hp : tpart a = tpart b := by omega
        rcases a with ⟨s, g⟩
        rcases b with ⟨t, k⟩
        simp only at ht
        subst ht
        unfold tpart at hp
        simp only at hp
        cases g <;> cases k <;> simp at hp ⊢ <;> split at hp <;> omega
  · rintro rfl
    unfold tcmp
    simp [rcmp_zero.2]
theorem rcmp_lt {a b : Rat} : rcmp a b < 0 ↔ a < b := by
  unfold rcmp
  split
  · simpa
  · split <;> simp_all
theorem tcmp_lt {a b : TN} : tcmp a b < 0 ↔ tpart a < tpart b ∨ (tpart a = tpart b ∧ a.t < b.t) := by
  unfold tcmp
  by_cases h1 : tpart a < tpart b
  · simp [h1]
  · by_cases h2 : tpart b < tpart a
    · simp [h1, h2]; omega
    · simp only [if_neg h1, if_neg h2, rcmp_lt]; 
      have : tpart a = tpart b := by omega
      simp [this]
theorem tcmp_trans {a b c : TN} (h1 : tcmp a b < 0) (h2 : tcmp b c < 0) : tcmp a c < 0 := by
  rw [tcmp_lt] at *
  rcases h1 with h1 | ⟨h1, h1'⟩ <;> rcases h2 with h2 | ⟨h2, h2'⟩
  · left; omega
  · left; omega
  · left; omega
  · right; exact ⟨by omega, by grind⟩
/-- What turns a to the turn between. -/
theorem tbetween_way (a b : TN) : ∃ w : TN, w.ok ∧ tbetween a b = tadd a w ∧ w ≠ tzero ∧ (tadd b (tneg a) ≠ tzero → tcmp w (tadd b (tneg a)) < 0) := by
  unfold tbetween
  have hok : (tadd b (tneg a)).ok := tadd_ok
  generalize tadd b (tneg a) = d at *
  rcases d with ⟨t, h⟩
  simp only
  split
  · rename_i hh
    refine ⟨⟨1, false⟩, (by intro h; cases h), rfl, (by intro h; injection h with h; revert h; decide), fun _ => ?_⟩
    rw [tcmp_lt]; left
    unfold tpart
    simp only [hh, if_true, Bool.false_eq_true, if_false]
    split
    · exact absurd ‹_› (by decide)
    · decide
  · rename_i hh
    have hh' : h = false := by simpa using hh
    subst hh'
    split
    · rename_i hp
      refine ⟨⟨t / 2, false⟩, (by intro h; cases h), rfl, (by intro h; injection h with h; grind), fun _ => ?_⟩
      rw [tcmp_lt]; right
      unfold tpart
      have h1 : ¬ t / 2 < 0 := by grind
      have h2 : ¬ t < 0 := by grind
      simp only [h1, h2, Bool.false_eq_true, if_false]
      refine ⟨trivial, by grind⟩
    · rename_i hp
      refine ⟨thalf, (by intro h; rfl), rfl, (by intro h; cases h), fun hne => ?_⟩
      rw [tcmp_lt]; left
      have h1 : t < 0 := by
        rcases (show t < 0 ∨ t = 0 ∨ 0 < t by grind) with h | h | h
        · exact h
        · exact absurd (by rw [h]; rfl) hne
        · exact absurd h hp
      unfold tpart thalf
      simp [h1]
/-- P12.4. -/
theorem tbetween_inside {a b : TN} (ha : a.ok) (hb : b.ok) : tinside a b (tbetween a b) = true ∧ tcmp a (tbetween a b) ≠ 0 ∧ (tcmp a b ≠ 0 → tcmp b (tbetween a b) ≠ 0) := by
  obtain ⟨w, hw, he, hz, hl⟩ := tbetween_way a b
  have hm : (tbetween a b).ok := by rw [he]; exact tadd_ok
  have hd : tcmp a b ≠ 0 → tadd b (tneg a) ≠ tzero := by
    intro h e
    apply h
    rw [tcmp_zero ha hb]
    have := tadd_back ha hb
    rw [e, tadd_zero ha] at this
    exact this
  refine ⟨?_, ?_, ?_⟩
  · unfold tinside
    split
    · rfl
    · rename_i h
      rw [he, tadd_cancel ha hw]
      have := hl (hd h)
      simp; omega
  · rw [Ne, tcmp_zero ha hm, he]
    intro e
    apply hz
    have h1 := tadd_cancel ha hw
    rw [← e, tadd_neg ha] at h1
    exact h1.symm
  · intro h
    rw [Ne, tcmp_zero hb hm, he]
    intro e
    have h1 := tadd_cancel ha hw
    rw [← e] at h1
    have h2 := hl (hd h)
    rw [h1] at h2
    have h3 := (tcmp_zero hw hw).2 rfl
    omega
theorem tinside_one {a b x : TN} (ha : a.ok) (hb : b.ok) (hx : x.ok) (h1 : tcmp a b ≠ 0) (h2 : tcmp b x ≠ 0) (h3 : tcmp a x ≠ 0) : tinside a b x ≠ tinside a x b := by
  unfold tinside
  rw [if_neg h1, if_neg h3]
  have hne : tcmp (tadd x (tneg a)) (tadd b (tneg a)) ≠ 0 := by
    rw [Ne, tcmp_zero tadd_ok tadd_ok]
    intro e
    apply h2
    rw [tcmp_zero hb hx]
    have e1 := tadd_back ha hx
    have e2 := tadd_back ha hb
    rw [e] at e1
    exact e2.symm.trans e1
  have hn := tcmp_neg (tadd x (tneg a)) (tadd b (tneg a))
  intro e
  rw [decide_eq_decide] at e
  omega
/-- A point turned. -/
def tapply (a : TN) (x y : Rat) : Rat × Rat := (tcos a * x - tsin a * y, tsin a * x + tcos a * y)
theorem tapply_add {a b : TN} (ha : a.ok) (hb : b.ok) (x y : Rat) : tapply (tadd a b) x y = tapply b (tapply a x y).1 (tapply a x y).2 := by
  unfold tapply
  rw [tcos_add ha hb, tsin_add ha hb]
  simp only [Prod.mk.injEq]
  constructor <;> grind
theorem tapply_sq (a : TN) (x y : Rat) : (tapply a x y).1 * (tapply a x y).1 + (tapply a x y).2 * (tapply a x y).2 = x * x + y * y := by
  unfold tapply
  have := tcs a
  grind
/-- The turn of a cosine and a sine. -/
def tof (c s : Rat) : TN := if c = -1 then thalf else ⟨s / (1 + c), false⟩
theorem tof_cs {a : TN} (ha : a.ok) : tof (tcos a) (tsin a) = a := by
  rcases a with ⟨t, h⟩
  have h1 := one_add_sq t
  cases h
  · simp only [tof, tcos, tsin, Bool.false_eq_true, if_false]
    have h2 : (1 - t * t) / (1 + t * t) ≠ -1 := by
      intro e
      have : 1 - t * t = -(1 + t * t) := by grind
      grind
    rw [if_neg h2]
    congr 1
    have h3 : 1 + (1 - t * t) / (1 + t * t) ≠ 0 := by grind
    grind
  · have := ha rfl
    simp only at this
    subst this
    simp [tof, tcos, thalf]
end Bn

/- Cells that are only read; turns as values. -/
namespace Go.Proofs.YtpnnfbodphflpaaGreatDoor
open Go Go.RowKit Bn
/-- The first cells of a block, for reading. -/
def Rd (w : World) (g : Nat) (cs : Array Value) : Prop := g < w.heap.size ∧ ∀ i, i < cs.size → w.cell? ⟨g, i, none⟩ = cs[i]?
section
variable {w w' : World} {g : Nat} {cs : Array Value}
theorem Rd.lt (h : Rd w g cs) : g < w.heap.size := h.1
theorem Rd.cell (h : Rd w g cs) (i : Nat) (hi : i < cs.size) : w.cell? ⟨g, i, none⟩ = cs[i]? := h.2 i hi
theorem Rd.below {B : Nat} (h : Rd w g cs) (hb : Below B w w') (hg : g < B) : Rd w' g cs := by
  refine ⟨?_, fun i hi => ?_⟩
  · have := hb.block g hg
    rcases Nat.lt_or_ge g w'.heap.size with h1 | h1
    · exact h1
    · rw [Array.getElem?_eq_none h1, Array.getElem?_eq_getElem h.1] at this; cases this
  · rw [← h.2 i hi]; unfold World.cell?; rw [hb.block g hg]
theorem Rd.alloc (h : Rd w g cs) (o : Obj) : Rd (w.alloc o) g cs := by
  refine ⟨by have := h.1; simp; omega, fun i hi => ?_⟩
  rw [← h.2 i hi]; unfold World.cell?; rw [Below.heap_alloc w o g h.1]
theorem Rd.far (h : Rd w g cs) {p : Addr} (hp : g ≠ p.block) (u : Value) : Rd (w.setCell p u) g cs := by
  refine ⟨by have := h.1; simp [World.setCell]; exact this, fun i hi => ?_⟩
  rw [← h.2 i hi]; unfold World.cell?; rw [Below.heap_setCell w p u g hp]
theorem Rd.mk3 {a b c : Value} (hg : g < w.heap.size) (h0 : w.cell? ⟨g, 0, none⟩ = some a) (h1 : w.cell? ⟨g, 1, none⟩ = some b) (h2 : w.cell? ⟨g, 2, none⟩ = some c) : Rd w g #[a, b, c] := by
  refine ⟨hg, fun i hi => ?_⟩
  match i, hi with
  | 0, _ => exact h0
  | 1, _ => exact h1
  | 2, _ => exact h2
theorem Rd.mk4 {a b c d : Value} (hg : g < w.heap.size) (h0 : w.cell? ⟨g, 0, none⟩ = some a) (h1 : w.cell? ⟨g, 1, none⟩ = some b) (h2 : w.cell? ⟨g, 2, none⟩ = some c) (h3 : w.cell? ⟨g, 3, none⟩ = some d) : Rd w g #[a, b, c, d] := by
  refine ⟨hg, fun i hi => ?_⟩
  match i, hi with
  | 0, _ => exact h0
  | 1, _ => exact h1
  | 2, _ => exact h2
  | 3, _ => exact h3
end
/-- What a region with allocations keeps. -/
abbrev SeesB (G : Nat) (W0 W : World) : Prop := ((∀ b o, b < G → W.cell? ⟨b, o, none⟩ = W0.cell? ⟨b, o, none⟩) ∧ (∀ b o, b < G → W.frozen? ⟨b, o, none⟩ = W0.frozen? ⟨b, o, none⟩)) ∧ G ≤ W.heap.size
theorem SeesB.of {W0 W : World} (hb : Below W0.heap.size W0 W) : SeesB W0.heap.size W0 W := Sees.of (Nat.le_refl _) hb

/-- As SeesX, but for two blocks. -/
abbrev SeesZ (G g g' : Nat) (W0 W : World) : Prop := ((∀ b o, b < G → b ≠ g → b ≠ g' → W.cell? ⟨b, o, none⟩ = W0.cell? ⟨b, o, none⟩) ∧ (∀ b o, b < G → W.frozen? ⟨b, o, none⟩ = W0.frozen? ⟨b, o, none⟩)) ∧ G ≤ W.heap.size
theorem SeesZ.of {G g g' : Nat} {W0 W : World} (h : G ≤ W0.heap.size) (hb : Below W0.heap.size W0 W) : SeesZ G g g' W0 W :=
  ⟨⟨fun b o hlt _ _ => (bcell hb).1 b o (Nat.lt_of_lt_of_le hlt h), fun b o hlt => (bcell hb).2 b o (Nat.lt_of_lt_of_le hlt h)⟩, Nat.le_trans h hb.size⟩
theorem SeesZ.set1 {G g g' : Nat} {W0 W : World} (h : SeesZ G g g' W0 W) {i : Nat} {u : Value} : SeesZ G g g' W0 (W.setCell ⟨g, i, none⟩ u) := by
  refine ⟨⟨fun b o hlt hne hne' => ?_, fun b o hlt => ?_⟩, ?_⟩
  · rw [← h.1.1 b o hlt hne hne']; unfold World.cell?; rw [Below.heap_setCell _ _ _ b hne]
  · rw [← h.1.2 b o hlt]; exact World.frozen?_setCell ..
  · have := h.2; simp [World.setCell]; exact this
theorem SeesZ.set2 {G g g' : Nat} {W0 W : World} (h : SeesZ G g g' W0 W) {i : Nat} {u : Value} : SeesZ G g g' W0 (W.setCell ⟨g', i, none⟩ u) := by
  refine ⟨⟨fun b o hlt hne hne' => ?_, fun b o hlt => ?_⟩, ?_⟩
  · rw [← h.1.1 b o hlt hne hne']; unfold World.cell?; rw [Below.heap_setCell _ _ _ b hne']
  · rw [← h.1.2 b o hlt]; exact World.frozen?_setCell ..
  · have := h.2; simp [World.setCell]; exact this
/-- A fraction that is valid. -/
def QK (w : World) (b : Bool) (A : Option Addr) (n c : Nat) (D : Option Addr) (m e : Nat) (q : Rat) (k : Nat) : Prop := ∃ a, QD w b A n c D m e a k ∧ a.q = q ∧ a.ok = true
section
variable {w w' : World} {b x : Bool} {A D : Option Addr} {n c m e k j : Nat} {q : Rat} {t : TN}
theorem QK.qz (h : QK w b A n c D m e q k) : QZ w b A n c D m e q k := by obtain ⟨a, h1, h2, _⟩ := h; exact ⟨a, h1, h2⟩
theorem QV.qk (h : QV w b A n c D m e q k) : QK w b A n c D m e q k := ⟨_, h, rd_q q, rd_ok q⟩
theorem QK.belw (h : QK w b A n c D m e q k) (hb : Below w.heap.size w w') : QK w' b A n c D m e q k := by obtain ⟨a, h1, h2⟩ := h; exact ⟨a, h1.belw hb, h2⟩
theorem QK.keep (h : QK w b A n c D m e q k) (hb : Kp w w') : QK w' b A n c D m e q k := by obtain ⟨a, h1, h2⟩ := h; exact ⟨a, h1.keep hb, h2⟩
theorem QK.mono (h : QK w b A n c D m e q k) (hk : k ≤ j) : QK w b A n c D m e q j := by obtain ⟨a, h1, h2⟩ := h; exact ⟨a, h1.mono hk, h2⟩
/-- A turn: its fraction is valid, and it is accepted; the same, its fraction laid as its value lays it. -/
def TK (w : World) (b : Bool) (A : Option Addr) (n c : Nat) (D : Option Addr) (m e : Nat) (x : Bool) (t : TN) (k : Nat) : Prop := QK w b A n c D m e t.t k ∧ x = t.h ∧ t.ok
def TV (w : World) (b : Bool) (A : Option Addr) (n c : Nat) (D : Option Addr) (m e : Nat) (x : Bool) (t : TN) (k : Nat) : Prop := QV w b A n c D m e t.t k ∧ x = t.h ∧ t.ok
theorem TV.tk (h : TV w b A n c D m e x t k) : TK w b A n c D m e x t k := ⟨h.1.qk, h.2⟩
theorem TK.belw (h : TK w b A n c D m e x t k) (hb : Below w.heap.size w w') : TK w' b A n c D m e x t k := ⟨h.1.belw hb, h.2⟩
theorem TK.keep (h : TK w b A n c D m e x t k) (hb : Kp w w') : TK w' b A n c D m e x t k := ⟨h.1.keep hb, h.2⟩
theorem TV.belw (h : TV w b A n c D m e x t k) (hb : Below w.heap.size w w') : TV w' b A n c D m e x t k := ⟨h.1.belw hb, h.2⟩
theorem TV.keep (h : TV w b A n c D m e x t k) (hb : Kp w w') : TV w' b A n c D m e x t k := ⟨h.1.keep hb, h.2⟩
theorem TK.mono (h : TK w b A n c D m e x t k) (hk : k ≤ j) : TK w b A n c D m e x t j := ⟨h.1.mono hk, h.2⟩
theorem TK.qk (h : TK w b A n c D m e x t k) : QK w b A n c D m e t.t k := h.1
theorem TK.qz (h : TK w b A n c D m e x t k) : QZ w b A n c D m e t.t k := h.1.qz
theorem TV.qk (h : TV w b A n c D m e x t k) : QK w b A n c D m e t.t k := h.1.qk
theorem TV.qz (h : TV w b A n c D m e x t k) : QZ w b A n c D m e t.t k := h.1.qz
theorem TV.mono (h : TV w b A n c D m e x t k) (hk : k ≤ j) : TV w b A n c D m e x t j := ⟨h.1.mono hk, h.2⟩
end
/-- A turn returned; a turn and no error; two fractions. -/
def RetT (w : World) (t : TN) (k : Nat) (e : Ending) (w' : World) : Prop := ∃ b A n c A' n' c' x, e = .returned (.agg #[.bool b, .slice A n c, .slice A' n' c', .bool x]) ∧ TV w' b A n c A' n' c' x t k ∧ Below w.heap.size w w'
def RetTe (w : World) (v : Value) (t : TN) (k : Nat) (e : Ending) (w' : World) : Prop := ∃ b A n c A' n' c' x, e = .returned (.tuple #[.agg #[.bool b, .slice A n c, .slice A' n' c', .bool x], v]) ∧ TV w' b A n c A' n' c' x t k ∧ Below w.heap.size w w'
def RetQQ (w : World) (q r : Rat) (k : Nat) (e : Ending) (w' : World) : Prop := ∃ b A n c A' n' c' d D m f D' m' f', e = .returned (.tuple #[.agg #[.bool b, .slice A n c, .slice A' n' c'], .agg #[.bool d, .slice D m f, .slice D' m' f']]) ∧ QV w' b A n c A' n' c' q k ∧ QV w' d D m f D' m' f' r k ∧ Below w.heap.size w w'
/-- A place and no error. -/
def RetPe (w : World) (v : Value) (q r : Rat) (k : Nat) (e : Ending) (w' : World) : Prop := ∃ b A n c A' n' c' d D m f D' m' f', e = .returned (.tuple #[.agg #[.bool b, .slice A n c, .slice A' n' c', .bool d, .slice D m f, .slice D' m' f'], v]) ∧ QV w' b A n c A' n' c' q k ∧ QV w' d D m f D' m' f' r k ∧ Below w.heap.size w w'
end Go.Proofs.YtpnnfbodphflpaaGreatDoor

/- A region that draws its order, walked operation by operation: what each one leaves stays true. -/
namespace Go.Proofs.YtpnnfbodphflpaaGreatDoor
open Go Go.RowKit Bn

theorem count_set_lt {l : List Bool} {i : Nat} (h : l[i]? = some false) : (l.set i true).count false + 1 = l.count false := by
  induction l generalizing i with
  | nil => simp at h
  | cons b l ih =>
    cases i with
    | zero => simp at h; subst h; simp
    | succ i =>
      simp only [List.getElem?_cons_succ] at h
      have := ih h
      simp only [List.set_cons_succ, List.count_cons]
      omega
section
variable {P : Program} {ops : Array Oper} {Q : Exit → Act → World → Prop} {md : Region.Mode}
theorem ready_get {L : Array Bool} {i : Nat} (h : i ∈ Region.ready md ops L) : L.toList[i]? = some false := by
  have h1 := (mem_ready.1 h).1
  rcases Nat.lt_or_ge i L.size with h2 | h2
  · rw [Array.getD_eq_getD_getElem?, Array.getElem?_eq_getElem h2] at h1
    simp only [Option.getD_some] at h1
    rw [Array.getElem?_toList, Array.getElem?_eq_getElem h2, h1]
  · rw [Array.getD_eq_getD_getElem?, Array.getElem?_eq_none h2] at h1; cases h1
theorem wpAny_inv (A : Array Bool → Act → World → Prop)
    (hstep : ∀ L a w i, L.size = ops.size → i ∈ Region.ready md ops L → A L a w → wpOp P ops Q i (A (L.setIfInBounds i true)) a w)
    (hend : ∀ L a w, L.size = ops.size → Region.ready md ops L = [] → A L a w → Q .normal a w) :
    ∀ (fuel : Nat) (L : Array Bool) (a : Act) (w : World), L.size = ops.size → L.toList.count false ≤ fuel → A L a w → wpAny P md ops Q fuel L a w := by
  intro fuel
  induction fuel with
  | zero =>
    intro L a w hs hc hA
    have hr : Region.ready md ops L = [] := by
      cases hr : Region.ready md ops L with
      | nil => rfl
      | cons i r =>
        have h1 := ready_get (md := md) (ops := ops) (L := L) (i := i) (by rw [hr]; simp)
        have h2 := count_set_lt h1
        omega
    exact ⟨hr, hend L a w hs hr hA⟩
  | succ fuel ih =>
    intro L a w hs hc hA
    refine ⟨fun hr => hend L a w hs hr hA, fun i hi => wpOp_mono (fun a' w' h' => ih _ _ _ (by simpa using hs) ?_ h') (hstep L a w i hs hi hA)⟩
    have h2 := count_set_lt (ready_get hi)
    rw [Array.toList_setIfInBounds]
    omega
end
/-- The cells of a block from i on. -/
def setFrom (w : World) (g : Nat) : Nat → List Value → World
  | _, [] => w
  | i, u :: us => setFrom (w.setCell ⟨g, i, none⟩ u) g (i + 1) us
def setL (c : Array Value) : Nat → List Value → Array Value
  | _, [] => c
  | i, u :: us => setL (c.setIfInBounds i u) (i + 1) us
section
variable {g : Nat} {t : TypeId}
theorem setFrom_kp (ht : KT t = false) : ∀ (us : List Value) (i : Nat) (w : World) (c : Array Value), Blk w g t c → Kp w (setFrom w g i us) := by
  intro us
  induction us with
  | nil => intro i w c _; exact Kp.refl w
  | cons u us ih =>
    intro i w c h
    exact ((Kp.refl w).setB (p := ⟨g, i, none⟩) h.box ht u).trans (ih (i + 1) _ _ (h.set_ i u))
theorem setFrom_blk : ∀ (us : List Value) (i : Nat) (w : World) (c : Array Value), Blk w g t c → Blk (setFrom w g i us) g t (setL c i us) := by
  intro us
  induction us with
  | nil => intro i w c h; exact h
  | cons u us ih => intro i w c h; exact ih (i + 1) _ _ (h.set_ i u)
theorem setFrom_far {g' : Nat} {t' : TypeId} {c' : Array Value} (hg : g' ≠ g) : ∀ (us : List Value) (i : Nat) (w : World), Blk w g' t' c' → Blk (setFrom w g i us) g' t' c' := by
  intro us
  induction us with
  | nil => intro i w h; exact h
  | cons u us ih => intro i w h; exact ih (i + 1) _ (h.far hg u)
theorem setFrom_below {B : Nat} {a : World} (hg : B ≤ g) : ∀ (us : List Value) (i : Nat) (w : World), Below B a w → Below B a (setFrom w g i us) := by
  intro us
  induction us with
  | nil => intro i w h; exact h
  | cons u us ih => intro i w h; exact ih (i + 1) _ (h.setCell (p := ⟨g, i, none⟩) hg u)
end
theorem setFrom_size {g : Nat} : ∀ (us : List Value) (i : Nat) (w : World), (setFrom w g i us).heap.size = w.heap.size := by
  intro us
  induction us with
  | nil => intro i w; rfl
  | cons u us ih => intro i w; rw [setFrom, ih]; simp [World.setCell]
/-- A variable that the region makes and stores to. -/
structure Flt where
  a : Nat
  s : Nat
  T : TypeId
  Z : Array Value
  PS : Array Value → World → Prop
/-- A block that was there and that the region may store to (s: the store's number; none: a number beyond the list). -/
structure Own where
  g : Nat
  s : Nat
  o : Nat
  T : TypeId
  Z : Array Value
  PS : Array Value → World → Prop
/-- The assertions and the frame with one more value. -/
def upd (x : Nat → Value) (i : Nat) (v : Value) : Nat → Value := fun j => if j = i then v else x j
theorem upd_same (x : Nat → Value) (i : Nat) (v : Value) : upd x i v i = v := by simp [upd]
theorem upd_ne (x : Nat → Value) {i j : Nat} (v : Value) (h : j ≠ i) : upd x i v j = x j := by simp [upd, h]

def LinA (ops : Array Oper) (fr : (Nat → Value) → Act) (R : Nat → Value → World → Prop) (es : List Flt) (ow : List Own) (B : Nat) (W : World) (L : Array Bool) (a : Act) (w : World) : Prop :=
  ∃ x, a = fr x ∧ (Kp W w ∧ Below B W w) ∧ (∀ i, L.getD i false = true → R i (x i) w) ∧
  (∀ i o, ops[i]? = some o → L.getD i false = true → ∀ e ∈ o.after, Region.binds .any e = true → L.getD e.on false = true) ∧
  (∀ f ∈ es, L.getD f.a false = true → ∃ g c, x f.a = .pointer (some ⟨g, 0, none⟩) ∧ W.heap.size ≤ g ∧ Blk w g f.T c ∧ (L.getD f.s false = false → c = f.Z) ∧ (L.getD f.s false = true → f.PS c w)) ∧
  (∀ f ∈ es, ∀ f' ∈ es, f.a ≠ f'.a → L.getD f.a false = true → L.getD f'.a false = true → x f.a ≠ x f'.a) ∧
  (∀ f ∈ ow, ∃ c, Blk w f.g f.T c ∧ (L.getD f.s false = false → c = f.Z) ∧ (L.getD f.s false = true → f.PS c w))

section
variable (P : Program) (ops : Array Oper) (Q : Exit → Act → World → Prop) (fr : (Nat → Value) → Act) (R : Nat → Value → World → Prop) (es : List Flt) (ow : List Own) (B : Nat) (W : World)
/-- What is to be shown of an operation that yields a value. -/
def ValStep (i : Nat) (o : Oper) : Prop := (∀ f ∈ es, i ≠ f.a ∧ i ≠ f.s) ∧ (∀ f ∈ ow, i ≠ f.s) ∧
  ∀ x w, Kp W w → (∀ f ∈ ow, (∀ o', ops[f.s]? = some o' → ∃ e ∈ o'.after, Region.binds .any e = true ∧ e.on = i) → Blk w f.g f.T f.Z) → (∀ e ∈ o.after, Region.binds .any e = true → R e.on (x e.on) w) → ∀ K' : Act → World → Prop, Shut (∀ v w', R i v w' → Below w.heap.size w w' → K' ((fr x).put o.dst v) w') →
    if Region.wanted o (yielded ops (fr x).tmps) = true then Oper.wp P o (fr x) w K' Q else K' ((fr x).put o.dst undef) w
def AllocStep (i : Nat) (o : Oper) : Prop := ∃ f ∈ es, i = f.a ∧ (∀ f' ∈ es, i ≠ f'.s) ∧ (∀ f' ∈ ow, i ≠ f'.s) ∧ (∀ f' ∈ es, f'.a = i → f' = f) ∧ (∀ v w, R i v w) ∧
  ∀ x w, ∀ K' : Act → World → Prop, Shut (K' ((fr x).put o.dst (.pointer (some ⟨w.heap.size, 0, none⟩))) (w.alloc (.cells f.Z f.T))) →
    if Region.wanted o (yielded ops (fr x).tmps) = true then Oper.wp P o (fr x) w K' Q else K' ((fr x).put o.dst undef) w
def StoreStep (i : Nat) (o : Oper) : Prop := ∃ f ∈ es, i = f.s ∧ (∀ f' ∈ es, i ≠ f'.a) ∧ (∀ f' ∈ ow, i ≠ f'.s) ∧ (∀ f' ∈ es, f'.s = i → f' = f) ∧ (∀ f' ∈ es, f'.a = f.a → f' = f) ∧ KT f.T = false ∧ (∀ v w, R i v w) ∧ (∃ e ∈ o.after, Region.binds .any e = true ∧ e.on = f.a) ∧
  ∀ x w g, x f.a = .pointer (some ⟨g, 0, none⟩) → Blk w g f.T f.Z → (∀ e ∈ o.after, Region.binds .any e = true → R e.on (x e.on) w) →
    ∃ us, (∀ w', Kp w w' → f.PS (setL f.Z 0 us) w') ∧ ∀ K' : Act → World → Prop, Shut (∀ v, K' ((fr x).put o.dst v) (setFrom w g 0 us)) →
      if Region.wanted o (yielded ops (fr x).tmps) = true then Oper.wp P o (fr x) w K' Q else K' ((fr x).put o.dst undef) w
def OwnStep (i : Nat) (o : Oper) : Prop := ∃ f ∈ ow, i = f.s ∧ (∀ f' ∈ es, i ≠ f'.a ∧ i ≠ f'.s) ∧ (∀ f' ∈ ow, f'.s = i → f' = f) ∧ KT f.T = false ∧ (∀ v w, R i v w) ∧
  ∀ x w, Blk w f.g f.T f.Z → (∀ e ∈ o.after, Region.binds .any e = true → R e.on (x e.on) w) →
    ∃ us, (∀ w', Kp w w' → f.PS (setL f.Z f.o us) w') ∧ ∀ K' : Act → World → Prop, Shut (∀ v, K' ((fr x).put o.dst v) (setFrom w f.g f.o us)) →
      if Region.wanted o (yielded ops (fr x).tmps) = true then Oper.wp P o (fr x) w K' Q else K' ((fr x).put o.dst undef) w
end
theorem getD_set {L : Array Bool} {i j : Nat} (hi : i < L.size) : (L.setIfInBounds i true).getD j false = (decide (j = i) || L.getD j false) := by
  rw [Array.getD_eq_getD_getElem?, Array.getD_eq_getD_getElem?, Array.getElem?_setIfInBounds]
  by_cases h : i = j
  · subst h; simp [hi]
  · rw [if_neg h]; simp [show ¬ j = i from fun e => h e.symm]
section
variable {P : Program} {ops : Array Oper} {Q : Exit → Act → World → Prop} {fr : (Nat → Value) → Act} {R : Nat → Value → World → Prop} {es : List Flt} {ow : List Own} {B : Nat}
theorem wp_region_lin {id : Nat} {w : World} {x0 : Nat → Value} (hm : P.follows .mixedOrders = true)
    (hput : ∀ i o, ops[i]? = some o → ∀ x v, (fr x).put o.dst v = fr (upd x i v))
    (hac : ∀ i o, ops[i]? = some o → ∀ e ∈ o.after, Region.binds .any e = true → e.on < i)
    (hR : ∀ i v w w', R i v w → Kp w w' → R i v w')
    (hPS : ∀ f ∈ es, ∀ c w w', f.PS c w → Kp w w' → f.PS c w')
    (hPO : ∀ f ∈ ow, ∀ c w w', f.PS c w → Kp w w' → f.PS c w')
    (hfs : ∀ f ∈ es, f.a < ops.size ∧ f.s < ops.size)
    (hB : B ≤ w.heap.size)
    (hO : ∀ f ∈ ow, Blk w f.g f.T f.Z ∧ B ≤ f.g)
    (hOd : ∀ f ∈ ow, ∀ f' ∈ ow, f.g = f'.g → f = f')
    (hstep : ∀ i o, ops[i]? = some o → ValStep P ops Q fr R es ow w i o ∨ AllocStep P ops Q fr R es ow i o ∨ StoreStep P ops Q fr R es ow i o ∨ OwnStep P ops Q fr R es ow i o)
    (hend : ∀ x w', Kp w w' → Below B w w' → w.heap.size ≤ w'.heap.size → (∀ f ∈ ow, ∃ c, Blk w' f.g f.T c ∧ (ops.size ≤ f.s → c = f.Z) ∧ (f.s < ops.size → f.PS c w')) → (∀ i, i < ops.size → R i (x i) w') → (∀ f ∈ es, ∃ g c, x f.a = .pointer (some ⟨g, 0, none⟩) ∧ w.heap.size ≤ g ∧ Blk w' g f.T c ∧ f.PS c w') → (∀ f ∈ es, ∀ f' ∈ es, f.a ≠ f'.a → x f.a ≠ x f'.a) → Q .normal (fr x) w') :
    (Code.region id ops true).wp P Q (fr x0) w := by
  refine wp_region_any hm (wpAny_inv (fun L a w' => w.heap.size ≤ w'.heap.size ∧ LinA ops fr R es ow B w L a w') ?_ ?_ _ _ _ _ (by simp) ?_ ?_)
  · rintro L a w1 i hs hi ⟨hsz, x, rfl, ⟨hkW, hb⟩, hr, hcl, hf, hd, how⟩
    obtain ⟨hun, o, ho, hall⟩ := mem_ready.1 hi
    have hlt : i < L.size := by
      rcases Nat.lt_or_ge i L.size with h | h
      · exact h
      · rw [Array.getD_eq_getD_getElem?, Array.getElem?_eq_none h] at hun; cases hun
    have hunf : L.getD i false = false := by
      rw [Array.getD_eq_getD_getElem?, Array.getElem?_eq_getElem hlt] at hun ⊢; exact hun
    have hdep : ∀ e ∈ o.after, Region.binds .any e = true → R e.on (x e.on) w1 := fun e he hbd => hr _ (hall e he hbd)
    have hcl' : ∀ i' o', ops[i']? = some o' → (L.setIfInBounds i true).getD i' false = true → ∀ e ∈ o'.after, Region.binds .any e = true → (L.setIfInBounds i true).getD e.on false = true := by
      intro i' o' ho' hl e he hbd
      rw [getD_set hlt] at hl ⊢
      by_cases h : i' = i
      · subst h; rw [ho] at ho'; injection ho' with ho'; subst ho'
        rw [hall e he hbd]; simp
      · have : L.getD i' false = true := by simpa [h] using hl
        rw [hcl i' o' ho' this e he hbd]; simp
    refine wpOp_step ho fun K' hK => ?_
    have hsno : ∀ f ∈ ow, (∀ o', ops[f.s]? = some o' → ∃ e ∈ o'.after, Region.binds .any e = true ∧ e.on = i) → Blk w1 f.g f.T f.Z := by
      intro f hfo hdd
      obtain ⟨c, c1, c2, _⟩ := how f hfo
      have : L.getD f.s false = false := by
        cases h : L.getD f.s false
        · rfl
        · exfalso
          have hlt2 : f.s < ops.size := by
            rcases Nat.lt_or_ge f.s L.size with h2 | h2
            · omega
            · rw [Array.getD_eq_getD_getElem?, Array.getElem?_eq_none h2] at h; cases h
          obtain ⟨e, he, hbd, hea⟩ := hdd _ (Array.getElem?_eq_getElem hlt2)
          have := hcl f.s _ (Array.getElem?_eq_getElem hlt2) h e he hbd
          rw [hea, hunf] at this; cases this
      rw [← c2 this]; exact c1
    have howk : ∀ w', Kp w1 w' → (∀ g t c, Blk w1 g t c → (∃ f ∈ ow, f.g = g) → Blk w' g t c) → (∀ f ∈ ow, i ≠ f.s) → ∀ f ∈ ow, ∃ c, Blk w' f.g f.T c ∧ ((L.setIfInBounds i true).getD f.s false = false → c = f.Z) ∧ ((L.setIfInBounds i true).getD f.s false = true → f.PS c w') := by
      intro w' hkp hbl hne f hfo
      obtain ⟨c, c1, c2, c3⟩ := how f hfo
      have n2 := hne f hfo
      refine ⟨c, hbl _ _ _ c1 ⟨f, hfo, rfl⟩, fun h => c2 ?_, fun h => hPO f hfo _ _ _ (c3 ?_) hkp⟩
      · rw [getD_set hlt] at h; simpa [Ne.symm n2] using h
      · rw [getD_set hlt] at h; simpa [Ne.symm n2] using h
    rcases hstep i o ho with ⟨hno, hnow, hv⟩ | ⟨f, hf1, rfl, hnos, hnow, huniq, hRi, hv⟩ | ⟨f, hf1, rfl, hnoa, hnow, huniq, huniqa, hT, hRi, ⟨e, he, hbd, hea⟩, hv⟩ | ⟨f, hf1, rfl, hnoe, huniq, hT, hRi, hv⟩
    · refine hv x w1 hkW hsno hdep K' (fun v w' hRv hbw => hK _ _ ?_)
      have hkp : Kp w1 w' := (Kp.refl w1).below hbw
      refine ⟨Nat.le_trans hsz hbw.size, upd x i v, hput i o ho x v, ⟨hkW.trans hkp, hb.trans (hbw.mono (Nat.le_trans hB hsz))⟩, fun j hj => ?_, hcl', fun f hfe hfa => ?_, fun f hfe f' hfe' hne h1 h2 => ?_, howk w' hkp (fun g t c h _ => h.below hbw h.lt) hnow⟩
      · by_cases h : j = i
        · subst h; rw [upd_same]; exact hRv
        · rw [upd_ne _ _ h]; rw [getD_set hlt] at hj; exact hR _ _ _ _ (hr j (by simpa [h] using hj)) hkp
      · rw [getD_set hlt] at hfa
        have n1 := (hno f hfe).1
        have n2 := (hno f hfe).2
        rw [upd_ne _ _ (Ne.symm n1)]
        obtain ⟨g, c, e1, e2, e3, e4, e5⟩ := hf f hfe (by simpa [Ne.symm n1] using hfa)
        refine ⟨g, c, e1, e2, e3.below hbw e3.lt, fun h => e4 ?_, fun h => hPS f hfe _ _ _ (e5 ?_) hkp⟩
        · rw [getD_set hlt] at h; simpa [Ne.symm n2] using h
        · rw [getD_set hlt] at h; simpa [Ne.symm n2] using h
      · rw [getD_set hlt] at h1 h2
        have n1 := (hno f hfe).1
        have n2 := (hno f' hfe').1
        rw [upd_ne _ _ (Ne.symm n1), upd_ne _ _ (Ne.symm n2)]
        exact hd f hfe f' hfe' hne (by simpa [Ne.symm n1] using h1) (by simpa [Ne.symm n2] using h2)
    · refine hv x w1 K' (hK _ _ ?_)
      have hkp : Kp w1 (w1.alloc (.cells f.Z f.T)) := (Kp.refl w1).alloc _
      have hsl : L.getD f.s false = false := by
        cases h : L.getD f.s false
        · rfl
        · exfalso
          obtain ⟨o', ho'⟩ : ∃ o', ops[f.s]? = some o' := ⟨_, Array.getElem?_eq_getElem (hfs f hf1).2⟩
          rcases hstep f.s o' ho' with ⟨hno, _⟩ | ⟨f2, hf2, e2, hnos2, _⟩ | ⟨f2, hf2, e2, _, _, hu2, _, _, _, ⟨e, he, hbd, hea⟩, _⟩ | ⟨f2, hf2, e2, hno2, _⟩
          · exact (hno f hf1).2 rfl
          · exact hnos2 f hf1 rfl
          · have := hu2 f hf1 rfl
            subst this
            have := hcl f.s o' ho' h e he hbd
            rw [hea] at this
            rw [this] at hunf; cases hunf
          · exact (hno2 f hf1).2 rfl
      refine ⟨by simp; omega, upd x f.a _, hput f.a o ho x _, ⟨hkW.alloc _, hb.alloc (Nat.le_trans hB hsz) _⟩, fun j hj => ?_, hcl', fun f' hfe hfa => ?_, fun f1 hfe f2 hfe' hne h1 h2 => ?_, howk _ hkp (fun g t c h _ => h.alloc _) hnow⟩
      · by_cases h : j = f.a
        · subst h; exact hRi _ _
        · rw [upd_ne _ _ h]; rw [getD_set hlt] at hj; exact hR _ _ _ _ (hr j (by simpa [h] using hj)) hkp
      · by_cases h : f'.a = f.a
        · have := huniq f' hfe h
          subst this
          rw [upd_same]
          refine ⟨_, _, rfl, hsz, Blk.new _ _ _, fun _ => rfl, fun h' => ?_⟩
          rw [getD_set hlt, hsl] at h'
          have : f'.s = f'.a := by simpa using h'
          exact absurd this.symm (hnos f' hfe)
        · rw [upd_ne _ _ h]
          rw [getD_set hlt] at hfa
          have n2 := hnos f' hfe
          obtain ⟨g, c, e1, e2, e3, e4, e5⟩ := hf f' hfe (by simpa [h] using hfa)
          refine ⟨g, c, e1, e2, e3.alloc _, fun h => e4 ?_, fun h => hPS f' hfe _ _ _ (e5 ?_) hkp⟩
          · rw [getD_set hlt] at h; simpa [Ne.symm n2] using h
          · rw [getD_set hlt] at h; simpa [Ne.symm n2] using h
      · rw [getD_set hlt] at h1 h2
        have fresh : ∀ f3 ∈ es, f3.a ≠ f.a → L.getD f3.a false = true → x f3.a ≠ .pointer (some ⟨w1.heap.size, 0, none⟩) := by
          intro f3 h3 hne3 hl3 heq
          obtain ⟨g, c, e1, e2, e3, _⟩ := hf f3 h3 hl3
          rw [e1] at heq
          have hg := e3.lt
          injection heq with heq; injection heq with heq; injection heq with heq
          omega
        by_cases c1 : f1.a = f.a
        · have c2 : f2.a ≠ f.a := fun h => hne (c1.trans h.symm)
          rw [c1, upd_same, upd_ne _ _ c2]
          exact (fresh f2 hfe' c2 (by simpa [c2] using h2)).symm
        · rw [upd_ne _ _ c1]
          by_cases c2 : f2.a = f.a
          · rw [c2, upd_same]; exact fresh f1 hfe c1 (by simpa [c1] using h1)
          · rw [upd_ne _ _ c2]; exact hd f1 hfe f2 hfe' hne (by simpa [c1] using h1) (by simpa [c2] using h2)
    · have hal : L.getD f.a false = true := by rw [← hea]; exact hall e he hbd
      obtain ⟨g, c, e1, e2, e3, e4, e5⟩ := hf f hf1 hal
      have hc := e4 hunf
      subst hc
      obtain ⟨us, hus, hv⟩ := hv x w1 g e1 e3 hdep
      refine hv K' (fun v => hK _ _ ?_)
      have hkp : Kp w1 (setFrom w1 g 0 us) := setFrom_kp hT us 0 w1 _ e3
      have hnb : ∀ f3 ∈ es, f3.a ≠ f.s := fun f3 h3 h => hnoa f3 h3 h.symm
      refine ⟨Nat.le_trans hsz (Nat.le_of_eq (setFrom_size us 0 w1).symm), upd x f.s v, hput f.s o ho x v, ⟨hkW.trans hkp, setFrom_below (Nat.le_trans hB e2) us 0 w1 hb⟩, fun j hj => ?_, hcl', fun f' hfe hfa => ?_, fun f1 hfe f2 hfe' hne h1 h2 => ?_, howk _ hkp (fun g2 t c h hex => setFrom_far (by obtain ⟨f2, h2, rfl⟩ := hex; have := (hO f2 h2).1.lt; omega) us 0 w1 h) hnow⟩
      · by_cases h : j = f.s
        · subst h; exact hRi _ _
        · rw [upd_ne _ _ h]; rw [getD_set hlt] at hj; exact hR _ _ _ _ (hr j (by simpa [h] using hj)) hkp
      · rw [upd_ne _ _ (hnb f' hfe)]
        rw [getD_set hlt] at hfa
        by_cases h : f'.a = f.a
        · have := huniqa f' hfe h
          subst this
          refine ⟨g, _, e1, e2, setFrom_blk us 0 w1 _ e3, fun h' => ?_, fun _ => hus _ hkp⟩
          rw [getD_set hlt] at h'; simp at h'
        · have n2 : f'.s ≠ f.s := fun h2 => h (by rw [huniq f' hfe h2])
          obtain ⟨g', c', d1, d2, d3, d4, d5⟩ := hf f' hfe (by simpa [hnb f' hfe] using hfa)
          have hgg : g' ≠ g := by
            rintro rfl
            exact hd f' hfe f hf1 h (by simpa [hnb f' hfe] using hfa) hal (d1.trans e1.symm)
          refine ⟨g', c', d1, d2, setFrom_far hgg us 0 w1 d3, fun h => d4 ?_, fun h => hPS f' hfe _ _ _ (d5 ?_) hkp⟩
          · rw [getD_set hlt] at h; simpa [n2] using h
          · rw [getD_set hlt] at h; simpa [n2] using h
      · rw [getD_set hlt] at h1 h2
        rw [upd_ne _ _ (hnb f1 hfe), upd_ne _ _ (hnb f2 hfe')]
        exact hd f1 hfe f2 hfe' hne (by simpa [hnb f1 hfe] using h1) (by simpa [hnb f2 hfe'] using h2)
    · obtain ⟨c, c1, c2, _⟩ := how f hf1
      have hc := c2 hunf
      subst hc
      obtain ⟨us, hus, hv⟩ := hv x w1 c1 hdep
      refine hv K' (fun v => hK _ _ ?_)
      have hkp : Kp w1 (setFrom w1 f.g f.o us) := setFrom_kp hT us f.o w1 _ c1
      have hna : ∀ f3 ∈ es, f3.a ≠ f.s := fun f3 h3 h => (hnoe f3 h3).1 h.symm
      have hns : ∀ f3 ∈ es, f3.s ≠ f.s := fun f3 h3 h => (hnoe f3 h3).2 h.symm
      have hgl := (hO f hf1).1.lt
      refine ⟨Nat.le_trans hsz (Nat.le_of_eq (setFrom_size us f.o w1).symm), upd x f.s v, hput f.s o ho x v, ⟨hkW.trans hkp, setFrom_below (hO f hf1).2 us f.o w1 hb⟩, fun j hj => ?_, hcl', fun f' hfe hfa => ?_, fun f1 hfe f2 hfe' hne h1 h2 => ?_, fun f' hfo => ?_⟩
      · by_cases h : j = f.s
        · subst h; exact hRi _ _
        · rw [upd_ne _ _ h]; rw [getD_set hlt] at hj; exact hR _ _ _ _ (hr j (by simpa [h] using hj)) hkp
      · rw [upd_ne _ _ (hna f' hfe)]
        rw [getD_set hlt] at hfa
        have n2 := hns f' hfe
        obtain ⟨g', c', d1, d2, d3, d4, d5⟩ := hf f' hfe (by simpa [hna f' hfe] using hfa)
        refine ⟨g', c', d1, d2, setFrom_far (by omega) us f.o w1 d3, fun h => d4 ?_, fun h => hPS f' hfe _ _ _ (d5 ?_) hkp⟩
        · rw [getD_set hlt] at h; simpa [n2] using h
        · rw [getD_set hlt] at h; simpa [n2] using h
      · rw [getD_set hlt] at h1 h2
        rw [upd_ne _ _ (hna f1 hfe), upd_ne _ _ (hna f2 hfe')]
        exact hd f1 hfe f2 hfe' hne (by simpa [hna f1 hfe] using h1) (by simpa [hna f2 hfe'] using h2)
      · by_cases h : f'.s = f.s
        · have := huniq f' hfo h
          subst this
          refine ⟨_, setFrom_blk us f'.o w1 _ c1, fun h' => ?_, fun _ => hus _ hkp⟩
          rw [getD_set hlt] at h'; simp at h'
        · obtain ⟨c', d3, d4, d5⟩ := how f' hfo
          have hgg : f'.g ≠ f.g := fun h2 => h (by rw [hOd f' hfo f hf1 h2])
          refine ⟨c', setFrom_far hgg us f.o w1 d3, fun h2 => d4 ?_, fun h2 => hPO f' hfo _ _ _ (d5 ?_) hkp⟩
          · rw [getD_set hlt] at h2; simpa [h] using h2
          · rw [getD_set hlt] at h2; simpa [h] using h2
  · rintro L a w1 hs hr0 ⟨hsz, x, rfl, ⟨hkW, hb⟩, hr, hcl, hf, hd, how⟩
    have hallL : ∀ i, i < ops.size → L.getD i false = true := by
      intro i
      induction i using Nat.strongRecOn with
      | ind i ih =>
        intro hi
        cases h : L.getD i false
        · exfalso
          have : i ∈ Region.ready .any ops L := by
            refine mem_ready.2 ⟨?_, ops[i], Array.getElem?_eq_getElem hi, fun e he hbd => ?_⟩
            · rw [Array.getD_eq_getD_getElem?, Array.getElem?_eq_getElem (by omega)] at h ⊢; exact h
            · have h1 := hac i _ (Array.getElem?_eq_getElem hi) e he hbd
              exact ih e.on h1 (by omega)
          rw [hr0] at this; cases this
        · rfl
    refine hend x w1 hkW hb hsz (fun f hfo => ?_) (fun i hi => hr i (hallL i hi)) (fun f hfe => ?_) (fun f hfe f' hfe' hne => hd f hfe f' hfe' hne (hallL _ (hfs f hfe).1) (hallL _ (hfs f' hfe').1))
    · obtain ⟨c, c1, c2, c3⟩ := how f hfo
      refine ⟨c, c1, fun h => c2 ?_, fun h => c3 (hallL _ h)⟩
      rw [Array.getD_eq_getD_getElem?, Array.getElem?_eq_none (by omega)]; rfl
    obtain ⟨g, c, e1, e2, e3, _, e5⟩ := hf f hfe (hallL _ (hfs f hfe).1)
    exact ⟨g, c, e1, e2, e3, e5 (hallL _ (hfs f hfe).2)⟩
  · simp
  · have hz : ∀ j, (Array.replicate ops.size false).getD j false = false := by
      intro j; rw [Array.getD_eq_getD_getElem?, Array.getElem?_replicate]; split <;> rfl
    refine ⟨Nat.le_refl _, x0, rfl, ⟨(Kp.refl w).drew, (Below.refl B w).drew⟩, fun i h => ?_, fun i o _ h => ?_, fun f _ h => ?_, fun f _ f' _ _ h => ?_, fun f hfo => ⟨_, (hO f hfo).1.drew, fun _ => rfl, fun h => ?_⟩⟩ <;> rw [hz] at h <;> cases h
end

theorem ownDist {ow : List Own} (h : ow.Pairwise (fun f f' => f.g ≠ f'.g)) : ∀ f ∈ ow, ∀ f' ∈ ow, f.g = f'.g → f = f' := by
  induction ow with
  | nil => intro f hf; cases hf
  | cons a l ih =>
    obtain ⟨h1, h2⟩ := List.pairwise_cons.1 h
    intro f hf f' hf' he
    rcases List.mem_cons.1 hf with h3 | h3
    · rcases List.mem_cons.1 hf' with h4 | h4
      · rw [h3, h4]
      · exact absurd (h3 ▸ he) (h1 _ h4)
    · rcases List.mem_cons.1 hf' with h4 | h4
      · exact absurd (h4 ▸ he).symm (h1 _ h3)
      · exact ih h2 f h3 f' h4 he
/-- Each operation of a list, with its number. -/
def EachFrom (S : Nat → Oper → Prop) : Nat → List Oper → Prop
  | _, [] => True
  | k, o :: l => S k o ∧ EachFrom S (k + 1) l
theorem each_from {S : Nat → Oper → Prop} : ∀ (l : List Oper) (k : Nat), EachFrom S k l → ∀ i o, l[i]? = some o → S (k + i) o := by
  intro l
  induction l with
  | nil => intro k _ i o h; simp at h
  | cons a l ih =>
    intro k h i o ho
    cases i with
    | zero => simp at ho; subst ho; exact h.1
    | succ i =>
      have := ih (k + 1) h.2 i o (by simpa using ho)
      rw [show k + (i + 1) = k + 1 + i by omega]; exact this
theorem each_of {S : Nat → Oper → Prop} {l : List Oper} (h : EachFrom S 0 l) : ∀ i o, (l.toArray)[i]? = some o → S i o := fun i o ho => by
  have := each_from l 0 h i o (by simpa using ho)
  rwa [Nat.zero_add] at this
def acycB : Nat → List Oper → Bool
  | _, [] => true
  | k, o :: l => o.after.all (fun e => !Region.binds .any e || decide (e.on < k)) && acycB (k + 1) l
theorem acyc_from : ∀ (l : List Oper) (k : Nat), acycB k l = true → EachFrom (fun i o => ∀ e ∈ o.after, Region.binds .any e = true → e.on < i) k l := by
  intro l
  induction l with
  | nil => intro k _; trivial
  | cons a l ih =>
    intro k h
    simp only [acycB, Bool.and_eq_true] at h
    refine ⟨fun e he hb => ?_, ih _ h.2⟩
    have := (Array.all_eq_true_iff_forall_mem.1 h.1) e he
    rw [hb] at this
    simpa using this
/-- Assertions that stay true. -/
def Stab (p : Value → World → Prop) : Prop := ∀ v w w', p v w → Kp w w' → p v w'
def AllStab : List (Value → World → Prop) → Prop
  | [] => True
  | p :: l => Stab p ∧ AllStab l
theorem AllStab.get : ∀ (l : List (Value → World → Prop)), AllStab l → ∀ i v w w', l.getD i (fun _ _ => True) v w → Kp w w' → l.getD i (fun _ _ => True) v w' := by
  intro l
  induction l with
  | nil => intro _ i v w w' _ _; simp
  | cons p l ih =>
    intro h i v w w' hp hk
    cases i with
    | zero => exact h.1 v w w' hp hk
    | succ i => exact ih h.2 i v w w' hp hk
def PEq (u : Value) : Value → World → Prop := fun v _ => v = u
def PAny : Value → World → Prop := fun _ _ => True
def VI (z : Int) (k : Nat) : Value → World → Prop := fun v w => ∃ b A n c, v = .agg #[.bool b, .slice A n c] ∧ IV w b A n c z k
def VQ (q : Rat) (k : Nat) : Value → World → Prop := fun v w => ∃ b A n c D m e, v = .agg #[.bool b, .slice A n c, .slice D m e] ∧ QV w b A n c D m e q k
def VT (t : TN) (k : Nat) : Value → World → Prop := fun v w => ∃ b A n c D m e x, v = .agg #[.bool b, .slice A n c, .slice D m e, .bool x] ∧ TV w b A n c D m e x t k
theorem stEq (u : Value) : Stab (PEq u) := fun _ _ _ h _ => h
theorem stAny : Stab PAny := fun _ _ _ h _ => h
theorem stI (z : Int) (k : Nat) : Stab (VI z k) := fun _ _ _ ⟨b, A, n, c, e, h⟩ hk => ⟨b, A, n, c, e, h.keep hk⟩
theorem stQ (q : Rat) (k : Nat) : Stab (VQ q k) := fun _ _ _ ⟨b, A, n, c, D, m, e, h0, h⟩ hk => ⟨b, A, n, c, D, m, e, h0, h.keep hk⟩
theorem stT (t : TN) (k : Nat) : Stab (VT t k) := fun _ _ _ ⟨b, A, n, c, D, m, e, x, h0, h⟩ hk => ⟨b, A, n, c, D, m, e, x, h0, h.keep hk⟩
/-- What a block holds. -/
def CQ (q : Rat) (k : Nat) : Array Value → World → Prop := fun v w => ∃ b A n c D m e, v = #[.bool b, .slice A n c, .slice D m e] ∧ QV w b A n c D m e q k
def CT (t : TN) (k : Nat) : Array Value → World → Prop := fun v w => ∃ b A n c D m e x, v = #[.bool b, .slice A n c, .slice D m e, .bool x] ∧ TV w b A n c D m e x t k
def CI (z : Int) (k : Nat) : Array Value → World → Prop := fun v w => ∃ b A n c, v = #[.bool b, .slice A n c] ∧ IV w b A n c z k
theorem scI (z : Int) (k : Nat) : ∀ c w w', CI z k c w → Kp w w' → CI z k c w' := fun _ _ _ ⟨b, A, n, c, h0, h⟩ hk => ⟨b, A, n, c, h0, h.keep hk⟩
def CAny : Array Value → World → Prop := fun _ _ => True
theorem scAny : ∀ c w w', CAny c w → Kp w w' → CAny c w' := fun _ _ _ h _ => h
theorem scQ (q : Rat) (k : Nat) : ∀ c w w', CQ q k c w → Kp w w' → CQ q k c w' := fun _ _ _ ⟨b, A, n, c, D, m, e, h0, h⟩ hk => ⟨b, A, n, c, D, m, e, h0, h.keep hk⟩
theorem scT (t : TN) (k : Nat) : ∀ c w w', CT t k c w → Kp w w' → CT t k c w' := fun _ _ _ ⟨b, A, n, c, D, m, e, x, h0, h⟩ hk => ⟨b, A, n, c, D, m, e, x, h0, h.keep hk⟩
/-- A place. -/
def PV (w : World) (b : Bool) (A : Option Addr) (n c : Nat) (D : Option Addr) (m e : Nat) (b' : Bool) (A' : Option Addr) (n' c' : Nat) (D' : Option Addr) (m' e' : Nat) (q : Rat) (k : Nat) (r : Rat) (j : Nat) : Prop := QV w b A n c D m e q k ∧ QV w b' A' n' c' D' m' e' r j
theorem PV.keep {w w' : World} {b b' : Bool} {A D A' D' : Option Addr} {n c m e n' c' m' e' k j : Nat} {q r : Rat} (h : PV w b A n c D m e b' A' n' c' D' m' e' q k r j) (hk : Kp w w') : PV w' b A n c D m e b' A' n' c' D' m' e' q k r j := ⟨h.1.keep hk, h.2.keep hk⟩
theorem PV.belw {w w' : World} {b b' : Bool} {A D A' D' : Option Addr} {n c m e n' c' m' e' k j : Nat} {q r : Rat} (h : PV w b A n c D m e b' A' n' c' D' m' e' q k r j) (hk : Below w.heap.size w w') : PV w' b A n c D m e b' A' n' c' D' m' e' q k r j := ⟨h.1.belw hk, h.2.belw hk⟩
def VP (q : Rat) (k : Nat) (r : Rat) (j : Nat) : Value → World → Prop := fun v w => ∃ b A n c D m e b' A' n' c' D' m' e', v = .agg #[.bool b, .slice A n c, .slice D m e, .bool b', .slice A' n' c', .slice D' m' e'] ∧ PV w b A n c D m e b' A' n' c' D' m' e' q k r j
def CP (q : Rat) (k : Nat) (r : Rat) (j : Nat) : Array Value → World → Prop := fun v w => ∃ b A n c D m e b' A' n' c' D' m' e', v = #[.bool b, .slice A n c, .slice D m e, .bool b', .slice A' n' c', .slice D' m' e'] ∧ PV w b A n c D m e b' A' n' c' D' m' e' q k r j
theorem stP (q : Rat) (k : Nat) (r : Rat) (j : Nat) : Stab (VP q k r j) := fun _ _ _ ⟨b, A, n, c, D, m, e, b', A', n', c', D', m', e', h0, h⟩ hk => ⟨b, A, n, c, D, m, e, b', A', n', c', D', m', e', h0, h.keep hk⟩
theorem scP (q : Rat) (k : Nat) (r : Rat) (j : Nat) : ∀ c w w', CP q k r j c w → Kp w w' → CP q k r j c w' := fun _ _ _ ⟨b, A, n, c, D, m, e, b', A', n', c', D', m', e', h0, h⟩ hk => ⟨b, A, n, c, D, m, e, b', A', n', c', D', m', e', h0, h.keep hk⟩
/-- A turn that is a fraction. -/
theorem TV.frac {w : World} {b : Bool} {A D : Option Addr} {n c m e k : Nat} {q : Rat} (h : QV w b A n c D m e q k) : TV w b A n c D m e false ⟨q, false⟩ k := ⟨h, rfl, fun h => nomatch h⟩
end Go.Proofs.YtpnnfbodphflpaaGreatDoor

/- Walks: the reference: the parts of a fraction, its sign. -/
namespace Go.Proofs.YtpnnfbodphflpaaGreatDoor
open Go Go.RowKit Bn
attribute [local go_sem ↓] Go.wp_at_zero Go.wp_at_succ
theorem g_valid_e (w : World) (b : Bool) (A : Option Addr) (n c : Nat) (D : Option Addr) (m e : Nat) (a : RD) (k : Nat) (v : Bool) (h : QD w b A n c D m e a k) (hk : k ≤ 300000000) (hv : a.ok = v) :
    Calls Tryz.prog 37 #[.agg #[.bool b, .slice A n c, .slice D m e]] w (RetV w (.bool v)) := by subst hv; exact g_valid w b A n c D m e a k h hk
set_option maxRecDepth 100000 in
set_option maxHeartbeats 2000000 in
/-- linkworkref02.Parts -/
theorem g_parts_1 (w : World) (b : Bool) (A : Option Addr) (n c : Nat) (D : Option Addr) (m e : Nat) (a : RD) (k : Nat) (h : QD w b A n c D m e a k) (h0 : 0 < k) (hk : k ≤ 300000000) (ho : a.ok = false) :
    Calls Tryz.prog 93 #[.agg #[.bool b, .slice A n c, .slice D m e]] w (RetII w a.q.num a.q.den k) := by
  have HK := Lib.hid hk
  have HO := Lib.hid ho
  have hq : a.q.num = 0 ∧ (a.q.den : Int) = 1 := q_bad (.inl ho)
  rw [hq.1, hq.2]
  clear hq ho
  have HP := Lib.hid h0
  go_enter Tryz.func93, Tryz.ntmps93
  go_wp2_with fail
  (with_reducible refine (g_valid_e _ b A n c D m e a k false ?_ ?_ ?_).mono ?_); (exact h.belw (((((Below.refl _ _).alloc (Nat.le_refl _) _).alloc (by simp) _).alloc (by simp <;> omega) _))); (exact HK.out); (exact HO.out); rintro e w1 ⟨rfl, hb1⟩
  have q1 : Below w.heap.size w w1 := ((((Below.refl _ _).alloc (Nat.le_refl _) _).alloc (by simp) _).alloc (by simp <;> omega) _).trans (hb1.mono (by simp <;> omega))
  replace h := h.belw q1
  have x1_0 : Blk w1 (w.heap.size) 24 #[.bool b, .slice A n c, .slice D m e] := (((blkAt _ _ _ (by simp)).alloc _).alloc _).below hb1 (by simp <;> omega)
  have x1_1 : Blk w1 (w.heap.size + 1) 48 #[.bool false, .slice none 0 0] := ((blkAt _ _ _ (by simp)).alloc _).below hb1 (by simp <;> omega)
  have x1_2 : Blk w1 (w.heap.size + 1 + 1) 48 #[.bool false, .slice none 0 0] := (blkAt _ _ _ (by simp)).below hb1 (by simp)
  have bw1 : Below w.heap.size w w1 := (brefl w).trans (q1.mono (brefl w).size)
  have lw1 : w.heap.size + 3 ≤ w1.heap.size := by have := hb1.size; simp at this; omega
  clear hb1 q1
  obtain ⟨cx1_0_0, cx1_0_1, cx1_0_2⟩ := x1_0.c3
  obtain ⟨lx1_0_0, lx1_0_1, lx1_0_2, lx1_0_3⟩ := lts0 x1_0.lt
  go_wp2_with fail
  (with_reducible refine (g_one _).mono ?_); rintro e w2 ⟨b2, A2, n2, c2, rfl, h2, hb2⟩
  clear cx1_0_0 cx1_0_1 cx1_0_2 lx1_0_0 lx1_0_1 lx1_0_2 lx1_0_3
  have q2 : Below w1.heap.size w1 w2 := hb2
  replace h := h.belw q2
  replace x1_0 := x1_0.below q2 x1_0.lt
  replace x1_1 := x1_1.below q2 x1_1.lt
  replace x1_2 := x1_2.below q2 x1_2.lt
  have bw2 : Below w.heap.size w w2 := bw1.trans (q2.mono bw1.size)
  have lw2 : w1.heap.size ≤ w2.heap.size := q2.size
  clear hb2 q2 bw1
  obtain ⟨cx1_1_0, cx1_1_1⟩ := x1_1.c2
  obtain ⟨fx1_1_0, fx1_1_1⟩ := x1_1.f2
  obtain ⟨lx1_1_0, lx1_1_1, lx1_1_2, lx1_1_3⟩ := lts1 x1_1.lt
  obtain ⟨cx1_2_0, cx1_2_1⟩ := x1_2.c2
  obtain ⟨fx1_2_0, fx1_2_1⟩ := x1_2.f2
  obtain ⟨lx1_2_0, lx1_2_1, lx1_2_2, lx1_2_3⟩ := lts2 x1_2.lt
  go_wp2_with fail
  refine bodyPost_ret (v := .tuple #[.agg #[.bool false, .slice none 0 0], .agg #[.bool b2, .slice A2 n2 c2]]) (by simp [results, Tryz.results93, go_sem, *] <;> first | rfl | exact ⟨rfl, rfl⟩) rfl ?_
  exact ⟨false, none, 0, 0, b2, A2, n2, c2, rfl, IV.zero _ _, (h2.keep (((((Kp.refl w2).setB (p := ⟨w.heap.size + 1, 0, none⟩) x1_1.box (by decide) (.bool false)).setB (p := ⟨w.heap.size + 1, 1, none⟩) (x1_1.box.set ⟨w.heap.size + 1, 0, none⟩ (.bool false)) (by decide) (.slice none 0 0)).setB (p := ⟨w.heap.size + 1 + 1, 0, none⟩) ((x1_2.box.set ⟨w.heap.size + 1, 0, none⟩ (.bool false)).set ⟨w.heap.size + 1, 1, none⟩ (.slice none 0 0)) (by decide) (.bool b2)).setB (p := ⟨w.heap.size + 1 + 1, 1, none⟩) (((x1_2.box.set ⟨w.heap.size + 1, 0, none⟩ (.bool false)).set ⟨w.heap.size + 1, 1, none⟩ (.slice none 0 0)).set ⟨w.heap.size + 1 + 1, 0, none⟩ (.bool b2)) (by decide) (.slice A2 n2 c2))).mono (by first | exact HP.out | omega), ((((bw2.setCell (p := ⟨w.heap.size + 1, 0, none⟩) (by dsimp only; omega) (.bool false)).setCell (p := ⟨w.heap.size + 1, 1, none⟩) (by dsimp only; omega) (.slice none 0 0)).setCell (p := ⟨w.heap.size + 1 + 1, 0, none⟩) (by dsimp only; omega) (.bool b2)).setCell (p := ⟨w.heap.size + 1 + 1, 1, none⟩) (by dsimp only; omega) (.slice A2 n2 c2))⟩
set_option maxRecDepth 100000 in
set_option maxHeartbeats 2000000 in
/-- linkworkref02.Parts -/
theorem g_parts_2 (w : World) (b : Bool) (A : Option Addr) (n c : Nat) (D : Option Addr) (m e : Nat) (a : RD) (k : Nat) (h : QD w b A n c D m e a k) (h0 : 0 < k) (hk : k ≤ 300000000) (ho : a.ok = true) (hn : n = 0) :
    Calls Tryz.prog 93 #[.agg #[.bool b, .slice A n c, .slice D m e]] w (RetII w a.q.num a.q.den k) := by
  have HK := Lib.hid hk
  have HO := Lib.hid ho
  have hq : a.q.num = 0 ∧ (a.q.den : Int) = 1 := q_bad (.inr (List.eq_nil_of_length_eq_zero (by rw [← h.2.1.2.1, hn])))
  rw [hq.1, hq.2]
  clear hq ho
  subst hn
  have HP := Lib.hid h0
  go_enter Tryz.func93, Tryz.ntmps93
  go_wp2_with fail
  (with_reducible refine (g_valid_e _ b A 0 c D m e a k true ?_ ?_ ?_).mono ?_); (exact h.belw (((((Below.refl _ _).alloc (Nat.le_refl _) _).alloc (by simp) _).alloc (by simp <;> omega) _))); (exact HK.out); (exact HO.out); rintro e w1 ⟨rfl, hb1⟩
  have q1 : Below w.heap.size w w1 := ((((Below.refl _ _).alloc (Nat.le_refl _) _).alloc (by simp) _).alloc (by simp <;> omega) _).trans (hb1.mono (by simp <;> omega))
  replace h := h.belw q1
  have x1_0 : Blk w1 (w.heap.size) 24 #[.bool b, .slice A 0 c, .slice D m e] := (((blkAt _ _ _ (by simp)).alloc _).alloc _).below hb1 (by simp <;> omega)
  have x1_1 : Blk w1 (w.heap.size + 1) 48 #[.bool false, .slice none 0 0] := ((blkAt _ _ _ (by simp)).alloc _).below hb1 (by simp <;> omega)
  have x1_2 : Blk w1 (w.heap.size + 1 + 1) 48 #[.bool false, .slice none 0 0] := (blkAt _ _ _ (by simp)).below hb1 (by simp)
  have bw1 : Below w.heap.size w w1 := (brefl w).trans (q1.mono (brefl w).size)
  have lw1 : w.heap.size + 3 ≤ w1.heap.size := by have := hb1.size; simp at this; omega
  clear hb1 q1
  obtain ⟨cx1_0_0, cx1_0_1, cx1_0_2⟩ := x1_0.c3
  obtain ⟨lx1_0_0, lx1_0_1, lx1_0_2, lx1_0_3⟩ := lts0 x1_0.lt
  go_wp2_with fail
  (with_reducible refine (g_one _).mono ?_); rintro e w2 ⟨b2, A2, n2, c2, rfl, h2, hb2⟩
  clear cx1_0_0 cx1_0_1 cx1_0_2 lx1_0_0 lx1_0_1 lx1_0_2 lx1_0_3
  have q2 : Below w1.heap.size w1 w2 := hb2
  replace h := h.belw q2
  replace x1_0 := x1_0.below q2 x1_0.lt
  replace x1_1 := x1_1.below q2 x1_1.lt
  replace x1_2 := x1_2.below q2 x1_2.lt
  have bw2 : Below w.heap.size w w2 := bw1.trans (q2.mono bw1.size)
  have lw2 : w1.heap.size ≤ w2.heap.size := q2.size
  clear hb2 q2 bw1
  obtain ⟨cx1_1_0, cx1_1_1⟩ := x1_1.c2
  obtain ⟨fx1_1_0, fx1_1_1⟩ := x1_1.f2
  obtain ⟨lx1_1_0, lx1_1_1, lx1_1_2, lx1_1_3⟩ := lts1 x1_1.lt
  obtain ⟨cx1_2_0, cx1_2_1⟩ := x1_2.c2
  obtain ⟨fx1_2_0, fx1_2_1⟩ := x1_2.f2
  obtain ⟨lx1_2_0, lx1_2_1, lx1_2_2, lx1_2_3⟩ := lts2 x1_2.lt
  go_wp2_with fail
  refine bodyPost_ret (v := .tuple #[.agg #[.bool false, .slice none 0 0], .agg #[.bool b2, .slice A2 n2 c2]]) (by simp [results, Tryz.results93, go_sem, *] <;> first | rfl | exact ⟨rfl, rfl⟩) rfl ?_
  exact ⟨false, none, 0, 0, b2, A2, n2, c2, rfl, IV.zero _ _, (h2.keep (((((Kp.refl w2).setB (p := ⟨w.heap.size + 1, 0, none⟩) x1_1.box (by decide) (.bool false)).setB (p := ⟨w.heap.size + 1, 1, none⟩) (x1_1.box.set ⟨w.heap.size + 1, 0, none⟩ (.bool false)) (by decide) (.slice none 0 0)).setB (p := ⟨w.heap.size + 1 + 1, 0, none⟩) ((x1_2.box.set ⟨w.heap.size + 1, 0, none⟩ (.bool false)).set ⟨w.heap.size + 1, 1, none⟩ (.slice none 0 0)) (by decide) (.bool b2)).setB (p := ⟨w.heap.size + 1 + 1, 1, none⟩) (((x1_2.box.set ⟨w.heap.size + 1, 0, none⟩ (.bool false)).set ⟨w.heap.size + 1, 1, none⟩ (.slice none 0 0)).set ⟨w.heap.size + 1 + 1, 0, none⟩ (.bool b2)) (by decide) (.slice A2 n2 c2))).mono (by first | exact HP.out | omega), ((((bw2.setCell (p := ⟨w.heap.size + 1, 0, none⟩) (by dsimp only; omega) (.bool false)).setCell (p := ⟨w.heap.size + 1, 1, none⟩) (by dsimp only; omega) (.slice none 0 0)).setCell (p := ⟨w.heap.size + 1 + 1, 0, none⟩) (by dsimp only; omega) (.bool b2)).setCell (p := ⟨w.heap.size + 1 + 1, 1, none⟩) (by dsimp only; omega) (.slice A2 n2 c2))⟩
set_option maxRecDepth 100000 in
set_option maxHeartbeats 4000000 in
/-- linkworkref02.Parts -/
theorem g_parts_3 (w : World) (b : Bool) (A : Option Addr) (n c : Nat) (D : Option Addr) (m e : Nat) (a : RD) (k : Nat) (h : QD w b A n c D m e a k) (h0 : 0 < k) (hk : k ≤ 300000000) (ho : a.ok = true) (hn : a.num ≠ []) :
    Calls Tryz.prog 93 #[.agg #[.bool b, .slice A n c, .slice D m e]] w (RetII w a.q.num a.q.den k) := by
  have HK := Lib.hid hk
  have HO := Lib.hid ho
  obtain ⟨e1, e2, e3⟩ := q_ok h.2.1.1 h.2.2.1.1 ho hn
  have HE := Lib.hid (And.intro e1 (And.intro e2 e3))
  have hnp : 0 < n := by rcases Nat.eq_zero_or_pos n with h1 | h1; exact absurd (List.eq_nil_of_length_eq_zero (by rw [← h.2.1.2.1, h1])) hn; exact h1
  have en : ((n : Int) == 0) = false := by simp; omega
  clear ho hn e1 e2 e3 hk
  go_enter Tryz.func93, Tryz.ntmps93
  go_wp2_with fail
  (with_reducible refine (g_valid_e _ b A n c D m e a k true ?_ ?_ ?_).mono ?_); (exact h.belw (((((Below.refl _ _).alloc (Nat.le_refl _) _).alloc (by simp) _).alloc (by simp <;> omega) _))); (exact HK.out); (exact HO.out); rintro e w1 ⟨rfl, hb1⟩
  have q1 : Below w.heap.size w w1 := ((((Below.refl _ _).alloc (Nat.le_refl _) _).alloc (by simp) _).alloc (by simp <;> omega) _).trans (hb1.mono (by simp <;> omega))
  replace h := h.belw q1
  have x1_0 : Blk w1 (w.heap.size) 24 #[.bool b, .slice A n c, .slice D m e] := (((blkAt _ _ _ (by simp)).alloc _).alloc _).below hb1 (by simp <;> omega)
  have x1_1 : Blk w1 (w.heap.size + 1) 48 #[.bool false, .slice none 0 0] := ((blkAt _ _ _ (by simp)).alloc _).below hb1 (by simp <;> omega)
  have x1_2 : Blk w1 (w.heap.size + 1 + 1) 48 #[.bool false, .slice none 0 0] := (blkAt _ _ _ (by simp)).below hb1 (by simp)
  have bw1 : Below w.heap.size w w1 := (brefl w).trans (q1.mono (brefl w).size)
  have lw1 : w.heap.size + 3 ≤ w1.heap.size := by have := hb1.size; simp at this; omega
  clear hb1 q1
  obtain ⟨cx1_0_0, cx1_0_1, cx1_0_2⟩ := x1_0.c3
  obtain ⟨lx1_0_0, lx1_0_1, lx1_0_2, lx1_0_3⟩ := lts0 x1_0.lt
  go_wp2_with fail
  refine wp_region_lin (B := w.heap.size) (fr := fun xf => ⟨List.toArray (.agg #[.bool b, .slice A n c, .slice D m e] :: .pointer (some ⟨w.heap.size, 0, none⟩) :: .pointer (some ⟨w.heap.size + 1, 0, none⟩) :: .pointer (some ⟨w.heap.size + 1 + 1, 0, none⟩) :: .agg #[.bool b, .slice A n c, .slice D m e] :: .bool true :: .bool false :: .bool false :: .pointer (some ⟨w.heap.size, 1, none⟩) :: .slice A n c :: .int .i64 n :: .bool false :: .bool false :: undef :: undef :: xf 0 :: xf 1 :: xf 2 :: xf 3 :: xf 4 :: xf 5 :: xf 6 :: xf 7 :: []), []⟩) (R := fun i => List.getD ((PEq (.pointer (some ⟨w.heap.size, 0, none⟩))) :: (PEq (.bool b)) :: (PEq (.pointer (some ⟨w.heap.size, 1, none⟩))) :: (PEq (.slice A n c)) :: (PEq (.agg #[.bool b, .slice A n c])) :: (PEq (.pointer (some ⟨w.heap.size, 2, none⟩))) :: (PEq (.slice D m e)) :: (PEq (.agg #[.bool false, .slice D m e])) :: PAny :: PAny :: []) i (fun _ _ => True)) (es := []) (ow := [⟨w.heap.size, 10, 0, 24, #[.bool b, .slice A n c, .slice D m e], CAny⟩, ⟨w.heap.size + 1, 8, 0, 48, #[.bool false, .slice none 0 0], fun cz _ => cz = #[.bool b, .slice A n c]⟩, ⟨w.heap.size + 1 + 1, 9, 0, 48, #[.bool false, .slice none 0 0], fun cz _ => cz = #[.bool false, .slice D m e]⟩]) (x0 := (fun _ => undef)) (by kernel_rfl)
    (each_of ⟨fun _ _ => rfl, fun _ _ => rfl, fun _ _ => rfl, fun _ _ => rfl, fun _ _ => rfl, fun _ _ => rfl, fun _ _ => rfl, fun _ _ => rfl, fun _ _ => rfl, fun _ _ => rfl, trivial⟩) (each_of (acyc_from _ 0 (by kernel_rfl))) (AllStab.get _ ⟨stEq _, stEq _, stEq _, stEq _, stEq _, stEq _, stEq _, stEq _, stAny, stAny, trivial⟩)
    (fun _ h => nomatch h) (List.forall_mem_cons.2 ⟨scAny, List.forall_mem_cons.2 ⟨fun _ _ _ h _ => h, List.forall_mem_cons.2 ⟨fun _ _ _ h _ => h, fun _ h => nomatch h⟩⟩⟩) (fun _ h => nomatch h) bw1.size
    (List.forall_mem_cons.2 ⟨⟨x1_0, by show w.heap.size ≤ w.heap.size; omega⟩, List.forall_mem_cons.2 ⟨⟨x1_1, by show w.heap.size ≤ w.heap.size + 1; omega⟩, List.forall_mem_cons.2 ⟨⟨x1_2, by show w.heap.size ≤ w.heap.size + 1 + 1; omega⟩, fun _ h => nomatch h⟩⟩⟩) (ownDist (by simp <;> omega))
    (each_of ⟨?_, ?_, ?_, ?_, ?_, ?_, ?_, ?_, ?_, ?_, trivial⟩) ?_
  · exact .inl ⟨by simp, by simp, fun xf wq hk hbl hd K hK => by
      (try dsimp only)
      go_simp
      exact hK.out (.pointer (some ⟨w.heap.size, 0, none⟩)) _ rfl (brefl _)⟩
  · exact .inl ⟨by simp, by simp, fun xf wq hk hbl hd K hK => by
      have d0 : xf 0 = .pointer (some ⟨w.heap.size, 0, none⟩) := hd ⟨0, .data⟩ (by simp) rfl
      have y : Blk wq (w.heap.size) 24 #[.bool b, .slice A n c, .slice D m e] := hbl _ (List.Mem.head _) (by simp [Region.binds])
      obtain ⟨hcl0, hcl1, hcl2⟩ := y.c3
      (try dsimp only); (try simp only [d0])
      go_simp
      have hz := hK.out (.bool b) _ rfl (brefl _)
      simp only [d0] at hz
      exact hz⟩
  · exact .inl ⟨by simp, by simp, fun xf wq hk hbl hd K hK => by
      (try dsimp only)
      go_simp
      exact hK.out (.pointer (some ⟨w.heap.size, 1, none⟩)) _ rfl (brefl _)⟩
  · exact .inl ⟨by simp, by simp, fun xf wq hk hbl hd K hK => by
      have d2 : xf 2 = .pointer (some ⟨w.heap.size, 1, none⟩) := hd ⟨2, .data⟩ (by simp) rfl
      have y : Blk wq (w.heap.size) 24 #[.bool b, .slice A n c, .slice D m e] := hbl _ (List.Mem.head _) (by simp [Region.binds])
      obtain ⟨hcl0, hcl1, hcl2⟩ := y.c3
      (try dsimp only); (try simp only [d2])
      go_simp
      have hz := hK.out (.slice A n c) _ rfl (brefl _)
      simp only [d2] at hz
      exact hz⟩
  · exact .inl ⟨by simp, by simp, fun xf wq hk hbl hd K hK => by
      have d1 : xf 1 = .bool b := hd ⟨1, .data⟩ (by simp) rfl
      have d3 : xf 3 = .slice A n c := hd ⟨3, .data⟩ (by simp) rfl
      (try dsimp only); (try simp only [d1, d3])
      go_simp
      have hz := hK.out (.agg #[.bool b, .slice A n c]) _ rfl (brefl _)
      simp only [d1, d3] at hz
      exact hz⟩
  · exact .inl ⟨by simp, by simp, fun xf wq hk hbl hd K hK => by
      (try dsimp only)
      go_simp
      exact hK.out (.pointer (some ⟨w.heap.size, 2, none⟩)) _ rfl (brefl _)⟩
  · exact .inl ⟨by simp, by simp, fun xf wq hk hbl hd K hK => by
      have d5 : xf 5 = .pointer (some ⟨w.heap.size, 2, none⟩) := hd ⟨5, .data⟩ (by simp) rfl
      have y : Blk wq (w.heap.size) 24 #[.bool b, .slice A n c, .slice D m e] := hbl _ (List.Mem.head _) (by simp [Region.binds])
      obtain ⟨hcl0, hcl1, hcl2⟩ := y.c3
      (try dsimp only); (try simp only [d5])
      go_simp
      have hz := hK.out (.slice D m e) _ rfl (brefl _)
      simp only [d5] at hz
      exact hz⟩
  · exact .inl ⟨by simp, by simp, fun xf wq hk hbl hd K hK => by
      have d6 : xf 6 = .slice D m e := hd ⟨6, .data⟩ (by simp) rfl
      (try dsimp only); (try simp only [d6])
      go_simp
      have hz := hK.out (.agg #[.bool false, .slice D m e]) _ rfl (brefl _)
      simp only [d6] at hz
      exact hz⟩
  · exact .inr (.inr (.inr ⟨⟨w.heap.size + 1, 8, 0, 48, #[.bool false, .slice none 0 0], fun cz _ => cz = #[.bool b, .slice A n c]⟩, by simp, rfl, by simp, by simp, (show KT 48 = false by decide), fun _ _ => True.intro, fun xf wq hblk hd => by
      have d4 : xf 4 = .agg #[.bool b, .slice A n c] := hd ⟨4, .data⟩ (by simp) rfl
      dsimp only at hblk
      refine ⟨[.bool b, .slice A n c], fun w' hk => rfl, fun K hK => ?_⟩
      have hc0 : wq.cell? ⟨w.heap.size + 1, 0, none⟩ = some (.bool false) := hblk.cell 0
      have hc1 : wq.cell? ⟨w.heap.size + 1, 1, none⟩ = some (.slice none 0 0) := hblk.cell 1
      have hf0 : wq.frozen? ⟨w.heap.size + 1, 0, none⟩ = false := hblk.frozen 0
      have hf1 : wq.frozen? ⟨w.heap.size + 1, 1, none⟩ = false := hblk.frozen 1
      (try dsimp only)
      simp only [d4]
      go_simp
      have hz := hK.out undef
      simp only [d4] at hz
      exact hz⟩))
  · exact .inr (.inr (.inr ⟨⟨w.heap.size + 1 + 1, 9, 0, 48, #[.bool false, .slice none 0 0], fun cz _ => cz = #[.bool false, .slice D m e]⟩, by simp, rfl, by simp, by simp, (show KT 48 = false by decide), fun _ _ => True.intro, fun xf wq hblk hd => by
      have d7 : xf 7 = .agg #[.bool false, .slice D m e] := hd ⟨7, .data⟩ (by simp) rfl
      dsimp only at hblk
      refine ⟨[.bool false, .slice D m e], fun w' hk => rfl, fun K hK => ?_⟩
      have hc0 : wq.cell? ⟨w.heap.size + 1 + 1, 0, none⟩ = some (.bool false) := hblk.cell 0
      have hc1 : wq.cell? ⟨w.heap.size + 1 + 1, 1, none⟩ = some (.slice none 0 0) := hblk.cell 1
      have hf0 : wq.frozen? ⟨w.heap.size + 1 + 1, 0, none⟩ = false := hblk.frozen 0
      have hf1 : wq.frozen? ⟨w.heap.size + 1 + 1, 1, none⟩ = false := hblk.frozen 1
      (try dsimp only)
      simp only [d7]
      go_simp
      have hz := hK.out undef
      simp only [d7] at hz
      exact hz⟩))
  clear cx1_0_0 cx1_0_1 cx1_0_2 lx1_0_0 lx1_0_1 lx1_0_2 lx1_0_3
  intro y2 w2 kq2 hbl2 lw2 how hrr hfl hds
  replace h := h.keep kq2
  obtain ⟨_, z2_0, ez, _⟩ := how _ (List.Mem.head _)
  obtain rfl := ez (by simp)
  dsimp only at z2_0
  obtain ⟨_, z2_1, _, ez⟩ := how _ (List.Mem.tail _ (List.Mem.head _))
  obtain rfl := ez (by simp)
  dsimp only at z2_1
  obtain ⟨_, z2_2, _, ez⟩ := how _ (List.Mem.tail _ (List.Mem.tail _ (List.Mem.head _)))
  obtain rfl := ez (by simp)
  dsimp only at z2_2
  (try dsimp only)
  clear hrr hfl how hds 
  clear x1_0 x1_1 x1_2
  have bw2 : Below w.heap.size w w2 := bw1.trans hbl2
  clear bw1
  have cz2_1_0 : w2.cell? ⟨w.heap.size + 1, 0, none⟩ = some (.bool b) := z2_1.cell 0
  have cz2_1_1 : w2.cell? ⟨w.heap.size + 1, 1, none⟩ = some (.slice A n c) := z2_1.cell 1
  obtain ⟨lz2_1_0, lz2_1_1, lz2_1_2, lz2_1_3⟩ := lts1 z2_1.lt
  have cz2_2_0 : w2.cell? ⟨w.heap.size + 1 + 1, 0, none⟩ = some (.bool false) := z2_2.cell 0
  have cz2_2_1 : w2.cell? ⟨w.heap.size + 1 + 1, 1, none⟩ = some (.slice D m e) := z2_2.cell 1
  obtain ⟨lz2_2_0, lz2_2_1, lz2_2_2, lz2_2_3⟩ := lts2 z2_2.lt
  go_wp2_with fail
  refine bodyPost_ret (v := .tuple #[.agg #[.bool b, .slice A n c], .agg #[.bool false, .slice D m e]]) (by simp [results, Tryz.results93, go_sem, *] <;> first | rfl | exact ⟨rfl, rfl⟩) rfl ?_
  have kp := (Kp.refl w2)
  exact ⟨b, A, n, c, false, D, m, e, rfl, ⟨h.1.symm.trans HE.out.2.1, HE.out.1 ▸ h.2.1.keep kp, h.2.2.2.1⟩, ⟨by simp [wh], HE.out.2.2 ▸ h.2.2.1.keep kp, h.2.2.2.2⟩, bw2⟩
theorem g_parts (w : World) (b : Bool) (A : Option Addr) (n c : Nat) (D : Option Addr) (m e : Nat) (q : Rat) (k : Nat) (h : QZ w b A n c D m e q k) (h0 : 0 < k) (hk : k ≤ 300000000) :
    Calls Tryz.prog 93 #[.agg #[.bool b, .slice A n c, .slice D m e]] w (RetII w q.num q.den k) := by
  obtain ⟨a, h, rfl⟩ := h
  cases ho : a.ok
  · exact g_parts_1 w b A n c D m e a k h h0 hk ho
  · by_cases hn : n = 0
    · exact g_parts_2 w b A n c D m e a k h h0 hk ho hn
    · exact g_parts_3 w b A n c D m e a k h h0 hk ho (h.num_ne (by omega))
set_option maxRecDepth 100000 in
set_option maxHeartbeats 2000000 in
/-- linkworkref02.Sign -/
theorem g_sign (w : World) (b : Bool) (A : Option Addr) (n c : Nat) (D : Option Addr) (m e : Nat) (q : Rat) (k : Nat) (h : QZ w b A n c D m e q k) (h0 : 0 < k) (hk : k ≤ 40000000) :
    Calls Tryz.prog 38 #[.agg #[.bool b, .slice A n c, .slice D m e]] w (RetV w (.int .i64 q.num.sign)) := by
  go_enter Tryz.func38, Tryz.ntmps38
  go_wp2_with fail
  (with_reducible refine (g_parts _ b A n c D m e (q) (k) ?_ ?_ ?_).mono ?_); (exact (h.belw ((Below.refl _ _).alloc (Nat.le_refl _) _))); (first | omega | decide | assumption); (first | omega | decide | assumption); rintro e w1 ⟨b1, A1, n1, c1, b'1, A'1, n'1, c'1, rfl, h1, h'1, hb1⟩
  have q1 : Below w.heap.size w w1 := ((Below.refl _ _).alloc (Nat.le_refl _) _).trans (hb1.mono (by simp))
  replace h := h.belw q1
  have x1_0 : Blk w1 (w.heap.size) 24 #[.bool b, .slice A n c, .slice D m e] := (blkAt _ _ _ (by simp)).below hb1 (by simp)
  have bw1 : Below w.heap.size w w1 := (brefl w).trans (q1.mono (brefl w).size)
  have lw1 : w.heap.size + 1 ≤ w1.heap.size := by have := hb1.size; simp at this; omega
  clear hb1 q1
  go_wp2_with fail
  (with_reducible refine (r01_sign _ b1 A1 n1 c1 ((q).num) ((k)) ?_ ?_).mono ?_); (exact (h1.belw (((Below.refl _ _).alloc (Nat.le_refl _) _).alloc (by simp) _)).iz); (first | omega | decide | assumption); rintro e w2 ⟨rfl, hb2⟩
  have q2 : Below w1.heap.size w1 w2 := (((Below.refl _ _).alloc (Nat.le_refl _) _).alloc (by simp) _).trans (hb2.mono (by simp <;> omega))
  replace h := h.belw q2
  replace h1 := h1.belw q2
  replace h'1 := h'1.belw q2
  replace x1_0 := x1_0.below q2 x1_0.lt
  have x2_0 : Blk w2 (w1.heap.size) 48 #[.bool b1, .slice A1 n1 c1] := ((blkAt _ _ _ (by simp)).alloc _).below hb2 (by simp <;> omega)
  have x2_1 : Blk w2 (w1.heap.size + 1) 48 #[.bool b'1, .slice A'1 n'1 c'1] := (blkAt _ _ _ (by simp)).below hb2 (by simp)
  have bw2 : Below w.heap.size w w2 := bw1.trans (q2.mono bw1.size)
  have lw2 : w1.heap.size + 2 ≤ w2.heap.size := by have := hb2.size; simp at this; omega
  clear hb2 q2 bw1
  go_wp2_with fail
  go_ret
  exact retI rfl bw2
end Go.Proofs.YtpnnfbodphflpaaGreatDoor

/- Walks: the reference: fractions in lowest terms. -/
namespace Go.Proofs.YtpnnfbodphflpaaGreatDoor
open Go Go.RowKit Bn
attribute [local go_sem ↓] Go.wp_at_zero Go.wp_at_succ
theorem r01_sign_e (w : World) (b : Bool) (A : Option Addr) (n c : Nat) (z : Int) (k : Nat) (h : IZ w b A n c z k) (s : Int) (hs : z.sign = s) (hk : k ≤ 1000000000) : Calls Tryz.prog 94 #[.agg #[.bool b, .slice A n c]] w (RetV w (.int .i64 s)) := by
  subst hs; exact r01_sign w b A n c z k h hk
theorem form_any {z d : Int} {q : Rat} (hz : z ≠ 0) (hd : 0 < d) (hq : Rat.divInt z d = q) :
    (rd q).num = (wh (z / ((Nat.gcd z.natAbs d.natAbs : Nat) : Int))).mag ∧ (rd q).den = (wh (d / ((Nat.gcd z.natAbs d.natAbs : Nat) : Int))).mag ∧ (rd q).neg = (wh (z / ((Nat.gcd z.natAbs d.natAbs : Nat) : Int))).neg := by
  rw [← hq, rd_divInt hz hd, wh_div _ hd]
  have hg : 0 < Nat.gcd z.natAbs d.natAbs := Nat.gcd_pos_of_pos_right _ (by omega)
  have hdv : ((Nat.gcd z.natAbs d.natAbs : Nat) : Int) ∣ z := Int.ofNat_dvd_left.2 (Nat.gcd_dvd_left _ _)
  generalize Nat.gcd z.natAbs d.natAbs = g at *
  obtain ⟨m, rfl⟩ := hdv
  have e : (g : Int) * m / (g : Int) = m := Int.mul_ediv_cancel_left _ (by omega)
  have e2 : ((g : Int) * m).natAbs / g = m.natAbs := by rw [Int.natAbs_mul, Int.natAbs_natCast]; exact Nat.mul_div_cancel_left _ hg
  rw [e, e2]
  refine ⟨rfl, rfl, ?_⟩
  unfold wh
  simp only [decide_eq_decide]
  constructor
  · intro h; rcases (show m < 0 ∨ 0 ≤ m by omega) with h1 | h1; exact h1; exact absurd (Int.mul_nonneg (Int.natCast_nonneg g) h1) (by omega)
  · intro h; exact Int.mul_neg_of_pos_of_neg (by omega) h
set_option maxRecDepth 100000 in
set_option maxHeartbeats 2000000 in
/-- linkworkref02.form -/
theorem g_form_0 (w : World) (b : Bool) (A : Option Addr) (n c : Nat) (z : Int) (k : Nat) (h : IZ w b A n c z k) (b' : Bool) (A' : Option Addr) (n' c' : Nat) (z' : Int) (k' : Nat) (h' : IZ w b' A' n' c' z' k') (K : Nat) (hz : z = 0) (hk : k + k' ≤ 300000000) :
    Calls Tryz.prog 95 #[.agg #[.bool b, .slice A n c], .agg #[.bool b', .slice A' n' c']] w (RetF w 0 K) := by
  have HZ := Lib.hid (show z.sign = 0 by rw [hz]; rfl)
  clear hz
  go_enter Tryz.func95, Tryz.ntmps95
  go_wp2_with fail
  (with_reducible refine (r01_sign_e _ b A n c (z) (k) ?_ (0) ?_ ?_).mono ?_); (exact (h.belw ((((Below.refl _ _).alloc (Nat.le_refl _) _).alloc (by simp) _).alloc (by simp <;> omega) _))); (exact HZ.out); (omega); rintro e w1 ⟨rfl, hb1⟩
  have q1 : Below w.heap.size w w1 := ((((Below.refl _ _).alloc (Nat.le_refl _) _).alloc (by simp) _).alloc (by simp <;> omega) _).trans (hb1.mono (by simp <;> omega))
  replace h := h.belw q1
  replace h' := h'.belw q1
  have x1_0 : Blk w1 (w.heap.size) 48 #[.bool b, .slice A n c] := (((blkAt _ _ _ (by simp)).alloc _).alloc _).below hb1 (by simp <;> omega)
  have x1_1 : Blk w1 (w.heap.size + 1) 48 #[.bool b', .slice A' n' c'] := ((blkAt _ _ _ (by simp)).alloc _).below hb1 (by simp <;> omega)
  have x1_2 : Blk w1 (w.heap.size + 1 + 1) 24 #[.bool false, .slice none 0 0, .slice none 0 0] := (blkAt _ _ _ (by simp)).below hb1 (by simp)
  have bw1 : Below w.heap.size w w1 := (brefl w).trans (q1.mono (brefl w).size)
  have lw1 : w.heap.size + 3 ≤ w1.heap.size := by have := hb1.size; simp at this; omega
  clear hb1 q1
  obtain ⟨cx1_2_0, cx1_2_1, cx1_2_2⟩ := x1_2.c3
  obtain ⟨fx1_2_0, fx1_2_1, fx1_2_2⟩ := x1_2.f3
  obtain ⟨lx1_2_0, lx1_2_1, lx1_2_2, lx1_2_3⟩ := lts2 x1_2.lt
  go_wp2_with fail
  refine bodyPost_ret (v := .agg #[.bool false, .slice none 0 0, .slice none 0 0]) (by simp [results, Tryz.results95, go_sem, *] <;> first | rfl | exact ⟨rfl, rfl⟩) rfl ?_
  exact ⟨false, none, 0, 0, none, 0, 0, rfl, QV.zero _ _, (((bw1.setCell (p := ⟨w.heap.size + 1 + 1, 0, none⟩) (by dsimp only; omega) (.bool false)).setCell (p := ⟨w.heap.size + 1 + 1, 1, none⟩) (by dsimp only; omega) (.slice none 0 0)).setCell (p := ⟨w.heap.size + 1 + 1, 2, none⟩) (by dsimp only; omega) (.slice none 0 0))⟩
set_option maxRecDepth 100000 in
set_option maxHeartbeats 2000000 in
/-- linkworkref02.form -/
theorem g_form_p (w : World)  (b : Bool) (A : Option Addr) (n c : Nat) (z : Int) (k : Nat) (h : IZ w b A n c z k) (b' : Bool) (A' : Option Addr) (n' c' : Nat) (z' : Int) (k' : Nat) (h' : IZ w b' A' n' c' z' k') (q : Rat) (K : Nat) (hz : z ≠ 0) (hd : z'.sign = 1) (hq : Rat.divInt z z' = q) (hs : Sz q K) (hk : k + k' ≤ 300000000) :
    Calls Tryz.prog 95 #[.agg #[.bool b, .slice A n c], .agg #[.bool b', .slice A' n' c']] w (RetF w q K) := by
  obtain ⟨s, hs1⟩ : ∃ s, z.sign = s := ⟨_, rfl⟩
  have e0 : ((s : Int) == 0) = false := by simp; rintro rfl; exact hz (Int.sign_eq_zero_iff_zero.1 hs1)
  have HZ := Lib.hid hs1
  have HD := Lib.hid hd
  have HN := Lib.hid (show z ≠ 0 by omega)
  have HP := Lib.hid (show 0 < z' by exact sign_pos hd)
  have HG := Lib.hid (show ((Nat.gcd (z).natAbs (z').natAbs : Nat) : Int) ≠ 0 from gcd_ne HP.out)
  have HM1 := Lib.hid (show z % ((Nat.gcd (z).natAbs (z').natAbs : Nat) : Int) = 0 from Int.emod_eq_zero_of_dvd (Int.ofNat_dvd_left.2 (Nat.gcd_dvd_left _ _)))
  have HM2 := Lib.hid (show z' % ((Nat.gcd (z).natAbs (z').natAbs : Nat) : Int) = 0 from Int.emod_eq_zero_of_dvd (Int.ofNat_dvd_left.2 (Nat.gcd_dvd_right _ _)))
  have HQ := Lib.hid (show Rat.divInt z z' = q by exact hq)
  have HS := Lib.hid hs
  clear hz hd hq hs hs1
  go_enter Tryz.func95, Tryz.ntmps95
  go_wp2_with fail
  (with_reducible refine (r01_sign_e _ b A n c (z) (k) ?_ (s) ?_ ?_).mono ?_); (exact (h.belw ((((Below.refl _ _).alloc (Nat.le_refl _) _).alloc (by simp) _).alloc (by simp <;> omega) _))); (exact HZ.out); (omega); rintro e w1 ⟨rfl, hb1⟩
  have q1 : Below w.heap.size w w1 := ((((Below.refl _ _).alloc (Nat.le_refl _) _).alloc (by simp) _).alloc (by simp <;> omega) _).trans (hb1.mono (by simp <;> omega))
  replace h := h.belw q1
  replace h' := h'.belw q1
  have x1_0 : Blk w1 (w.heap.size) 48 #[.bool b, .slice A n c] := (((blkAt _ _ _ (by simp)).alloc _).alloc _).below hb1 (by simp <;> omega)
  have x1_1 : Blk w1 (w.heap.size + 1) 48 #[.bool b', .slice A' n' c'] := ((blkAt _ _ _ (by simp)).alloc _).below hb1 (by simp <;> omega)
  have x1_2 : Blk w1 (w.heap.size + 1 + 1) 24 #[.bool false, .slice none 0 0, .slice none 0 0] := (blkAt _ _ _ (by simp)).below hb1 (by simp)
  have bw1 : Below w.heap.size w w1 := (brefl w).trans (q1.mono (brefl w).size)
  have lw1 : w.heap.size + 3 ≤ w1.heap.size := by have := hb1.size; simp at this; omega
  clear hb1 q1
  obtain ⟨cx1_1_0, cx1_1_1⟩ := x1_1.c2
  obtain ⟨lx1_1_0, lx1_1_1, lx1_1_2, lx1_1_3⟩ := lts1 x1_1.lt
  go_wp2_with fail
  (with_reducible refine (r01_sign_e _ b' A' n' c' (z') (k') ?_ (1) ?_ ?_).mono ?_); (exact h'); (exact HD.out); (omega); rintro e w2 ⟨rfl, hb2⟩
  clear cx1_1_0 cx1_1_1 lx1_1_0 lx1_1_1 lx1_1_2 lx1_1_3
  have q2 : Below w1.heap.size w1 w2 := hb2
  replace h := h.belw q2
  replace h' := h'.belw q2
  replace x1_0 := x1_0.below q2 x1_0.lt
  replace x1_1 := x1_1.below q2 x1_1.lt
  replace x1_2 := x1_2.below q2 x1_2.lt
  have bw2 : Below w.heap.size w w2 := bw1.trans (q2.mono bw1.size)
  have lw2 : w1.heap.size ≤ w2.heap.size := q2.size
  clear hb2 q2 bw1
  obtain ⟨cx1_0_0, cx1_0_1⟩ := x1_0.c2
  obtain ⟨lx1_0_0, lx1_0_1, lx1_0_2, lx1_0_3⟩ := lts0 x1_0.lt
  obtain ⟨cx1_1_0, cx1_1_1⟩ := x1_1.c2
  obtain ⟨lx1_1_0, lx1_1_1, lx1_1_2, lx1_1_3⟩ := lts1 x1_1.lt
  go_wp2_with fail
  (with_reducible refine (r01_gcd _ b A n c (z) (k) ?_ b' A' n' c' (z') (k') ?_ ?_).mono ?_); (exact h); (exact h'); (first | omega | decide | assumption); rintro e w3 ⟨b3, A3, n3, c3, rfl, h3, hb3⟩
  clear cx1_0_0 cx1_0_1 lx1_0_0 lx1_0_1 lx1_0_2 lx1_0_3 cx1_1_0 cx1_1_1 lx1_1_0 lx1_1_1 lx1_1_2 lx1_1_3
  have q3 : Below w2.heap.size w2 w3 := hb3
  replace h := h.belw q3
  replace h' := h'.belw q3
  replace x1_0 := x1_0.below q3 x1_0.lt
  replace x1_1 := x1_1.below q3 x1_1.lt
  replace x1_2 := x1_2.below q3 x1_2.lt
  have bw3 : Below w.heap.size w w3 := bw2.trans (q3.mono bw2.size)
  have lw3 : w2.heap.size ≤ w3.heap.size := q3.size
  clear hb3 q3 bw2
  obtain ⟨cx1_0_0, cx1_0_1⟩ := x1_0.c2
  obtain ⟨lx1_0_0, lx1_0_1, lx1_0_2, lx1_0_3⟩ := lts0 x1_0.lt
  go_wp2_with fail
  (with_reducible refine (r01_div _ b A n c (z) (k) ?_ b3 A3 n3 c3 ((Nat.gcd ((z)).natAbs ((z')).natAbs : Nat)) ((k) + (k')) ?_  ?_ ?_ ?_).mono ?_); (exact (h.belw ((Below.refl _ _).alloc (Nat.le_refl _) _))); (exact (h3.belw ((Below.refl _ _).alloc (Nat.le_refl _) _)).iz); (omega); (exact HG.out); (exact HM1.out); rintro e w4 ⟨b4, A4, n4, c4, b'4, A'4, n'4, c'4, rfl, h4, h'4, hb4⟩
  clear cx1_0_0 cx1_0_1 lx1_0_0 lx1_0_1 lx1_0_2 lx1_0_3
  have q4 : Below w3.heap.size w3 w4 := ((Below.refl _ _).alloc (Nat.le_refl _) _).trans (hb4.mono (by simp))
  replace h := h.belw q4
  replace h' := h'.belw q4
  replace h3 := h3.belw q4
  replace x1_0 := x1_0.below q4 x1_0.lt
  replace x1_1 := x1_1.below q4 x1_1.lt
  replace x1_2 := x1_2.below q4 x1_2.lt
  have x4_0 : Blk w4 (w3.heap.size) 48 #[.bool b3, .slice A3 n3 c3] := (blkAt _ _ _ (by simp)).below hb4 (by simp)
  have bw4 : Below w.heap.size w w4 := bw3.trans (q4.mono bw3.size)
  have lw4 : w3.heap.size + 1 ≤ w4.heap.size := by have := hb4.size; simp at this; omega
  clear hb4 q4 bw3
  obtain ⟨cx1_1_0, cx1_1_1⟩ := x1_1.c2
  obtain ⟨lx1_1_0, lx1_1_1, lx1_1_2, lx1_1_3⟩ := lts1 x1_1.lt
  obtain ⟨cx4_0_0, cx4_0_1⟩ := x4_0.c2
  obtain ⟨lx4_0_0, lx4_0_1, lx4_0_2, lx4_0_3⟩ := lts0 x4_0.lt
  go_wp2_with fail
  (with_reducible refine (r01_div _ b' A' n' c' (z') (k') ?_ b3 A3 n3 c3 ((Nat.gcd ((z)).natAbs ((z')).natAbs : Nat)) ((k) + (k')) ?_  ?_ ?_ ?_).mono ?_); (exact (h'.belw (((Below.refl _ _).alloc (Nat.le_refl _) _).alloc (by simp) _))); (exact (h3.belw (((Below.refl _ _).alloc (Nat.le_refl _) _).alloc (by simp) _)).iz); (omega); (exact HG.out); (exact HM2.out); rintro e w5 ⟨b5, A5, n5, c5, b'5, A'5, n'5, c'5, rfl, h5, h'5, hb5⟩
  clear cx1_1_0 cx1_1_1 lx1_1_0 lx1_1_1 lx1_1_2 lx1_1_3 cx4_0_0 cx4_0_1 lx4_0_0 lx4_0_1 lx4_0_2 lx4_0_3
  have q5 : Below w4.heap.size w4 w5 := (((Below.refl _ _).alloc (Nat.le_refl _) _).alloc (by simp) _).trans (hb5.mono (by simp <;> omega))
  replace h := h.belw q5
  replace h' := h'.belw q5
  replace h3 := h3.belw q5
  replace h4 := h4.belw q5
  replace h'4 := h'4.belw q5
  replace x1_0 := x1_0.below q5 x1_0.lt
  replace x1_1 := x1_1.below q5 x1_1.lt
  replace x1_2 := x1_2.below q5 x1_2.lt
  replace x4_0 := x4_0.below q5 x4_0.lt
  have x5_0 : Blk w5 (w4.heap.size) 48 #[.bool b4, .slice A4 n4 c4] := ((blkAt _ _ _ (by simp)).alloc _).below hb5 (by simp <;> omega)
  have x5_1 : Blk w5 (w4.heap.size + 1) 48 #[.bool b'4, .slice A'4 n'4 c'4] := (blkAt _ _ _ (by simp)).below hb5 (by simp)
  have bw5 : Below w.heap.size w w5 := bw4.trans (q5.mono bw4.size)
  have lw5 : w4.heap.size + 2 ≤ w5.heap.size := by have := hb5.size; simp at this; omega
  clear hb5 q5 bw4
  obtain ⟨cx1_2_0, cx1_2_1, cx1_2_2⟩ := x1_2.c3
  obtain ⟨fx1_2_0, fx1_2_1, fx1_2_2⟩ := x1_2.f3
  obtain ⟨lx1_2_0, lx1_2_1, lx1_2_2, lx1_2_3⟩ := lts2 x1_2.lt
  obtain ⟨cx5_0_0, cx5_0_1⟩ := x5_0.c2
  obtain ⟨lx5_0_0, lx5_0_1, lx5_0_2, lx5_0_3⟩ := lts0 x5_0.lt
  go_wp2_with fail
  refine bodyPost_ret (v := .agg #[.bool b4, .slice A4 n4 c4, .slice A5 n5 c5]) (by simp [results, Tryz.results95, go_sem, *] <;> first | rfl | exact ⟨rfl, rfl⟩) rfl ?_
  obtain ⟨e1, e2, e3⟩ := form_any HN.out HP.out HQ.out
  exact ⟨_, _, _, _, _, _, _, rfl, QV.mk_ (by rw [e1]; exact h4.2.1.keep ((((((Kp.refl w5).setB (p := ⟨w.heap.size + 1 + 1, 0, none⟩) x1_2.box (by decide) (.bool b4)).setB (p := ⟨w.heap.size + 1 + 1, 1, none⟩) (x1_2.box.set ⟨w.heap.size + 1 + 1, 0, none⟩ (.bool b4)) (by decide) (.slice A4 n4 c4)).setB (p := ⟨w.heap.size + 1 + 1, 2, none⟩) ((x1_2.box.set ⟨w.heap.size + 1 + 1, 0, none⟩ (.bool b4)).set ⟨w.heap.size + 1 + 1, 1, none⟩ (.slice A4 n4 c4)) (by decide) (.slice A5 n5 c5)).alloc (.cells #[.bool b5, .slice A5 n5 c5] 48)).alloc (.cells #[.bool b'5, .slice A'5 n'5 c'5] 48))) (by rw [e2]; exact h5.2.1.keep ((((((Kp.refl w5).setB (p := ⟨w.heap.size + 1 + 1, 0, none⟩) x1_2.box (by decide) (.bool b4)).setB (p := ⟨w.heap.size + 1 + 1, 1, none⟩) (x1_2.box.set ⟨w.heap.size + 1 + 1, 0, none⟩ (.bool b4)) (by decide) (.slice A4 n4 c4)).setB (p := ⟨w.heap.size + 1 + 1, 2, none⟩) ((x1_2.box.set ⟨w.heap.size + 1 + 1, 0, none⟩ (.bool b4)).set ⟨w.heap.size + 1 + 1, 1, none⟩ (.slice A4 n4 c4)) (by decide) (.slice A5 n5 c5)).alloc (.cells #[.bool b5, .slice A5 n5 c5] 48)).alloc (.cells #[.bool b'5, .slice A'5 n'5 c'5] 48))) (by rw [e3]; exact h4.1.symm) HS.out, (((((bw5.setCell (p := ⟨w.heap.size + 1 + 1, 0, none⟩) (by dsimp only; omega) (.bool b4)).setCell (p := ⟨w.heap.size + 1 + 1, 1, none⟩) (by dsimp only; omega) (.slice A4 n4 c4)).setCell (p := ⟨w.heap.size + 1 + 1, 2, none⟩) (by dsimp only; omega) (.slice A5 n5 c5)).alloc (by first | omega | (simp <;> omega)) (.cells #[.bool b5, .slice A5 n5 c5] 48)).alloc (by first | omega | (simp <;> omega)) (.cells #[.bool b'5, .slice A'5 n'5 c'5] 48))⟩
set_option maxRecDepth 100000 in
set_option maxHeartbeats 2000000 in
/-- linkworkref02.form -/
theorem g_form_n (w : World)  (b : Bool) (A : Option Addr) (n c : Nat) (z : Int) (k : Nat) (h : IZ w b A n c z k) (b' : Bool) (A' : Option Addr) (n' c' : Nat) (z' : Int) (k' : Nat) (h' : IZ w b' A' n' c' z' k') (q : Rat) (K : Nat) (hz : z ≠ 0) (hd : z'.sign = -1) (hq : Rat.divInt z z' = q) (hs : Sz q K) (hk : k + k' ≤ 300000000) :
    Calls Tryz.prog 95 #[.agg #[.bool b, .slice A n c], .agg #[.bool b', .slice A' n' c']] w (RetF w q K) := by
  obtain ⟨s, hs1⟩ : ∃ s, z.sign = s := ⟨_, rfl⟩
  have e0 : ((s : Int) == 0) = false := by simp; rintro rfl; exact hz (Int.sign_eq_zero_iff_zero.1 hs1)
  have HZ := Lib.hid hs1
  have HD := Lib.hid hd
  have HN := Lib.hid (show (-z) ≠ 0 by omega)
  have HP := Lib.hid (show 0 < (-z') by exact sign_neg_ hd)
  have HG := Lib.hid (show ((Nat.gcd ((-z)).natAbs ((-z')).natAbs : Nat) : Int) ≠ 0 from gcd_ne HP.out)
  have HM1 := Lib.hid (show (-z) % ((Nat.gcd ((-z)).natAbs ((-z')).natAbs : Nat) : Int) = 0 from Int.emod_eq_zero_of_dvd (Int.ofNat_dvd_left.2 (Nat.gcd_dvd_left _ _)))
  have HM2 := Lib.hid (show (-z') % ((Nat.gcd ((-z)).natAbs ((-z')).natAbs : Nat) : Int) = 0 from Int.emod_eq_zero_of_dvd (Int.ofNat_dvd_left.2 (Nat.gcd_dvd_right _ _)))
  have HQ := Lib.hid (show Rat.divInt (-z) (-z') = q by rw [divInt_neg_neg _ _ (sign_ne hd)]; exact hq)
  have HS := Lib.hid hs
  clear hz hd hq hs hs1
  go_enter Tryz.func95, Tryz.ntmps95
  go_wp2_with fail
  (with_reducible refine (r01_sign_e _ b A n c (z) (k) ?_ (s) ?_ ?_).mono ?_); (exact (h.belw ((((Below.refl _ _).alloc (Nat.le_refl _) _).alloc (by simp) _).alloc (by simp <;> omega) _))); (exact HZ.out); (omega); rintro e w1 ⟨rfl, hb1⟩
  have q1 : Below w.heap.size w w1 := ((((Below.refl _ _).alloc (Nat.le_refl _) _).alloc (by simp) _).alloc (by simp <;> omega) _).trans (hb1.mono (by simp <;> omega))
  replace h := h.belw q1
  replace h' := h'.belw q1
  have x1_0 : Blk w1 (w.heap.size) 48 #[.bool b, .slice A n c] := (((blkAt _ _ _ (by simp)).alloc _).alloc _).below hb1 (by simp <;> omega)
  have x1_1 : Blk w1 (w.heap.size + 1) 48 #[.bool b', .slice A' n' c'] := ((blkAt _ _ _ (by simp)).alloc _).below hb1 (by simp <;> omega)
  have x1_2 : Blk w1 (w.heap.size + 1 + 1) 24 #[.bool false, .slice none 0 0, .slice none 0 0] := (blkAt _ _ _ (by simp)).below hb1 (by simp)
  have bw1 : Below w.heap.size w w1 := (brefl w).trans (q1.mono (brefl w).size)
  have lw1 : w.heap.size + 3 ≤ w1.heap.size := by have := hb1.size; simp at this; omega
  clear hb1 q1
  obtain ⟨cx1_1_0, cx1_1_1⟩ := x1_1.c2
  obtain ⟨lx1_1_0, lx1_1_1, lx1_1_2, lx1_1_3⟩ := lts1 x1_1.lt
  go_wp2_with fail
  (with_reducible refine (r01_sign_e _ b' A' n' c' (z') (k') ?_ (-1) ?_ ?_).mono ?_); (exact h'); (exact HD.out); (omega); rintro e w2 ⟨rfl, hb2⟩
  clear cx1_1_0 cx1_1_1 lx1_1_0 lx1_1_1 lx1_1_2 lx1_1_3
  have q2 : Below w1.heap.size w1 w2 := hb2
  replace h := h.belw q2
  replace h' := h'.belw q2
  replace x1_0 := x1_0.below q2 x1_0.lt
  replace x1_1 := x1_1.below q2 x1_1.lt
  replace x1_2 := x1_2.below q2 x1_2.lt
  have bw2 : Below w.heap.size w w2 := bw1.trans (q2.mono bw1.size)
  have lw2 : w1.heap.size ≤ w2.heap.size := q2.size
  clear hb2 q2 bw1
  go_wp2_with fail
  obtain ⟨cx1_0_0, cx1_0_1⟩ := x1_0.c2
  obtain ⟨cx1_1_0, cx1_1_1⟩ := x1_1.c2
  go_cut [2] (fun s2 wx => s2 = .pointer (some ⟨w.heap.size, 0, none⟩) ∧ ∃ b8 A8 n8 c8 b9 A9 n9 c9, Blk wx (w.heap.size) 48 #[.bool b8, .slice A8 n8 c8] ∧ Blk wx (w.heap.size + 1) 48 #[.bool b9, .slice A9 n9 c9] ∧ Blk wx (w.heap.size + 1 + 1) 24 #[.bool false, .slice none 0 0, .slice none 0 0] ∧ IV wx b8 A8 n8 c8 (-z) k ∧ IV wx b9 A9 n9 c9 (-z') k' ∧ Below w.heap.size w wx ∧ w2.heap.size ≤ wx.heap.size)
  case first =>
    go_region_with (first
      | (go_at_call 99; (with_reducible refine (r01_neg _ b A n c (z) (k) ?_ ?_).mono ?_); (exact h); (omega); rintro e w3 ⟨b4, A4, n4, c4, rfl, h4, hb4⟩; replace hb4 := bnext (below_drewN (brefl _) 1) hb4; replace h' := h'.belw hb4; have bw4 := bw2.trans (hb4.mono bw2.size); have lw4 := hb4.size; replace x1_0 := x1_0.below hb4 x1_0.lt; replace x1_1 := x1_1.below hb4 x1_1.lt; replace x1_2 := x1_2.below hb4 x1_2.lt; obtain ⟨dx1_1_0, dx1_1_1⟩ := x1_1.c2)
      | (go_at_call 99; (with_reducible refine (r01_neg _ b' A' n' c' (z') (k') ?_ ?_).mono ?_); (exact h'); (omega); rintro e w4 ⟨b5, A5, n5, c5, rfl, h5, hb5⟩; replace h4 := h4.belw hb5; have bw5 := bw4.trans (hb5.mono bw4.size); have lw5 := hb5.size; replace x1_0 := x1_0.below hb5 x1_0.lt; replace x1_1 := x1_1.below hb5 x1_1.lt; replace x1_2 := x1_2.below hb5 x1_2.lt; obtain ⟨ex1_0_0, ex1_0_1⟩ := x1_0.c2; obtain ⟨fx1_0_0, fx1_0_1⟩ := x1_0.f2; obtain ⟨ex1_1_0, ex1_1_1⟩ := x1_1.c2; obtain ⟨fx1_1_0, fx1_1_1⟩ := x1_1.f2))
    all_goals
      go_wp2_with fail
      go_meet
      have kp := (((((Kp.refl w4).setB (p := ⟨w.heap.size, 0, none⟩) x1_0.box (by decide) (.bool b4)).setB (p := ⟨w.heap.size, 1, none⟩) (x1_0.box.set ⟨w.heap.size, 0, none⟩ (.bool b4)) (by decide) (.slice A4 n4 c4)).setB (p := ⟨w.heap.size + 1, 0, none⟩) ((x1_1.box.set ⟨w.heap.size, 0, none⟩ (.bool b4)).set ⟨w.heap.size, 1, none⟩ (.slice A4 n4 c4)) (by decide) (.bool b5)).setB (p := ⟨w.heap.size + 1, 1, none⟩) (((x1_1.box.set ⟨w.heap.size, 0, none⟩ (.bool b4)).set ⟨w.heap.size, 1, none⟩ (.slice A4 n4 c4)).set ⟨w.heap.size + 1, 0, none⟩ (.bool b5)) (by decide) (.slice A5 n5 c5))
      exact ⟨rfl, b4, A4, n4, c4, b5, A5, n5, c5, ((((x1_0.set_at 0 (.bool b4) #[.bool b4, .slice A n c] (by simp)).set_at 1 (.slice A4 n4 c4) #[.bool b4, .slice A4 n4 c4] (by simp)).far (p := ⟨w.heap.size + 1, 0, none⟩) (by dsimp only; omega) (.bool b5)).far (p := ⟨w.heap.size + 1, 1, none⟩) (by dsimp only; omega) (.slice A5 n5 c5)), ((((x1_1.far (p := ⟨w.heap.size, 0, none⟩) (by dsimp only; omega) (.bool b4)).far (p := ⟨w.heap.size, 1, none⟩) (by dsimp only; omega) (.slice A4 n4 c4)).set_at 0 (.bool b5) #[.bool b5, .slice A' n' c'] (by simp)).set_at 1 (.slice A5 n5 c5) #[.bool b5, .slice A5 n5 c5] (by simp)), ((((x1_2.far (p := ⟨w.heap.size, 0, none⟩) (by dsimp only; omega) (.bool b4)).far (p := ⟨w.heap.size, 1, none⟩) (by dsimp only; omega) (.slice A4 n4 c4)).far (p := ⟨w.heap.size + 1, 0, none⟩) (by dsimp only; omega) (.bool b5)).far (p := ⟨w.heap.size + 1, 1, none⟩) (by dsimp only; omega) (.slice A5 n5 c5)), h4.keep kp, h5.keep kp, ((((bw5.setCell (p := ⟨w.heap.size, 0, none⟩) (by dsimp only; omega) (.bool b4)).setCell (p := ⟨w.heap.size, 1, none⟩) (by dsimp only; omega) (.slice A4 n4 c4)).setCell (p := ⟨w.heap.size + 1, 0, none⟩) (by dsimp only; omega) (.bool b5)).setCell (p := ⟨w.heap.size + 1, 1, none⟩) (by dsimp only; omega) (.slice A5 n5 c5)), by simp [World.setCell]; omega⟩
  case rest =>
    clear h h'
    obtain ⟨rfl, b8, A8, n8, c8, b9, A9, n9, c9, y0, y1, y2, h8, h9, bwc, lwc⟩ := hcut
    clear x1_0 x1_1 x1_2
    have cy0_0 : wc.cell? ⟨w.heap.size, 0, none⟩ = some (.bool b8) := y0.cell 0
    have cy0_1 : wc.cell? ⟨w.heap.size, 1, none⟩ = some (.slice A8 n8 c8) := y0.cell 1
    obtain ⟨ly0_0, ly0_1, ly0_2, ly0_3⟩ := lts0 y0.lt
    have cy1_0 : wc.cell? ⟨w.heap.size + 1, 0, none⟩ = some (.bool b9) := y1.cell 0
    have cy1_1 : wc.cell? ⟨w.heap.size + 1, 1, none⟩ = some (.slice A9 n9 c9) := y1.cell 1
    obtain ⟨ly1_0, ly1_1, ly1_2, ly1_3⟩ := lts1 y1.lt
    go_wp2_with fail
    (with_reducible refine (r01_gcd _ b8 A8 n8 c8 (-z) (k) ?_ b9 A9 n9 c9 (-z') (k') ?_ ?_).mono ?_); (exact h8.iz); (exact h9.iz); (first | omega | decide | assumption); rintro e w13 ⟨b13, A13, n13, c13, rfl, h13, hb13⟩
    clear cy0_0 cy0_1 ly0_0 ly0_1 ly0_2 ly0_3 cy1_0 cy1_1 ly1_0 ly1_1 ly1_2 ly1_3
    have q13 : Below wc.heap.size wc w13 := hb13
    replace h8 := h8.belw q13
    replace h9 := h9.belw q13
    replace y0 := y0.below q13 y0.lt
    replace y1 := y1.below q13 y1.lt
    replace y2 := y2.below q13 y2.lt
    have bw13 : Below w.heap.size w w13 := bwc.trans (q13.mono bwc.size)
    have lw13 : wc.heap.size ≤ w13.heap.size := q13.size
    clear hb13 q13
    obtain ⟨cy0_0, cy0_1⟩ := y0.c2
    obtain ⟨ly0_0, ly0_1, ly0_2, ly0_3⟩ := lts0 y0.lt
    go_wp2_with fail
    (with_reducible refine (r01_div _ b8 A8 n8 c8 (-z) (k) ?_ b13 A13 n13 c13 ((Nat.gcd ((-z)).natAbs ((-z')).natAbs : Nat)) ((k) + (k')) ?_  ?_ ?_ ?_).mono ?_); (exact (h8.belw ((Below.refl _ _).alloc (Nat.le_refl _) _)).iz); (exact (h13.belw ((Below.refl _ _).alloc (Nat.le_refl _) _)).iz); (omega); (exact HG.out); (exact HM1.out); rintro e w14 ⟨b14, A14, n14, c14, b'14, A'14, n'14, c'14, rfl, h14, h'14, hb14⟩
    clear cy0_0 cy0_1 ly0_0 ly0_1 ly0_2 ly0_3
    have q14 : Below w13.heap.size w13 w14 := ((Below.refl _ _).alloc (Nat.le_refl _) _).trans (hb14.mono (by simp))
    replace h8 := h8.belw q14
    replace h9 := h9.belw q14
    replace h13 := h13.belw q14
    replace y0 := y0.below q14 y0.lt
    replace y1 := y1.below q14 y1.lt
    replace y2 := y2.below q14 y2.lt
    have x14_0 : Blk w14 (w13.heap.size) 48 #[.bool b13, .slice A13 n13 c13] := (blkAt _ _ _ (by simp)).below hb14 (by simp)
    have bw14 : Below w.heap.size w w14 := bw13.trans (q14.mono bw13.size)
    have lw14 : w13.heap.size + 1 ≤ w14.heap.size := by have := hb14.size; simp at this; omega
    clear hb14 q14 bw13
    obtain ⟨cy1_0, cy1_1⟩ := y1.c2
    obtain ⟨ly1_0, ly1_1, ly1_2, ly1_3⟩ := lts1 y1.lt
    obtain ⟨cx14_0_0, cx14_0_1⟩ := x14_0.c2
    obtain ⟨lx14_0_0, lx14_0_1, lx14_0_2, lx14_0_3⟩ := lts0 x14_0.lt
    go_wp2_with fail
    (with_reducible refine (r01_div _ b9 A9 n9 c9 (-z') (k') ?_ b13 A13 n13 c13 ((Nat.gcd ((-z)).natAbs ((-z')).natAbs : Nat)) ((k) + (k')) ?_  ?_ ?_ ?_).mono ?_); (exact (h9.belw (((Below.refl _ _).alloc (Nat.le_refl _) _).alloc (by simp) _)).iz); (exact (h13.belw (((Below.refl _ _).alloc (Nat.le_refl _) _).alloc (by simp) _)).iz); (omega); (exact HG.out); (exact HM2.out); rintro e w15 ⟨b15, A15, n15, c15, b'15, A'15, n'15, c'15, rfl, h15, h'15, hb15⟩
    clear cy1_0 cy1_1 ly1_0 ly1_1 ly1_2 ly1_3 cx14_0_0 cx14_0_1 lx14_0_0 lx14_0_1 lx14_0_2 lx14_0_3
    have q15 : Below w14.heap.size w14 w15 := (((Below.refl _ _).alloc (Nat.le_refl _) _).alloc (by simp) _).trans (hb15.mono (by simp <;> omega))
    replace h8 := h8.belw q15
    replace h9 := h9.belw q15
    replace h13 := h13.belw q15
    replace h14 := h14.belw q15
    replace h'14 := h'14.belw q15
    replace y0 := y0.below q15 y0.lt
    replace y1 := y1.below q15 y1.lt
    replace y2 := y2.below q15 y2.lt
    replace x14_0 := x14_0.below q15 x14_0.lt
    have x15_0 : Blk w15 (w14.heap.size) 48 #[.bool b14, .slice A14 n14 c14] := ((blkAt _ _ _ (by simp)).alloc _).below hb15 (by simp <;> omega)
    have x15_1 : Blk w15 (w14.heap.size + 1) 48 #[.bool b'14, .slice A'14 n'14 c'14] := (blkAt _ _ _ (by simp)).below hb15 (by simp)
    have bw15 : Below w.heap.size w w15 := bw14.trans (q15.mono bw14.size)
    have lw15 : w14.heap.size + 2 ≤ w15.heap.size := by have := hb15.size; simp at this; omega
    clear hb15 q15 bw14
    obtain ⟨cy2_0, cy2_1, cy2_2⟩ := y2.c3
    obtain ⟨fy2_0, fy2_1, fy2_2⟩ := y2.f3
    obtain ⟨ly2_0, ly2_1, ly2_2, ly2_3⟩ := lts2 y2.lt
    obtain ⟨cx15_0_0, cx15_0_1⟩ := x15_0.c2
    obtain ⟨lx15_0_0, lx15_0_1, lx15_0_2, lx15_0_3⟩ := lts0 x15_0.lt
    go_wp2_with fail
    refine bodyPost_ret (v := .agg #[.bool b14, .slice A14 n14 c14, .slice A15 n15 c15]) (by simp [results, Tryz.results95, go_sem, *] <;> first | rfl | exact ⟨rfl, rfl⟩) rfl ?_
    obtain ⟨e1, e2, e3⟩ := form_any HN.out HP.out HQ.out
    exact ⟨_, _, _, _, _, _, _, rfl, QV.mk_ (by rw [e1]; exact h14.2.1.keep ((((((Kp.refl w15).setB (p := ⟨w.heap.size + 1 + 1, 0, none⟩) y2.box (by decide) (.bool b14)).setB (p := ⟨w.heap.size + 1 + 1, 1, none⟩) (y2.box.set ⟨w.heap.size + 1 + 1, 0, none⟩ (.bool b14)) (by decide) (.slice A14 n14 c14)).setB (p := ⟨w.heap.size + 1 + 1, 2, none⟩) ((y2.box.set ⟨w.heap.size + 1 + 1, 0, none⟩ (.bool b14)).set ⟨w.heap.size + 1 + 1, 1, none⟩ (.slice A14 n14 c14)) (by decide) (.slice A15 n15 c15)).alloc (.cells #[.bool b15, .slice A15 n15 c15] 48)).alloc (.cells #[.bool b'15, .slice A'15 n'15 c'15] 48))) (by rw [e2]; exact h15.2.1.keep ((((((Kp.refl w15).setB (p := ⟨w.heap.size + 1 + 1, 0, none⟩) y2.box (by decide) (.bool b14)).setB (p := ⟨w.heap.size + 1 + 1, 1, none⟩) (y2.box.set ⟨w.heap.size + 1 + 1, 0, none⟩ (.bool b14)) (by decide) (.slice A14 n14 c14)).setB (p := ⟨w.heap.size + 1 + 1, 2, none⟩) ((y2.box.set ⟨w.heap.size + 1 + 1, 0, none⟩ (.bool b14)).set ⟨w.heap.size + 1 + 1, 1, none⟩ (.slice A14 n14 c14)) (by decide) (.slice A15 n15 c15)).alloc (.cells #[.bool b15, .slice A15 n15 c15] 48)).alloc (.cells #[.bool b'15, .slice A'15 n'15 c'15] 48))) (by rw [e3]; exact h14.1.symm) HS.out, (((((bw15.setCell (p := ⟨w.heap.size + 1 + 1, 0, none⟩) (by dsimp only; omega) (.bool b14)).setCell (p := ⟨w.heap.size + 1 + 1, 1, none⟩) (by dsimp only; omega) (.slice A14 n14 c14)).setCell (p := ⟨w.heap.size + 1 + 1, 2, none⟩) (by dsimp only; omega) (.slice A15 n15 c15)).alloc (by first | omega | (simp <;> omega)) (.cells #[.bool b15, .slice A15 n15 c15] 48)).alloc (by first | omega | (simp <;> omega)) (.cells #[.bool b'15, .slice A'15 n'15 c'15] 48))⟩
theorem g_form (w : World)  (b : Bool) (A : Option Addr) (n c : Nat) (z : Int) (k : Nat) (h : IZ w b A n c z k) (b' : Bool) (A' : Option Addr) (n' c' : Nat) (z' : Int) (k' : Nat) (h' : IZ w b' A' n' c' z' k') (q : Rat) (K : Nat) (hd : z' ≠ 0) (hq : Rat.divInt z z' = q) (hs : Sz q K) (hk : k + k' ≤ 300000000) :
    Calls Tryz.prog 95 #[.agg #[.bool b, .slice A n c], .agg #[.bool b', .slice A' n' c']] w (RetF w q K) := by
  by_cases s : z = 0
  · rw [← hq, s, Rat.zero_divInt]; exact g_form_0 w b A n c z k h b' A' n' c' z' k' h' K s hk
  · rcases sign3 z' with t | t | t
    · exact absurd t hd
    · exact g_form_p w b A n c z k h b' A' n' c' z' k' h' q K s t hq hs hk
    · exact g_form_n w b A n c z k h b' A' n' c' z' k' h' q K s t hq hs hk
end Go.Proofs.YtpnnfbodphflpaaGreatDoor

/- Walks: the reference's times, Mul. -/
namespace Go.Proofs.YtpnnfbodphflpaaGreatDoor
open Go Go.RowKit Bn
attribute [local go_sem ↓] Go.wp_at_zero Go.wp_at_succ
set_option maxHeartbeats 1000000 in
/-- linkworkref01.times -/
theorem r_times_c (w : World) (A : Option Addr) (n c : Nat) (l : List Nat) (wa : Wd w A n c l) (hn : n ≤ 1099511627776) (A' : Option Addr) (n' c' : Nat) (l' : List Nat) (wb : Wd w A' n' c' l') (hn' : n' ≤ 1099511627776) :
    Calls Tryz.prog 64 #[.slice A n c, .slice A' n' c'] w (RetL w (digs (val l * val l'))) := by
  have HL := Lib.hid wa.2.1
  have HL' := Lib.hid wb.2.1
  go_enter Tryz.func64, Tryz.ntmps64
  go_wp2_with (at_make; refine wpList_make_words _ rfl _ _ rfl _ _ _ _ (n + n') rfl rfl (by omega) (by omega) (by omega) ?_)
  go_loopw [18] (fun iv wr => ∃ (i : Nat) (L : List Nat), i ≤ n ∧ iv = .int .i64 (i : Nat) ∧ L.length = n + n' ∧ TimesO l l' L (n + n') n' i ∧ Blk wr w.heap.size 84 (cellsOf L) ∧ Below w.heap.size w wr) (fun iv _ => n - (intOf iv).toNat)
  case atStart =>
    refine ⟨0, List.replicate (n + n') 0, Nat.zero_le _, rfl, by simp, ⟨by intro x hx; rw [List.eq_of_mem_replicate hx]; omega, fun j _ => ?_, ?_⟩, Blk.new _ _ _, (Below.refl _ _).alloc (Nat.le_refl _) _⟩
    · unfold wd; by_cases hj : j < n + n' <;> simp [List.getD, hj]
    · rw [Sm]
      have : ∀ m, Sm (wd (List.replicate (n + n') 0)) m = 0 := by
        intro m
        induction m with
        | zero => rfl
        | succ m ih =>
          rw [Sm, ih]
          unfold wd; by_cases hj : m < n + n' <;> simp [List.getD, hj]
      rw [this]; simp
  case round =>
    obtain ⟨i, L, hi, rfl, hLM, hI, hB, hbel⟩ := hrel
    have hKp := Lib.hid ((Kp.refl w).below hbel)
    have HI := Lib.hid hI
    have HB := Lib.hid hB
    have HLM := Lib.hid hLM
    clear hI hB hLM
    by_cases hkM : i < n
    · obtain ⟨x, hx⟩ : ∃ x, wd l i = x := ⟨_, rfl⟩
      have hx1 : x < 4294967296 := by rw [← hx]; exact wa.lt i
      have HX := Lib.hid hx
      clear hx
      go_wp2_with fail
      obtain ⟨wo, hwo⟩ : ∃ wo : World, wo = wr := ⟨_, rfl⟩
      have HWO := Lib.hid hwo
      clear hwo
      go_loopw [7, 23] (fun cv kv w2 => ∃ (k cr : Nat) (L2 : List Nat), k ≤ n' ∧ kv = .int .i64 (k : Nat) ∧ cv = .int .u64 (cr : Nat) ∧ cr < 4294967296 ∧ L2.length = n + n' ∧ TimesN l l' L2 (n + n') n' i x k cr ∧ Blk w2 w.heap.size 84 (cellsOf L2) ∧ Below w.heap.size w w2) (fun _ kv _ => n' - (intOf kv).toNat)
      case atStart => exact ⟨0, 0, L, Nat.zero_le _, rfl, rfl, by omega, HLM.out, ⟨HI.out.1, HI.out.2.1, by rw [HI.out.2.2]; simp [Sm]⟩, HB.out, hbel⟩
      case round =>
        obtain ⟨k, cr, L2, hk, rfl, rfl, hcr, hLM2, hI2, hB2, hbel2⟩ := hrel
        have hKp2 := Lib.hid ((Kp.refl w).below hbel2)
        have HI2 := Lib.hid hI2
        have HB2 := Lib.hid hB2
        have HLM2 := Lib.hid hLM2
        clear hI2 hB2 hLM2
        by_cases hkk : k < n'
        · obtain ⟨g2, o2, rfl, hgl2, hc2⟩ := (wb.keep hKp2.out).at2 (by omega)
          obtain ⟨g, o, rfl, hgl, hc1⟩ := (wa.keep hKp2.out).at2 (by omega)
          have hcx := hc1 i hkM
          rw [HX.out] at hcx
          clear hc1
          have hcy := hc2 k hkk
          obtain ⟨y, z, hy, hz⟩ : ∃ y z, wd l' k = y ∧ wd L2 (i + k) = z := ⟨_, _, rfl, rfl⟩
          have hy1 : y < 4294967296 := by rw [← hy]; exact wb.lt k
          have hz1 : z < 4294967296 := by rw [← hz]; exact wd_lt HI2.out.1 _
          rw [hy] at hcy
          have hck := HB2.out.cell (i + k)
          rw [cellsOf_get (by rw [HLM2.out]; omega), hz] at hck
          have hfk := HB2.out.frozen (i + k)
          have HY := Lib.hid hy
          have HZ := Lib.hid hz
          clear hy hz hc2
          obtain ⟨p, hp⟩ : ∃ d, IntKind.u64.wrap ((x : Int) * (y : Int)) = d := ⟨_, rfl⟩
          obtain ⟨q, hq⟩ : ∃ d, IntKind.u64.wrap (p + (z : Int)) = d := ⟨_, rfl⟩
          obtain ⟨s, hs⟩ : ∃ d, IntKind.u64.wrap (q + (cr : Int)) = d := ⟨_, rfl⟩
          have HD := Lib.hid (times_word hx1 hy1 hz1 hcr hp hq (show IntKind.u64.wrap ((cr : Int) + q) = s by rw [Int.add_comm]; exact hs))
          go_wp2
          go_quiet (fail)
          go_wp2
          obtain ⟨es, hs2⟩ := HD.out
          clear hp hq hs
          go_roundw
          case rel =>
            refine ⟨k + 1, (cr + x * y + z) / 4294967296, L2.set (i + k) ((cr + x * y + z) % 4294967296), by omega, by go_num, by rw [es]; go_num, hs2, by rw [List.length_set]; exact HLM2.out, ⟨wds_set HI2.out.1 _ (Nat.mod_lt _ (by omega)), ?_, ?_⟩, ?_, (below_drewN hbel2 _).setCell (Nat.le_refl _) _⟩
            · intro j hj; rw [wd_set, if_neg (by omega)]; exact HI2.out.2.1 j hj
            · have hm := Sm_set_mid L2 (i + k) ((cr + x * y + z) % 4294967296) (n + n') (by rw [HLM2.out]; omega) (by omega)
              rw [HZ.out] at hm
              have ht := times_step (o := z) (x := x) (y := y) (Sb := Sm (wd l') k) (Pi := 4294967296 ^ i) (Pk := 4294967296 ^ k) HI2.out.2.2 (by rw [Nat.pow_add]) hm
              rw [← Nat.add_assoc, Nat.pow_succ, Sm, HY.out]
              exact ht
            · exact (HB2.out.below (below_drewN (brefl _) _) HB2.out.lt).setW (i + k) _ _ (by rw [es]; omega)
          case measure => simp [intOf]; omega
        · have hk2 : k = n' := by omega
          have HK2 := Lib.hid hk2
          have hck := HB2.out.cell (i + n')
          have hz : wd L2 (i + n') = 0 := HI2.out.2.1 _ (by omega)
          rw [cellsOf_get (by rw [HLM2.out]; omega), hz] at hck
          have hfk := HB2.out.frozen (i + n')
          have hge : n' ≤ k := by omega
          clear hk2 hkk hz
          go_wp2
          go_roundw
          case rel =>
            refine ⟨i + 1, L2.set (i + n') cr, by omega, by go_num, by rw [List.length_set]; exact HLM2.out, ⟨wds_set HI2.out.1 _ hcr, ?_, ?_⟩, ?_, hbel2.setCell (Nat.le_refl _) _⟩
            · intro j hj; rw [wd_set, if_neg (by omega)]; exact HI2.out.2.1 j (by omega)
            · have hm := Sm_set_mid L2 (i + n') cr (n + n') (by rw [HLM2.out]; omega) (by omega)
              rw [HI2.out.2.1 _ (by omega), Nat.zero_mul, Nat.add_zero] at hm
              have h2 := HI2.out.2.2
              rw [HK2.out, Sm_ge l' (by rw [← HL'.out]; exact Nat.le_refl _)] at h2
              rw [hm, h2, Sm, HX.out, Nat.add_mul]
              congr 1
              rw [Nat.mul_assoc, Nat.mul_comm (val l'), ← Nat.mul_assoc]
            · exact HB2.out.setW (i + n') _ _ rfl
          case measure => simp [intOf]; omega
    · have hkk : i = n := by omega
      subst hkk
      have hv2 : val L = val l * val l' := by
        have h1 := HI.out.2.2
        rw [Sm_ge L (by rw [HLM.out]; exact Nat.le_refl _), Sm_ge l (by rw [← HL.out]; omega)] at h1
        exact h1
      have HV2 := Lib.hid hv2
      clear hv2
      go_wp2_with fail
      refine (r_trim_c _ _ (i + n') (i + n') L ?_ ?_).mono ?_
      · exact HB.out.wdN HI.out.1 HLM.out
      · omega
      rintro e w1 ⟨A1, n1, c1, rfl, h1, hb1⟩
      go_wp2
      go_ret
      rw [HV2.out] at h1
      exact ⟨_, _, _, rfl, h1, hbel.trans (hb1.mono hbel.size)⟩
set_option maxHeartbeats 2000000 in
/-- integer.Mul -/
theorem r_mul_C (w : World) (b : Bool) (A : Option Addr) (n c : Nat) (l : List Nat) (wa : Wd w A n c l) (hn : n ≤ 500000000000) (b' : Bool) (A' : Option Addr) (n' c' : Nat) (l' : List Nat) (wb : Wd w A' n' c' l') (hn' : n' ≤ 500000000000) :
    Calls Tryz.prog 96 #[.agg #[.bool b, .slice A n c], .agg #[.bool b', .slice A' n' c']] w (RetW w (wh (WD.z ⟨b, l⟩ * WD.z ⟨b', l'⟩))) := by
  have HL := Lib.hid wa.2.1
  have HL' := Lib.hid wb.2.1
  go_enter Tryz.func96, Tryz.ntmps96
  go_wp2_with fail
  have b0 : Below w.heap.size w (((w.alloc (.cells #[.bool b, .slice A n c] 48)).alloc (.cells #[.bool b', .slice A' n' c'] 48)).alloc (.cells #[.bool false, .slice none 0 0] 48)) := ((((Below.refl _ _).alloc (Nat.le_refl _) _).alloc (by simp) _).alloc (by simp; omega) _)
  generalize hW0 : (((w.alloc (.cells #[.bool b, .slice A n c] 48)).alloc (.cells #[.bool b', .slice A' n' c'] 48)).alloc (.cells #[.bool false, .slice none 0 0] 48)) = W0 at b0 ⊢
  have c00 : W0.cell? ⟨w.heap.size, 0, none⟩ = some (.bool b) := by subst hW0; simp [go_sem]
  have f00 : W0.frozen? ⟨w.heap.size, 0, none⟩ = false := by subst hW0; simp [go_sem]
  have c01 : W0.cell? ⟨w.heap.size, 1, none⟩ = some (.slice A n c) := by subst hW0; simp [go_sem]
  have f01 : W0.frozen? ⟨w.heap.size, 1, none⟩ = false := by subst hW0; simp [go_sem]
  have c10 : W0.cell? ⟨w.heap.size + 1, 0, none⟩ = some (.bool b') := by subst hW0; simp [go_sem]
  have f10 : W0.frozen? ⟨w.heap.size + 1, 0, none⟩ = false := by subst hW0; simp [go_sem]
  have c11 : W0.cell? ⟨w.heap.size + 1, 1, none⟩ = some (.slice A' n' c') := by subst hW0; simp [go_sem]
  have f11 : W0.frozen? ⟨w.heap.size + 1, 1, none⟩ = false := by subst hW0; simp [go_sem]
  have c20 : W0.cell? ⟨w.heap.size + 1 + 1, 0, none⟩ = some (.bool false) := by subst hW0; simp [go_sem]
  have f20 : W0.frozen? ⟨w.heap.size + 1 + 1, 0, none⟩ = false := by subst hW0; simp [go_sem]
  have c21 : W0.cell? ⟨w.heap.size + 1 + 1, 1, none⟩ = some (.slice none 0 0) := by subst hW0; simp [go_sem]
  have f21 : W0.frozen? ⟨w.heap.size + 1 + 1, 1, none⟩ = false := by subst hW0; simp [go_sem]
  have x0 : Box W0 (w.heap.size) 48 := by subst hW0; exact ((boxAt _ _ _ (by simp)).alloc _).alloc _
  have x1 : Box W0 (w.heap.size + 1) 48 := by subst hW0; exact (boxAt _ _ _ (by simp)).alloc _
  have x2 : Box W0 (w.heap.size + 1 + 1) 48 := by subst hW0; exact boxAt _ _ _ (by simp)
  have hm0 : Made (w.heap.size + 1 + 1) (w.heap.size + 1 + 1 + 1) 2 W0 := by subst hW0; exact made1 (by simp)
  have hs0 : w.heap.size + 1 + 1 + 1 ≤ W0.heap.size := by subst hW0; simp
  clear hW0
  have wa := wa.belw b0
  have wb := wb.belw b0
  have r0 : Below W0.heap.size W0 W0 := brefl _
  have hRB : w.heap.size + 1 + 1 ≤ w.heap.size + 1 + 1 + 1 := by omega
  go_region_held3 (fun w' => Sees (w.heap.size + 1 + 1) W0 w') (first | exact Sees.of (Nat.le_trans hRB hs0) (by assumption) | exact Sees.of (Nat.le_trans hRB hs0) (below_drewN (by assumption) _) | exact (Sees.set (Sees.of (Nat.le_trans hRB hs0) (by assumption)) (by simp)) | exact (Sees.set (Sees.set (Sees.of (Nat.le_trans hRB hs0) (by assumption)) (by simp)) (by simp)))
    (first
      | (go_at_call 74; (with_reducible refine (r_neg_c _ b A n c l ?_ ?_).mono ?_); (exact wa); (omega); rintro e w1 ⟨rfl, hb1⟩; replace hb1 := bnext (below_drewN (brefl _) 1) hb1; have r1 := bnext r0 hb1; replace wa := wa.belw hb1; replace wb := wb.belw hb1)
      | (go_at_call 74; (with_reducible refine (r_neg_c _ b' A' n' c' l' ?_ ?_).mono ?_); (exact wb); (omega); rintro e w2 ⟨rfl, hb2⟩; have r2 := bnext r1 hb2; replace wa := wa.belw hb2; replace wb := wb.belw hb2)
      | (go_at_call 72; (with_reducible refine (r_mag_c _ b A n c l ?_ ?_).mono ?_); (exact wa); (omega); rintro e w3 ⟨A1, n1, c1, rfl, h1, hb3⟩; have r3 := bnext r2 hb3; replace wa := wa.belw hb3; replace wb := wb.belw hb3)
      | (go_at_call 72; (with_reducible refine (r_mag_c _ b' A' n' c' l' ?_ ?_).mono ?_); (exact wb); (omega); rintro e w4 ⟨A2, n2, c2, rfl, h2, hb4⟩; have r4 := bnext r3 hb4; replace wa := wa.belw hb4; replace wb := wb.belw hb4; replace h1 := h1.belw hb4)
      | (go_at_call 64; (with_reducible refine (r_times_c _ A1 n1 c1 (WD.m ⟨b, l⟩) ?_ ?_ A2 n2 c2 (WD.m ⟨b', l'⟩) ?_ ?_).mono ?_); (exact h1); (exact Nat.le_trans (h1.m_len (by rw [← HL.out]; exact hn)) (by decide)); (exact h2); (exact Nat.le_trans (h2.m_len (by rw [← HL'.out]; exact hn')) (by decide)); rintro e w5 ⟨A3, n3, c3, rfl, h3, hb5⟩; have r5 := bnext r4 hb5; replace wa := wa.belw hb5; replace wb := wb.belw hb5; replace h1 := h1.belw hb5; replace h2 := h2.belw hb5)
      | (go_at_call 65; (with_reducible refine (r_form_e _ (!(WD.s ⟨b, l⟩ == WD.s ⟨b', l'⟩)) A3 n3 c3 (digs (val (WD.m ⟨b, l⟩) * val (WD.m ⟨b', l'⟩))) (WD.z ⟨b, l⟩ * WD.z ⟨b', l'⟩) ?_ ?_ ?_).mono ?_); (exact h3); (rw [h3.2.1]; exact times_len h1 h2 (Nat.le_trans (Nat.add_le_add (h1.m_len (by rw [← HL.out]; exact hn)) (h2.m_len (by rw [← HL'.out]; exact hn'))) (by decide))); (rw [val_digs]; exact (z_mul _ _).symm); rintro e w6 ⟨A4, n4, c4, rfl, h4, hb6⟩; have r6 := bnext r5 hb6; replace wa := wa.belw hb6; replace wb := wb.belw hb6; replace h1 := h1.belw hb6; replace h2 := h2.belw hb6; replace h3 := h3.belw hb6; obtain ⟨⟨sc, sf⟩, sr, sz⟩ := Seen.of (by omega) hs0 hm0 r6))
  clear hRB
  go_wp2_with fail
  refine bodyPost_ret (v := .agg #[.bool _, .slice A4 n4 c4]) (by simp [results, Tryz.results96, go_sem, sr]; rfl) rfl ?_
  have x := x2.below r6
  refine retW ?_ ?_ ?_
  · rfl
  · exact h4.keep (kp2 x (by decide) _ _ _ _)
  · exact ((b0.trans (r6.mono b0.size)).setCell (by dsimp only; omega) _).setCell (by dsimp only; omega) _
end Go.Proofs.YtpnnfbodphflpaaGreatDoor

/- The reference's Mul on integers. -/
namespace Go.Proofs.YtpnnfbodphflpaaGreatDoor
open Go Go.RowKit Bn
theorem r01_mul (w : World) (b : Bool) (A : Option Addr) (n c : Nat) (z : Int) (k : Nat) (h : IZ w b A n c z k) (b' : Bool) (A' : Option Addr) (n' c' : Nat) (z' : Int) (k' : Nat) (h' : IZ w b' A' n' c' z' k') (hk : k + k' ≤ 1000000000) : Calls Tryz.prog 96 #[.agg #[.bool b, .slice A n c], .agg #[.bool b', .slice A' n' c']] w (RetI w (z * z') (k + k')) := by
  have hz := h.lt
  have hz' := h'.lt
  obtain ⟨l, h1, rfl, h3⟩ := h
  obtain ⟨l', h1', rfl, h3'⟩ := h'
  exact (r_mul_C w b A n c l h1 (by omega) b' A' n' c' l' h1' (by omega)).mono fun _ _ r => r.i (natAbs_mul_lt hz hz')
end Go.Proofs.YtpnnfbodphflpaaGreatDoor
