/- Part A4: lemmas and walks that the claim rests on. No claim is made here. -/
import Derived.Deep.DeepCutAuto
import Derived.Deep.RegionHeld3
import Derived.Deep.DrawnRows
import Derived.BigQuiet
import Derived.Test.YtmneloabphplmaaGreatA3
set_option linter.unusedVariables false
/- Walks: the reference: fractions in lowest terms. -/
namespace Go.Proofs.YtmneloabphplmaaGreat
open Go Go.RowKit Bn
attribute [local go_sem ↓] Go.wp_at_zero Go.wp_at_succ
theorem r01_sign_e (w : World) (b : Bool) (A : Option Addr) (n c : Nat) (z : Int) (k : Nat) (h : IZ w b A n c z k) (s : Int) (hs : z.sign = s) (hk : k ≤ 1000000000) : Calls Tryz.prog 61 #[.agg #[.bool b, .slice A n c]] w (RetV w (.int .i64 s)) := by
  subst hs; exact r01_sign w b A n c z k h hk
theorem form_any {z d : Int} {q : Rat} (hz : z ≠ 0) (hd : 0 < d) (hq : Rat.divInt z d = q) :
    (rd q).num = (wh (z / ((Nat.gcd z.natAbs d.natAbs : Nat) : Int))).mag ∧ (rd q).den = (wh (d / ((Nat.gcd z.natAbs d.natAbs : Nat) : Int))).mag ∧ (rd q).neg = (wh (z / ((Nat.gcd z.natAbs d.natAbs : Nat) : Int))).neg := by
  rw [← hq, rd_divInt hz hd, wh_div _ hd]
  have hg : 0 < Nat.gcd z.natAbs d.natAbs := Nat.gcd_pos_of_pos_right _ (by omega)
  have hdv : ((Nat.gcd z.natAbs d.natAbs : Nat) : Int) ∣ z := Int.ofNat_dvd_left.2 (Nat.gcd_dvd_left _ _)
  generalize Nat.gcd z.natAbs d.natAbs = g at *
  obtain ⟨m, rfl⟩ := hdv
  have e : (g : Int) * m / (g : Int) = m := Int.mul_ediv_cancel_left _ (by omega)
  have e2 : ((g : Int) * m).natAbs / g = m.natAbs := by rw [Int.natAbs_mul, Int.natAbs_natCast]; exact Nat.mul_div_cancel_left _ hg
  rw [e, e2]
  refine ⟨rfl, rfl, ?_⟩
  unfold wh
  simp only [decide_eq_decide]
  constructor
  · intro h; rcases (show m < 0 ∨ 0 ≤ m by omega) with h1 | h1; exact h1; exact absurd (Int.mul_nonneg (Int.natCast_nonneg g) h1) (by omega)
  · intro h; exact Int.mul_neg_of_pos_of_neg (by omega) h
set_option maxRecDepth 100000 in
set_option maxHeartbeats 2000000 in
/-- linkworkref02.form -/
theorem g_form_0 (w : World) (b : Bool) (A : Option Addr) (n c : Nat) (z : Int) (k : Nat) (h : IZ w b A n c z k) (b' : Bool) (A' : Option Addr) (n' c' : Nat) (z' : Int) (k' : Nat) (h' : IZ w b' A' n' c' z' k') (K : Nat) (hz : z = 0) (hk : k + k' ≤ 300000000) :
    Calls Tryz.prog 71 #[.agg #[.bool b, .slice A n c], .agg #[.bool b', .slice A' n' c']] w (RetF w 0 K) := by
  have HZ := Lib.hid (show z.sign = 0 by rw [hz]; rfl)
  clear hz
  go_enter Tryz.func71, Tryz.ntmps71
  go_wp2_with fail
  (with_reducible refine (r01_sign_e _ b A n c (z) (k) ?_ (0) ?_ ?_).mono ?_); (exact (h.belw ((((Below.refl _ _).alloc (Nat.le_refl _) _).alloc (by simp) _).alloc (by simp <;> omega) _))); (exact HZ.out); (omega); rintro e w1 ⟨rfl, hb1⟩
  have q1 : Below w.heap.size w w1 := ((((Below.refl _ _).alloc (Nat.le_refl _) _).alloc (by simp) _).alloc (by simp <;> omega) _).trans (hb1.mono (by simp <;> omega))
  replace h := h.belw q1
  replace h' := h'.belw q1
  have x1_0 : Blk w1 (w.heap.size) 77 #[.bool b, .slice A n c] := (((blkAt _ _ _ (by simp)).alloc _).alloc _).below hb1 (by simp <;> omega)
  have x1_1 : Blk w1 (w.heap.size + 1) 77 #[.bool b', .slice A' n' c'] := ((blkAt _ _ _ (by simp)).alloc _).below hb1 (by simp <;> omega)
  have x1_2 : Blk w1 (w.heap.size + 1 + 1) 24 #[.bool false, .slice none 0 0, .slice none 0 0] := (blkAt _ _ _ (by simp)).below hb1 (by simp)
  have bw1 : Below w.heap.size w w1 := (brefl w).trans (q1.mono (brefl w).size)
  have lw1 : w.heap.size + 3 ≤ w1.heap.size := by have := hb1.size; simp at this; omega
  clear hb1 q1
  obtain ⟨cx1_2_0, cx1_2_1, cx1_2_2⟩ := x1_2.c3
  obtain ⟨fx1_2_0, fx1_2_1, fx1_2_2⟩ := x1_2.f3
  obtain ⟨lx1_2_0, lx1_2_1, lx1_2_2, lx1_2_3⟩ := lts2 x1_2.lt
  go_wp2_with fail
  refine bodyPost_ret (v := .agg #[.bool false, .slice none 0 0, .slice none 0 0]) (by simp [results, Tryz.results71, go_sem, *] <;> first | rfl | exact ⟨rfl, rfl⟩) rfl ?_
  exact ⟨false, none, 0, 0, none, 0, 0, rfl, QV.zero _ _, (((bw1.setCell (p := ⟨w.heap.size + 1 + 1, 0, none⟩) (by dsimp only; omega) (.bool false)).setCell (p := ⟨w.heap.size + 1 + 1, 1, none⟩) (by dsimp only; omega) (.slice none 0 0)).setCell (p := ⟨w.heap.size + 1 + 1, 2, none⟩) (by dsimp only; omega) (.slice none 0 0))⟩
set_option maxRecDepth 100000 in
set_option maxHeartbeats 2000000 in
/-- linkworkref02.form -/
theorem g_form_p (w : World)  (b : Bool) (A : Option Addr) (n c : Nat) (z : Int) (k : Nat) (h : IZ w b A n c z k) (b' : Bool) (A' : Option Addr) (n' c' : Nat) (z' : Int) (k' : Nat) (h' : IZ w b' A' n' c' z' k') (q : Rat) (K : Nat) (hz : z ≠ 0) (hd : z'.sign = 1) (hq : Rat.divInt z z' = q) (hs : Sz q K) (hk : k + k' ≤ 300000000) :
    Calls Tryz.prog 71 #[.agg #[.bool b, .slice A n c], .agg #[.bool b', .slice A' n' c']] w (RetF w q K) := by
  obtain ⟨s, hs1⟩ : ∃ s, z.sign = s := ⟨_, rfl⟩
  have e0 : ((s : Int) == 0) = false := by simp; rintro rfl; exact hz (Int.sign_eq_zero_iff_zero.1 hs1)
  have HZ := Lib.hid hs1
  have HD := Lib.hid hd
  have HN := Lib.hid (show z ≠ 0 by omega)
  have HP := Lib.hid (show 0 < z' by exact sign_pos hd)
  have HG := Lib.hid (show ((Nat.gcd (z).natAbs (z').natAbs : Nat) : Int) ≠ 0 from gcd_ne HP.out)
  have HM1 := Lib.hid (show z % ((Nat.gcd (z).natAbs (z').natAbs : Nat) : Int) = 0 from Int.emod_eq_zero_of_dvd (Int.ofNat_dvd_left.2 (Nat.gcd_dvd_left _ _)))
  have HM2 := Lib.hid (show z' % ((Nat.gcd (z).natAbs (z').natAbs : Nat) : Int) = 0 from Int.emod_eq_zero_of_dvd (Int.ofNat_dvd_left.2 (Nat.gcd_dvd_right _ _)))
  have HQ := Lib.hid (show Rat.divInt z z' = q by exact hq)
  have HS := Lib.hid hs
  clear hz hd hq hs hs1
  go_enter Tryz.func71, Tryz.ntmps71
  go_wp2_with fail
  (with_reducible refine (r01_sign_e _ b A n c (z) (k) ?_ (s) ?_ ?_).mono ?_); (exact (h.belw ((((Below.refl _ _).alloc (Nat.le_refl _) _).alloc (by simp) _).alloc (by simp <;> omega) _))); (exact HZ.out); (omega); rintro e w1 ⟨rfl, hb1⟩
  have q1 : Below w.heap.size w w1 := ((((Below.refl _ _).alloc (Nat.le_refl _) _).alloc (by simp) _).alloc (by simp <;> omega) _).trans (hb1.mono (by simp <;> omega))
  replace h := h.belw q1
  replace h' := h'.belw q1
  have x1_0 : Blk w1 (w.heap.size) 77 #[.bool b, .slice A n c] := (((blkAt _ _ _ (by simp)).alloc _).alloc _).below hb1 (by simp <;> omega)
  have x1_1 : Blk w1 (w.heap.size + 1) 77 #[.bool b', .slice A' n' c'] := ((blkAt _ _ _ (by simp)).alloc _).below hb1 (by simp <;> omega)
  have x1_2 : Blk w1 (w.heap.size + 1 + 1) 24 #[.bool false, .slice none 0 0, .slice none 0 0] := (blkAt _ _ _ (by simp)).below hb1 (by simp)
  have bw1 : Below w.heap.size w w1 := (brefl w).trans (q1.mono (brefl w).size)
  have lw1 : w.heap.size + 3 ≤ w1.heap.size := by have := hb1.size; simp at this; omega
  clear hb1 q1
  obtain ⟨cx1_1_0, cx1_1_1⟩ := x1_1.c2
  obtain ⟨lx1_1_0, lx1_1_1, lx1_1_2, lx1_1_3⟩ := lts1 x1_1.lt
  go_wp2_with fail
  (with_reducible refine (r01_sign_e _ b' A' n' c' (z') (k') ?_ (1) ?_ ?_).mono ?_); (exact h'); (exact HD.out); (omega); rintro e w2 ⟨rfl, hb2⟩
  clear cx1_1_0 cx1_1_1 lx1_1_0 lx1_1_1 lx1_1_2 lx1_1_3
  have q2 : Below w1.heap.size w1 w2 := hb2
  replace h := h.belw q2
  replace h' := h'.belw q2
  replace x1_0 := x1_0.below q2 x1_0.lt
  replace x1_1 := x1_1.below q2 x1_1.lt
  replace x1_2 := x1_2.below q2 x1_2.lt
  have bw2 : Below w.heap.size w w2 := bw1.trans (q2.mono bw1.size)
  have lw2 : w1.heap.size ≤ w2.heap.size := q2.size
  clear hb2 q2 bw1
  obtain ⟨cx1_0_0, cx1_0_1⟩ := x1_0.c2
  obtain ⟨lx1_0_0, lx1_0_1, lx1_0_2, lx1_0_3⟩ := lts0 x1_0.lt
  obtain ⟨cx1_1_0, cx1_1_1⟩ := x1_1.c2
  obtain ⟨lx1_1_0, lx1_1_1, lx1_1_2, lx1_1_3⟩ := lts1 x1_1.lt
  go_wp2_with fail
  (with_reducible refine (r01_gcd _ b A n c (z) (k) ?_ b' A' n' c' (z') (k') ?_ ?_).mono ?_); (exact h); (exact h'); (first | omega | decide | assumption); rintro e w3 ⟨b3, A3, n3, c3, rfl, h3, hb3⟩
  clear cx1_0_0 cx1_0_1 lx1_0_0 lx1_0_1 lx1_0_2 lx1_0_3 cx1_1_0 cx1_1_1 lx1_1_0 lx1_1_1 lx1_1_2 lx1_1_3
  have q3 : Below w2.heap.size w2 w3 := hb3
  replace h := h.belw q3
  replace h' := h'.belw q3
  replace x1_0 := x1_0.below q3 x1_0.lt
  replace x1_1 := x1_1.below q3 x1_1.lt
  replace x1_2 := x1_2.below q3 x1_2.lt
  have bw3 : Below w.heap.size w w3 := bw2.trans (q3.mono bw2.size)
  have lw3 : w2.heap.size ≤ w3.heap.size := q3.size
  clear hb3 q3 bw2
  obtain ⟨cx1_0_0, cx1_0_1⟩ := x1_0.c2
  obtain ⟨lx1_0_0, lx1_0_1, lx1_0_2, lx1_0_3⟩ := lts0 x1_0.lt
  go_wp2_with fail
  (with_reducible refine (r01_div _ b A n c (z) (k) ?_ b3 A3 n3 c3 ((Nat.gcd ((z)).natAbs ((z')).natAbs : Nat)) ((k) + (k')) ?_  ?_ ?_ ?_).mono ?_); (exact (h.belw ((Below.refl _ _).alloc (Nat.le_refl _) _))); (exact (h3.belw ((Below.refl _ _).alloc (Nat.le_refl _) _)).iz); (omega); (exact HG.out); (exact HM1.out); rintro e w4 ⟨b4, A4, n4, c4, b'4, A'4, n'4, c'4, rfl, h4, h'4, hb4⟩
  clear cx1_0_0 cx1_0_1 lx1_0_0 lx1_0_1 lx1_0_2 lx1_0_3
  have q4 : Below w3.heap.size w3 w4 := ((Below.refl _ _).alloc (Nat.le_refl _) _).trans (hb4.mono (by simp))
  replace h := h.belw q4
  replace h' := h'.belw q4
  replace h3 := h3.belw q4
  replace x1_0 := x1_0.below q4 x1_0.lt
  replace x1_1 := x1_1.below q4 x1_1.lt
  replace x1_2 := x1_2.below q4 x1_2.lt
  have x4_0 : Blk w4 (w3.heap.size) 77 #[.bool b3, .slice A3 n3 c3] := (blkAt _ _ _ (by simp)).below hb4 (by simp)
  have bw4 : Below w.heap.size w w4 := bw3.trans (q4.mono bw3.size)
  have lw4 : w3.heap.size + 1 ≤ w4.heap.size := by have := hb4.size; simp at this; omega
  clear hb4 q4 bw3
  obtain ⟨cx1_1_0, cx1_1_1⟩ := x1_1.c2
  obtain ⟨lx1_1_0, lx1_1_1, lx1_1_2, lx1_1_3⟩ := lts1 x1_1.lt
  obtain ⟨cx4_0_0, cx4_0_1⟩ := x4_0.c2
  obtain ⟨lx4_0_0, lx4_0_1, lx4_0_2, lx4_0_3⟩ := lts0 x4_0.lt
  go_wp2_with fail
  (with_reducible refine (r01_div _ b' A' n' c' (z') (k') ?_ b3 A3 n3 c3 ((Nat.gcd ((z)).natAbs ((z')).natAbs : Nat)) ((k) + (k')) ?_  ?_ ?_ ?_).mono ?_); (exact (h'.belw (((Below.refl _ _).alloc (Nat.le_refl _) _).alloc (by simp) _))); (exact (h3.belw (((Below.refl _ _).alloc (Nat.le_refl _) _).alloc (by simp) _)).iz); (omega); (exact HG.out); (exact HM2.out); rintro e w5 ⟨b5, A5, n5, c5, b'5, A'5, n'5, c'5, rfl, h5, h'5, hb5⟩
  clear cx1_1_0 cx1_1_1 lx1_1_0 lx1_1_1 lx1_1_2 lx1_1_3 cx4_0_0 cx4_0_1 lx4_0_0 lx4_0_1 lx4_0_2 lx4_0_3
  have q5 : Below w4.heap.size w4 w5 := (((Below.refl _ _).alloc (Nat.le_refl _) _).alloc (by simp) _).trans (hb5.mono (by simp <;> omega))
  replace h := h.belw q5
  replace h' := h'.belw q5
  replace h3 := h3.belw q5
  replace h4 := h4.belw q5
  replace h'4 := h'4.belw q5
  replace x1_0 := x1_0.below q5 x1_0.lt
  replace x1_1 := x1_1.below q5 x1_1.lt
  replace x1_2 := x1_2.below q5 x1_2.lt
  replace x4_0 := x4_0.below q5 x4_0.lt
  have x5_0 : Blk w5 (w4.heap.size) 77 #[.bool b4, .slice A4 n4 c4] := ((blkAt _ _ _ (by simp)).alloc _).below hb5 (by simp <;> omega)
  have x5_1 : Blk w5 (w4.heap.size + 1) 77 #[.bool b'4, .slice A'4 n'4 c'4] := (blkAt _ _ _ (by simp)).below hb5 (by simp)
  have bw5 : Below w.heap.size w w5 := bw4.trans (q5.mono bw4.size)
  have lw5 : w4.heap.size + 2 ≤ w5.heap.size := by have := hb5.size; simp at this; omega
  clear hb5 q5 bw4
  obtain ⟨cx1_2_0, cx1_2_1, cx1_2_2⟩ := x1_2.c3
  obtain ⟨fx1_2_0, fx1_2_1, fx1_2_2⟩ := x1_2.f3
  obtain ⟨lx1_2_0, lx1_2_1, lx1_2_2, lx1_2_3⟩ := lts2 x1_2.lt
  obtain ⟨cx5_0_0, cx5_0_1⟩ := x5_0.c2
  obtain ⟨lx5_0_0, lx5_0_1, lx5_0_2, lx5_0_3⟩ := lts0 x5_0.lt
  go_wp2_with fail
  refine bodyPost_ret (v := .agg #[.bool b4, .slice A4 n4 c4, .slice A5 n5 c5]) (by simp [results, Tryz.results71, go_sem, *] <;> first | rfl | exact ⟨rfl, rfl⟩) rfl ?_
  obtain ⟨e1, e2, e3⟩ := form_any HN.out HP.out HQ.out
  exact ⟨_, _, _, _, _, _, _, rfl, QV.mk_ (by rw [e1]; exact h4.2.1.keep ((((((Kp.refl w5).setB (p := ⟨w.heap.size + 1 + 1, 0, none⟩) x1_2.box (by decide) (.bool b4)).setB (p := ⟨w.heap.size + 1 + 1, 1, none⟩) (x1_2.box.set ⟨w.heap.size + 1 + 1, 0, none⟩ (.bool b4)) (by decide) (.slice A4 n4 c4)).setB (p := ⟨w.heap.size + 1 + 1, 2, none⟩) ((x1_2.box.set ⟨w.heap.size + 1 + 1, 0, none⟩ (.bool b4)).set ⟨w.heap.size + 1 + 1, 1, none⟩ (.slice A4 n4 c4)) (by decide) (.slice A5 n5 c5)).alloc (.cells #[.bool b5, .slice A5 n5 c5] 77)).alloc (.cells #[.bool b'5, .slice A'5 n'5 c'5] 77))) (by rw [e2]; exact h5.2.1.keep ((((((Kp.refl w5).setB (p := ⟨w.heap.size + 1 + 1, 0, none⟩) x1_2.box (by decide) (.bool b4)).setB (p := ⟨w.heap.size + 1 + 1, 1, none⟩) (x1_2.box.set ⟨w.heap.size + 1 + 1, 0, none⟩ (.bool b4)) (by decide) (.slice A4 n4 c4)).setB (p := ⟨w.heap.size + 1 + 1, 2, none⟩) ((x1_2.box.set ⟨w.heap.size + 1 + 1, 0, none⟩ (.bool b4)).set ⟨w.heap.size + 1 + 1, 1, none⟩ (.slice A4 n4 c4)) (by decide) (.slice A5 n5 c5)).alloc (.cells #[.bool b5, .slice A5 n5 c5] 77)).alloc (.cells #[.bool b'5, .slice A'5 n'5 c'5] 77))) (by rw [e3]; exact h4.1.symm) HS.out, (((((bw5.setCell (p := ⟨w.heap.size + 1 + 1, 0, none⟩) (by dsimp only; omega) (.bool b4)).setCell (p := ⟨w.heap.size + 1 + 1, 1, none⟩) (by dsimp only; omega) (.slice A4 n4 c4)).setCell (p := ⟨w.heap.size + 1 + 1, 2, none⟩) (by dsimp only; omega) (.slice A5 n5 c5)).alloc (by first | omega | (simp <;> omega)) (.cells #[.bool b5, .slice A5 n5 c5] 77)).alloc (by first | omega | (simp <;> omega)) (.cells #[.bool b'5, .slice A'5 n'5 c'5] 77))⟩
set_option maxRecDepth 100000 in
set_option maxHeartbeats 2000000 in
/-- linkworkref02.form -/
theorem g_form_n (w : World)  (b : Bool) (A : Option Addr) (n c : Nat) (z : Int) (k : Nat) (h : IZ w b A n c z k) (b' : Bool) (A' : Option Addr) (n' c' : Nat) (z' : Int) (k' : Nat) (h' : IZ w b' A' n' c' z' k') (q : Rat) (K : Nat) (hz : z ≠ 0) (hd : z'.sign = -1) (hq : Rat.divInt z z' = q) (hs : Sz q K) (hk : k + k' ≤ 300000000) :
    Calls Tryz.prog 71 #[.agg #[.bool b, .slice A n c], .agg #[.bool b', .slice A' n' c']] w (RetF w q K) := by
  obtain ⟨s, hs1⟩ : ∃ s, z.sign = s := ⟨_, rfl⟩
  have e0 : ((s : Int) == 0) = false := by simp; rintro rfl; exact hz (Int.sign_eq_zero_iff_zero.1 hs1)
  have HZ := Lib.hid hs1
  have HD := Lib.hid hd
  have HN := Lib.hid (show (-z) ≠ 0 by omega)
  have HP := Lib.hid (show 0 < (-z') by exact sign_neg_ hd)
  have HG := Lib.hid (show ((Nat.gcd ((-z)).natAbs ((-z')).natAbs : Nat) : Int) ≠ 0 from gcd_ne HP.out)
  have HM1 := Lib.hid (show (-z) % ((Nat.gcd ((-z)).natAbs ((-z')).natAbs : Nat) : Int) = 0 from Int.emod_eq_zero_of_dvd (Int.ofNat_dvd_left.2 (Nat.gcd_dvd_left _ _)))
  have HM2 := Lib.hid (show (-z') % ((Nat.gcd ((-z)).natAbs ((-z')).natAbs : Nat) : Int) = 0 from Int.emod_eq_zero_of_dvd (Int.ofNat_dvd_left.2 (Nat.gcd_dvd_right _ _)))
  have HQ := Lib.hid (show Rat.divInt (-z) (-z') = q by rw [divInt_neg_neg _ _ (sign_ne hd)]; exact hq)
  have HS := Lib.hid hs
  clear hz hd hq hs hs1
  go_enter Tryz.func71, Tryz.ntmps71
  go_wp2_with fail
  (with_reducible refine (r01_sign_e _ b A n c (z) (k) ?_ (s) ?_ ?_).mono ?_); (exact (h.belw ((((Below.refl _ _).alloc (Nat.le_refl _) _).alloc (by simp) _).alloc (by simp <;> omega) _))); (exact HZ.out); (omega); rintro e w1 ⟨rfl, hb1⟩
  have q1 : Below w.heap.size w w1 := ((((Below.refl _ _).alloc (Nat.le_refl _) _).alloc (by simp) _).alloc (by simp <;> omega) _).trans (hb1.mono (by simp <;> omega))
  replace h := h.belw q1
  replace h' := h'.belw q1
  have x1_0 : Blk w1 (w.heap.size) 77 #[.bool b, .slice A n c] := (((blkAt _ _ _ (by simp)).alloc _).alloc _).below hb1 (by simp <;> omega)
  have x1_1 : Blk w1 (w.heap.size + 1) 77 #[.bool b', .slice A' n' c'] := ((blkAt _ _ _ (by simp)).alloc _).below hb1 (by simp <;> omega)
  have x1_2 : Blk w1 (w.heap.size + 1 + 1) 24 #[.bool false, .slice none 0 0, .slice none 0 0] := (blkAt _ _ _ (by simp)).below hb1 (by simp)
  have bw1 : Below w.heap.size w w1 := (brefl w).trans (q1.mono (brefl w).size)
  have lw1 : w.heap.size + 3 ≤ w1.heap.size := by have := hb1.size; simp at this; omega
  clear hb1 q1
  obtain ⟨cx1_1_0, cx1_1_1⟩ := x1_1.c2
  obtain ⟨lx1_1_0, lx1_1_1, lx1_1_2, lx1_1_3⟩ := lts1 x1_1.lt
  go_wp2_with fail
  (with_reducible refine (r01_sign_e _ b' A' n' c' (z') (k') ?_ (-1) ?_ ?_).mono ?_); (exact h'); (exact HD.out); (omega); rintro e w2 ⟨rfl, hb2⟩
  clear cx1_1_0 cx1_1_1 lx1_1_0 lx1_1_1 lx1_1_2 lx1_1_3
  have q2 : Below w1.heap.size w1 w2 := hb2
  replace h := h.belw q2
  replace h' := h'.belw q2
  replace x1_0 := x1_0.below q2 x1_0.lt
  replace x1_1 := x1_1.below q2 x1_1.lt
  replace x1_2 := x1_2.below q2 x1_2.lt
  have bw2 : Below w.heap.size w w2 := bw1.trans (q2.mono bw1.size)
  have lw2 : w1.heap.size ≤ w2.heap.size := q2.size
  clear hb2 q2 bw1
  go_wp2_with fail
  obtain ⟨cx1_0_0, cx1_0_1⟩ := x1_0.c2
  obtain ⟨cx1_1_0, cx1_1_1⟩ := x1_1.c2
  go_cut [2] (fun s2 wx => s2 = .pointer (some ⟨w.heap.size, 0, none⟩) ∧ ∃ b8 A8 n8 c8 b9 A9 n9 c9, Blk wx (w.heap.size) 77 #[.bool b8, .slice A8 n8 c8] ∧ Blk wx (w.heap.size + 1) 77 #[.bool b9, .slice A9 n9 c9] ∧ Blk wx (w.heap.size + 1 + 1) 24 #[.bool false, .slice none 0 0, .slice none 0 0] ∧ IV wx b8 A8 n8 c8 (-z) k ∧ IV wx b9 A9 n9 c9 (-z') k' ∧ Below w.heap.size w wx ∧ w2.heap.size ≤ wx.heap.size)
  case first =>
    go_region_with (first
      | (go_at_call 74; (with_reducible refine (r01_neg _ b A n c (z) (k) ?_ ?_).mono ?_); (exact h); (omega); rintro e w3 ⟨b4, A4, n4, c4, rfl, h4, hb4⟩; replace hb4 := bnext (below_drewN (brefl _) 1) hb4; replace h' := h'.belw hb4; have bw4 := bw2.trans (hb4.mono bw2.size); have lw4 := hb4.size; replace x1_0 := x1_0.below hb4 x1_0.lt; replace x1_1 := x1_1.below hb4 x1_1.lt; replace x1_2 := x1_2.below hb4 x1_2.lt; obtain ⟨dx1_1_0, dx1_1_1⟩ := x1_1.c2)
      | (go_at_call 74; (with_reducible refine (r01_neg _ b' A' n' c' (z') (k') ?_ ?_).mono ?_); (exact h'); (omega); rintro e w4 ⟨b5, A5, n5, c5, rfl, h5, hb5⟩; replace h4 := h4.belw hb5; have bw5 := bw4.trans (hb5.mono bw4.size); have lw5 := hb5.size; replace x1_0 := x1_0.below hb5 x1_0.lt; replace x1_1 := x1_1.below hb5 x1_1.lt; replace x1_2 := x1_2.below hb5 x1_2.lt; obtain ⟨ex1_0_0, ex1_0_1⟩ := x1_0.c2; obtain ⟨fx1_0_0, fx1_0_1⟩ := x1_0.f2; obtain ⟨ex1_1_0, ex1_1_1⟩ := x1_1.c2; obtain ⟨fx1_1_0, fx1_1_1⟩ := x1_1.f2))
    all_goals
      go_wp2_with fail
      go_meet
      have kp := (((((Kp.refl w4).setB (p := ⟨w.heap.size, 0, none⟩) x1_0.box (by decide) (.bool b4)).setB (p := ⟨w.heap.size, 1, none⟩) (x1_0.box.set ⟨w.heap.size, 0, none⟩ (.bool b4)) (by decide) (.slice A4 n4 c4)).setB (p := ⟨w.heap.size + 1, 0, none⟩) ((x1_1.box.set ⟨w.heap.size, 0, none⟩ (.bool b4)).set ⟨w.heap.size, 1, none⟩ (.slice A4 n4 c4)) (by decide) (.bool b5)).setB (p := ⟨w.heap.size + 1, 1, none⟩) (((x1_1.box.set ⟨w.heap.size, 0, none⟩ (.bool b4)).set ⟨w.heap.size, 1, none⟩ (.slice A4 n4 c4)).set ⟨w.heap.size + 1, 0, none⟩ (.bool b5)) (by decide) (.slice A5 n5 c5))
      exact ⟨rfl, b4, A4, n4, c4, b5, A5, n5, c5, ((((x1_0.set_at 0 (.bool b4) #[.bool b4, .slice A n c] (by simp)).set_at 1 (.slice A4 n4 c4) #[.bool b4, .slice A4 n4 c4] (by simp)).far (p := ⟨w.heap.size + 1, 0, none⟩) (by dsimp only; omega) (.bool b5)).far (p := ⟨w.heap.size + 1, 1, none⟩) (by dsimp only; omega) (.slice A5 n5 c5)), ((((x1_1.far (p := ⟨w.heap.size, 0, none⟩) (by dsimp only; omega) (.bool b4)).far (p := ⟨w.heap.size, 1, none⟩) (by dsimp only; omega) (.slice A4 n4 c4)).set_at 0 (.bool b5) #[.bool b5, .slice A' n' c'] (by simp)).set_at 1 (.slice A5 n5 c5) #[.bool b5, .slice A5 n5 c5] (by simp)), ((((x1_2.far (p := ⟨w.heap.size, 0, none⟩) (by dsimp only; omega) (.bool b4)).far (p := ⟨w.heap.size, 1, none⟩) (by dsimp only; omega) (.slice A4 n4 c4)).far (p := ⟨w.heap.size + 1, 0, none⟩) (by dsimp only; omega) (.bool b5)).far (p := ⟨w.heap.size + 1, 1, none⟩) (by dsimp only; omega) (.slice A5 n5 c5)), h4.keep kp, h5.keep kp, ((((bw5.setCell (p := ⟨w.heap.size, 0, none⟩) (by dsimp only; omega) (.bool b4)).setCell (p := ⟨w.heap.size, 1, none⟩) (by dsimp only; omega) (.slice A4 n4 c4)).setCell (p := ⟨w.heap.size + 1, 0, none⟩) (by dsimp only; omega) (.bool b5)).setCell (p := ⟨w.heap.size + 1, 1, none⟩) (by dsimp only; omega) (.slice A5 n5 c5)), by simp [World.setCell]; omega⟩
  case rest =>
    clear h h'
    obtain ⟨rfl, b8, A8, n8, c8, b9, A9, n9, c9, y0, y1, y2, h8, h9, bwc, lwc⟩ := hcut
    clear x1_0 x1_1 x1_2
    have cy0_0 : wc.cell? ⟨w.heap.size, 0, none⟩ = some (.bool b8) := y0.cell 0
    have cy0_1 : wc.cell? ⟨w.heap.size, 1, none⟩ = some (.slice A8 n8 c8) := y0.cell 1
    obtain ⟨ly0_0, ly0_1, ly0_2, ly0_3⟩ := lts0 y0.lt
    have cy1_0 : wc.cell? ⟨w.heap.size + 1, 0, none⟩ = some (.bool b9) := y1.cell 0
    have cy1_1 : wc.cell? ⟨w.heap.size + 1, 1, none⟩ = some (.slice A9 n9 c9) := y1.cell 1
    obtain ⟨ly1_0, ly1_1, ly1_2, ly1_3⟩ := lts1 y1.lt
    go_wp2_with fail
    (with_reducible refine (r01_gcd _ b8 A8 n8 c8 (-z) (k) ?_ b9 A9 n9 c9 (-z') (k') ?_ ?_).mono ?_); (exact h8.iz); (exact h9.iz); (first | omega | decide | assumption); rintro e w13 ⟨b13, A13, n13, c13, rfl, h13, hb13⟩
    clear cy0_0 cy0_1 ly0_0 ly0_1 ly0_2 ly0_3 cy1_0 cy1_1 ly1_0 ly1_1 ly1_2 ly1_3
    have q13 : Below wc.heap.size wc w13 := hb13
    replace h8 := h8.belw q13
    replace h9 := h9.belw q13
    replace y0 := y0.below q13 y0.lt
    replace y1 := y1.below q13 y1.lt
    replace y2 := y2.below q13 y2.lt
    have bw13 : Below w.heap.size w w13 := bwc.trans (q13.mono bwc.size)
    have lw13 : wc.heap.size ≤ w13.heap.size := q13.size
    clear hb13 q13
    obtain ⟨cy0_0, cy0_1⟩ := y0.c2
    obtain ⟨ly0_0, ly0_1, ly0_2, ly0_3⟩ := lts0 y0.lt
    go_wp2_with fail
    (with_reducible refine (r01_div _ b8 A8 n8 c8 (-z) (k) ?_ b13 A13 n13 c13 ((Nat.gcd ((-z)).natAbs ((-z')).natAbs : Nat)) ((k) + (k')) ?_  ?_ ?_ ?_).mono ?_); (exact (h8.belw ((Below.refl _ _).alloc (Nat.le_refl _) _)).iz); (exact (h13.belw ((Below.refl _ _).alloc (Nat.le_refl _) _)).iz); (omega); (exact HG.out); (exact HM1.out); rintro e w14 ⟨b14, A14, n14, c14, b'14, A'14, n'14, c'14, rfl, h14, h'14, hb14⟩
    clear cy0_0 cy0_1 ly0_0 ly0_1 ly0_2 ly0_3
    have q14 : Below w13.heap.size w13 w14 := ((Below.refl _ _).alloc (Nat.le_refl _) _).trans (hb14.mono (by simp))
    replace h8 := h8.belw q14
    replace h9 := h9.belw q14
    replace h13 := h13.belw q14
    replace y0 := y0.below q14 y0.lt
    replace y1 := y1.below q14 y1.lt
    replace y2 := y2.below q14 y2.lt
    have x14_0 : Blk w14 (w13.heap.size) 77 #[.bool b13, .slice A13 n13 c13] := (blkAt _ _ _ (by simp)).below hb14 (by simp)
    have bw14 : Below w.heap.size w w14 := bw13.trans (q14.mono bw13.size)
    have lw14 : w13.heap.size + 1 ≤ w14.heap.size := by have := hb14.size; simp at this; omega
    clear hb14 q14 bw13
    obtain ⟨cy1_0, cy1_1⟩ := y1.c2
    obtain ⟨ly1_0, ly1_1, ly1_2, ly1_3⟩ := lts1 y1.lt
    obtain ⟨cx14_0_0, cx14_0_1⟩ := x14_0.c2
    obtain ⟨lx14_0_0, lx14_0_1, lx14_0_2, lx14_0_3⟩ := lts0 x14_0.lt
    go_wp2_with fail
    (with_reducible refine (r01_div _ b9 A9 n9 c9 (-z') (k') ?_ b13 A13 n13 c13 ((Nat.gcd ((-z)).natAbs ((-z')).natAbs : Nat)) ((k) + (k')) ?_  ?_ ?_ ?_).mono ?_); (exact (h9.belw (((Below.refl _ _).alloc (Nat.le_refl _) _).alloc (by simp) _)).iz); (exact (h13.belw (((Below.refl _ _).alloc (Nat.le_refl _) _).alloc (by simp) _)).iz); (omega); (exact HG.out); (exact HM2.out); rintro e w15 ⟨b15, A15, n15, c15, b'15, A'15, n'15, c'15, rfl, h15, h'15, hb15⟩
    clear cy1_0 cy1_1 ly1_0 ly1_1 ly1_2 ly1_3 cx14_0_0 cx14_0_1 lx14_0_0 lx14_0_1 lx14_0_2 lx14_0_3
    have q15 : Below w14.heap.size w14 w15 := (((Below.refl _ _).alloc (Nat.le_refl _) _).alloc (by simp) _).trans (hb15.mono (by simp <;> omega))
    replace h8 := h8.belw q15
    replace h9 := h9.belw q15
    replace h13 := h13.belw q15
    replace h14 := h14.belw q15
    replace h'14 := h'14.belw q15
    replace y0 := y0.below q15 y0.lt
    replace y1 := y1.below q15 y1.lt
    replace y2 := y2.below q15 y2.lt
    replace x14_0 := x14_0.below q15 x14_0.lt
    have x15_0 : Blk w15 (w14.heap.size) 77 #[.bool b14, .slice A14 n14 c14] := ((blkAt _ _ _ (by simp)).alloc _).below hb15 (by simp <;> omega)
    have x15_1 : Blk w15 (w14.heap.size + 1) 77 #[.bool b'14, .slice A'14 n'14 c'14] := (blkAt _ _ _ (by simp)).below hb15 (by simp)
    have bw15 : Below w.heap.size w w15 := bw14.trans (q15.mono bw14.size)
    have lw15 : w14.heap.size + 2 ≤ w15.heap.size := by have := hb15.size; simp at this; omega
    clear hb15 q15 bw14
    obtain ⟨cy2_0, cy2_1, cy2_2⟩ := y2.c3
    obtain ⟨fy2_0, fy2_1, fy2_2⟩ := y2.f3
    obtain ⟨ly2_0, ly2_1, ly2_2, ly2_3⟩ := lts2 y2.lt
    obtain ⟨cx15_0_0, cx15_0_1⟩ := x15_0.c2
    obtain ⟨lx15_0_0, lx15_0_1, lx15_0_2, lx15_0_3⟩ := lts0 x15_0.lt
    go_wp2_with fail
    refine bodyPost_ret (v := .agg #[.bool b14, .slice A14 n14 c14, .slice A15 n15 c15]) (by simp [results, Tryz.results71, go_sem, *] <;> first | rfl | exact ⟨rfl, rfl⟩) rfl ?_
    obtain ⟨e1, e2, e3⟩ := form_any HN.out HP.out HQ.out
    exact ⟨_, _, _, _, _, _, _, rfl, QV.mk_ (by rw [e1]; exact h14.2.1.keep ((((((Kp.refl w15).setB (p := ⟨w.heap.size + 1 + 1, 0, none⟩) y2.box (by decide) (.bool b14)).setB (p := ⟨w.heap.size + 1 + 1, 1, none⟩) (y2.box.set ⟨w.heap.size + 1 + 1, 0, none⟩ (.bool b14)) (by decide) (.slice A14 n14 c14)).setB (p := ⟨w.heap.size + 1 + 1, 2, none⟩) ((y2.box.set ⟨w.heap.size + 1 + 1, 0, none⟩ (.bool b14)).set ⟨w.heap.size + 1 + 1, 1, none⟩ (.slice A14 n14 c14)) (by decide) (.slice A15 n15 c15)).alloc (.cells #[.bool b15, .slice A15 n15 c15] 77)).alloc (.cells #[.bool b'15, .slice A'15 n'15 c'15] 77))) (by rw [e2]; exact h15.2.1.keep ((((((Kp.refl w15).setB (p := ⟨w.heap.size + 1 + 1, 0, none⟩) y2.box (by decide) (.bool b14)).setB (p := ⟨w.heap.size + 1 + 1, 1, none⟩) (y2.box.set ⟨w.heap.size + 1 + 1, 0, none⟩ (.bool b14)) (by decide) (.slice A14 n14 c14)).setB (p := ⟨w.heap.size + 1 + 1, 2, none⟩) ((y2.box.set ⟨w.heap.size + 1 + 1, 0, none⟩ (.bool b14)).set ⟨w.heap.size + 1 + 1, 1, none⟩ (.slice A14 n14 c14)) (by decide) (.slice A15 n15 c15)).alloc (.cells #[.bool b15, .slice A15 n15 c15] 77)).alloc (.cells #[.bool b'15, .slice A'15 n'15 c'15] 77))) (by rw [e3]; exact h14.1.symm) HS.out, (((((bw15.setCell (p := ⟨w.heap.size + 1 + 1, 0, none⟩) (by dsimp only; omega) (.bool b14)).setCell (p := ⟨w.heap.size + 1 + 1, 1, none⟩) (by dsimp only; omega) (.slice A14 n14 c14)).setCell (p := ⟨w.heap.size + 1 + 1, 2, none⟩) (by dsimp only; omega) (.slice A15 n15 c15)).alloc (by first | omega | (simp <;> omega)) (.cells #[.bool b15, .slice A15 n15 c15] 77)).alloc (by first | omega | (simp <;> omega)) (.cells #[.bool b'15, .slice A'15 n'15 c'15] 77))⟩
theorem g_form (w : World)  (b : Bool) (A : Option Addr) (n c : Nat) (z : Int) (k : Nat) (h : IZ w b A n c z k) (b' : Bool) (A' : Option Addr) (n' c' : Nat) (z' : Int) (k' : Nat) (h' : IZ w b' A' n' c' z' k') (q : Rat) (K : Nat) (hd : z' ≠ 0) (hq : Rat.divInt z z' = q) (hs : Sz q K) (hk : k + k' ≤ 300000000) :
    Calls Tryz.prog 71 #[.agg #[.bool b, .slice A n c], .agg #[.bool b', .slice A' n' c']] w (RetF w q K) := by
  by_cases s : z = 0
  · rw [← hq, s, Rat.zero_divInt]; exact g_form_0 w b A n c z k h b' A' n' c' z' k' h' K s hk
  · rcases sign3 z' with t | t | t
    · exact absurd t hd
    · exact g_form_p w b A n c z k h b' A' n' c' z' k' h' q K s t hq hs hk
    · exact g_form_n w b A n c z k h b' A' n' c' z' k' h' q K s t hq hs hk
end Go.Proofs.YtmneloabphplmaaGreat

/- Walks: the reference's times, Mul. -/
namespace Go.Proofs.YtmneloabphplmaaGreat
open Go Go.RowKit Bn
attribute [local go_sem ↓] Go.wp_at_zero Go.wp_at_succ
set_option maxHeartbeats 1000000 in
/-- linkworkref01.times -/
theorem r_times_c (w : World) (A : Option Addr) (n c : Nat) (l : List Nat) (wa : Wd w A n c l) (hn : n ≤ 1099511627776) (A' : Option Addr) (n' c' : Nat) (l' : List Nat) (wb : Wd w A' n' c' l') (hn' : n' ≤ 1099511627776) :
    Calls Tryz.prog 97 #[.slice A n c, .slice A' n' c'] w (RetL w (digs (val l * val l'))) := by
  have HL := Lib.hid wa.2.1
  have HL' := Lib.hid wb.2.1
  go_enter Tryz.func97, Tryz.ntmps97
  go_wp2_with (at_make; refine wpList_make_words _ rfl _ _ rfl _ _ _ _ (n + n') rfl rfl (by omega) (by omega) (by omega) ?_)
  go_loopw [18] (fun iv wr => ∃ (i : Nat) (L : List Nat), i ≤ n ∧ iv = .int .i64 (i : Nat) ∧ L.length = n + n' ∧ TimesO l l' L (n + n') n' i ∧ Blk wr w.heap.size 89 (cellsOf L) ∧ Below w.heap.size w wr) (fun iv _ => n - (intOf iv).toNat)
  case atStart =>
    refine ⟨0, List.replicate (n + n') 0, Nat.zero_le _, rfl, by simp, ⟨by intro x hx; rw [List.eq_of_mem_replicate hx]; omega, fun j _ => ?_, ?_⟩, Blk.new _ _ _, (Below.refl _ _).alloc (Nat.le_refl _) _⟩
    · unfold wd; by_cases hj : j < n + n' <;> simp [List.getD, hj]
    · rw [Sm]
      have : ∀ m, Sm (wd (List.replicate (n + n') 0)) m = 0 := by
        intro m
        induction m with
        | zero => rfl
        | succ m ih =>
          rw [Sm, ih]
          unfold wd; by_cases hj : m < n + n' <;> simp [List.getD, hj]
      rw [this]; simp
  case round =>
    obtain ⟨i, L, hi, rfl, hLM, hI, hB, hbel⟩ := hrel
    have hKp := Lib.hid ((Kp.refl w).below hbel)
    have HI := Lib.hid hI
    have HB := Lib.hid hB
    have HLM := Lib.hid hLM
    clear hI hB hLM
    by_cases hkM : i < n
    · obtain ⟨x, hx⟩ : ∃ x, wd l i = x := ⟨_, rfl⟩
      have hx1 : x < 4294967296 := by rw [← hx]; exact wa.lt i
      have HX := Lib.hid hx
      clear hx
      go_wp2_with fail
      obtain ⟨wo, hwo⟩ : ∃ wo : World, wo = wr := ⟨_, rfl⟩
      have HWO := Lib.hid hwo
      clear hwo
      go_loopw [7, 23] (fun cv kv w2 => ∃ (k cr : Nat) (L2 : List Nat), k ≤ n' ∧ kv = .int .i64 (k : Nat) ∧ cv = .int .u64 (cr : Nat) ∧ cr < 4294967296 ∧ L2.length = n + n' ∧ TimesN l l' L2 (n + n') n' i x k cr ∧ Blk w2 w.heap.size 89 (cellsOf L2) ∧ Below w.heap.size w w2) (fun _ kv _ => n' - (intOf kv).toNat)
      case atStart => exact ⟨0, 0, L, Nat.zero_le _, rfl, rfl, by omega, HLM.out, ⟨HI.out.1, HI.out.2.1, by rw [HI.out.2.2]; simp [Sm]⟩, HB.out, hbel⟩
      case round =>
        obtain ⟨k, cr, L2, hk, rfl, rfl, hcr, hLM2, hI2, hB2, hbel2⟩ := hrel
        have hKp2 := Lib.hid ((Kp.refl w).below hbel2)
        have HI2 := Lib.hid hI2
        have HB2 := Lib.hid hB2
        have HLM2 := Lib.hid hLM2
        clear hI2 hB2 hLM2
        by_cases hkk : k < n'
        · obtain ⟨g2, o2, rfl, hgl2, hc2⟩ := (wb.keep hKp2.out).at2 (by omega)
          obtain ⟨g, o, rfl, hgl, hc1⟩ := (wa.keep hKp2.out).at2 (by omega)
          have hcx := hc1 i hkM
          rw [HX.out] at hcx
          clear hc1
          have hcy := hc2 k hkk
          obtain ⟨y, z, hy, hz⟩ : ∃ y z, wd l' k = y ∧ wd L2 (i + k) = z := ⟨_, _, rfl, rfl⟩
          have hy1 : y < 4294967296 := by rw [← hy]; exact wb.lt k
          have hz1 : z < 4294967296 := by rw [← hz]; exact wd_lt HI2.out.1 _
          rw [hy] at hcy
          have hck := HB2.out.cell (i + k)
          rw [cellsOf_get (by rw [HLM2.out]; omega), hz] at hck
          have hfk := HB2.out.frozen (i + k)
          have HY := Lib.hid hy
          have HZ := Lib.hid hz
          clear hy hz hc2
          obtain ⟨p, hp⟩ : ∃ d, IntKind.u64.wrap ((x : Int) * (y : Int)) = d := ⟨_, rfl⟩
          obtain ⟨q, hq⟩ : ∃ d, IntKind.u64.wrap (p + (z : Int)) = d := ⟨_, rfl⟩
          obtain ⟨s, hs⟩ : ∃ d, IntKind.u64.wrap (q + (cr : Int)) = d := ⟨_, rfl⟩
          have HD := Lib.hid (times_word hx1 hy1 hz1 hcr hp hq (show IntKind.u64.wrap ((cr : Int) + q) = s by rw [Int.add_comm]; exact hs))
          go_wp2
          go_quiet (fail)
          go_wp2
          obtain ⟨es, hs2⟩ := HD.out
          clear hp hq hs
          go_roundw
          case rel =>
            refine ⟨k + 1, (cr + x * y + z) / 4294967296, L2.set (i + k) ((cr + x * y + z) % 4294967296), by omega, by go_num, by rw [es]; go_num, hs2, by rw [List.length_set]; exact HLM2.out, ⟨wds_set HI2.out.1 _ (Nat.mod_lt _ (by omega)), ?_, ?_⟩, ?_, (below_drewN hbel2 _).setCell (Nat.le_refl _) _⟩
            · intro j hj; rw [wd_set, if_neg (by omega)]; exact HI2.out.2.1 j hj
            · have hm := Sm_set_mid L2 (i + k) ((cr + x * y + z) % 4294967296) (n + n') (by rw [HLM2.out]; omega) (by omega)
              rw [HZ.out] at hm
              have ht := times_step (o := z) (x := x) (y := y) (Sb := Sm (wd l') k) (Pi := 4294967296 ^ i) (Pk := 4294967296 ^ k) HI2.out.2.2 (by rw [Nat.pow_add]) hm
              rw [← Nat.add_assoc, Nat.pow_succ, Sm, HY.out]
              exact ht
            · exact (HB2.out.below (below_drewN (brefl _) _) HB2.out.lt).setW (i + k) _ _ (by rw [es]; omega)
          case measure => simp [intOf]; omega
        · have hk2 : k = n' := by omega
          have HK2 := Lib.hid hk2
          have hck := HB2.out.cell (i + n')
          have hz : wd L2 (i + n') = 0 := HI2.out.2.1 _ (by omega)
          rw [cellsOf_get (by rw [HLM2.out]; omega), hz] at hck
          have hfk := HB2.out.frozen (i + n')
          have hge : n' ≤ k := by omega
          clear hk2 hkk hz
          go_wp2
          go_roundw
          case rel =>
            refine ⟨i + 1, L2.set (i + n') cr, by omega, by go_num, by rw [List.length_set]; exact HLM2.out, ⟨wds_set HI2.out.1 _ hcr, ?_, ?_⟩, ?_, hbel2.setCell (Nat.le_refl _) _⟩
            · intro j hj; rw [wd_set, if_neg (by omega)]; exact HI2.out.2.1 j (by omega)
            · have hm := Sm_set_mid L2 (i + n') cr (n + n') (by rw [HLM2.out]; omega) (by omega)
              rw [HI2.out.2.1 _ (by omega), Nat.zero_mul, Nat.add_zero] at hm
              have h2 := HI2.out.2.2
              rw [HK2.out, Sm_ge l' (by rw [← HL'.out]; exact Nat.le_refl _)] at h2
              rw [hm, h2, Sm, HX.out, Nat.add_mul]
              congr 1
              rw [Nat.mul_assoc, Nat.mul_comm (val l'), ← Nat.mul_assoc]
            · exact HB2.out.setW (i + n') _ _ rfl
          case measure => simp [intOf]; omega
    · have hkk : i = n := by omega
      subst hkk
      have hv2 : val L = val l * val l' := by
        have h1 := HI.out.2.2
        rw [Sm_ge L (by rw [HLM.out]; exact Nat.le_refl _), Sm_ge l (by rw [← HL.out]; omega)] at h1
        exact h1
      have HV2 := Lib.hid hv2
      clear hv2
      go_wp2_with fail
      refine (r_trim_c _ _ (i + n') (i + n') L ?_ ?_).mono ?_
      · exact HB.out.wdN HI.out.1 HLM.out
      · omega
      rintro e w1 ⟨A1, n1, c1, rfl, h1, hb1⟩
      go_wp2
      go_ret
      rw [HV2.out] at h1
      exact ⟨_, _, _, rfl, h1, hbel.trans (hb1.mono hbel.size)⟩
set_option maxHeartbeats 2000000 in
/-- integer.Mul -/
theorem r_mul_C (w : World) (b : Bool) (A : Option Addr) (n c : Nat) (l : List Nat) (wa : Wd w A n c l) (hn : n ≤ 500000000000) (b' : Bool) (A' : Option Addr) (n' c' : Nat) (l' : List Nat) (wb : Wd w A' n' c' l') (hn' : n' ≤ 500000000000) :
    Calls Tryz.prog 72 #[.agg #[.bool b, .slice A n c], .agg #[.bool b', .slice A' n' c']] w (RetW w (wh (WD.z ⟨b, l⟩ * WD.z ⟨b', l'⟩))) := by
  have HL := Lib.hid wa.2.1
  have HL' := Lib.hid wb.2.1
  go_enter Tryz.func72, Tryz.ntmps72
  go_wp2_with fail
  have b0 : Below w.heap.size w (((w.alloc (.cells #[.bool b, .slice A n c] 77)).alloc (.cells #[.bool b', .slice A' n' c'] 77)).alloc (.cells #[.bool false, .slice none 0 0] 77)) := ((((Below.refl _ _).alloc (Nat.le_refl _) _).alloc (by simp) _).alloc (by simp; omega) _)
  generalize hW0 : (((w.alloc (.cells #[.bool b, .slice A n c] 77)).alloc (.cells #[.bool b', .slice A' n' c'] 77)).alloc (.cells #[.bool false, .slice none 0 0] 77)) = W0 at b0 ⊢
  have c00 : W0.cell? ⟨w.heap.size, 0, none⟩ = some (.bool b) := by subst hW0; simp [go_sem]
  have f00 : W0.frozen? ⟨w.heap.size, 0, none⟩ = false := by subst hW0; simp [go_sem]
  have c01 : W0.cell? ⟨w.heap.size, 1, none⟩ = some (.slice A n c) := by subst hW0; simp [go_sem]
  have f01 : W0.frozen? ⟨w.heap.size, 1, none⟩ = false := by subst hW0; simp [go_sem]
  have c10 : W0.cell? ⟨w.heap.size + 1, 0, none⟩ = some (.bool b') := by subst hW0; simp [go_sem]
  have f10 : W0.frozen? ⟨w.heap.size + 1, 0, none⟩ = false := by subst hW0; simp [go_sem]
  have c11 : W0.cell? ⟨w.heap.size + 1, 1, none⟩ = some (.slice A' n' c') := by subst hW0; simp [go_sem]
  have f11 : W0.frozen? ⟨w.heap.size + 1, 1, none⟩ = false := by subst hW0; simp [go_sem]
  have c20 : W0.cell? ⟨w.heap.size + 1 + 1, 0, none⟩ = some (.bool false) := by subst hW0; simp [go_sem]
  have f20 : W0.frozen? ⟨w.heap.size + 1 + 1, 0, none⟩ = false := by subst hW0; simp [go_sem]
  have c21 : W0.cell? ⟨w.heap.size + 1 + 1, 1, none⟩ = some (.slice none 0 0) := by subst hW0; simp [go_sem]
  have f21 : W0.frozen? ⟨w.heap.size + 1 + 1, 1, none⟩ = false := by subst hW0; simp [go_sem]
  have x0 : Box W0 (w.heap.size) 77 := by subst hW0; exact ((boxAt _ _ _ (by simp)).alloc _).alloc _
  have x1 : Box W0 (w.heap.size + 1) 77 := by subst hW0; exact (boxAt _ _ _ (by simp)).alloc _
  have x2 : Box W0 (w.heap.size + 1 + 1) 77 := by subst hW0; exact boxAt _ _ _ (by simp)
  have hm0 : Made (w.heap.size + 1 + 1) (w.heap.size + 1 + 1 + 1) 2 W0 := by subst hW0; exact made1 (by simp)
  have hs0 : w.heap.size + 1 + 1 + 1 ≤ W0.heap.size := by subst hW0; simp
  clear hW0
  have wa := wa.belw b0
  have wb := wb.belw b0
  have r0 : Below W0.heap.size W0 W0 := brefl _
  have hRB : w.heap.size + 1 + 1 ≤ w.heap.size + 1 + 1 + 1 := by omega
  go_region_held3 (fun w' => Sees (w.heap.size + 1 + 1) W0 w') (first | exact Sees.of (Nat.le_trans hRB hs0) (by assumption) | exact Sees.of (Nat.le_trans hRB hs0) (below_drewN (by assumption) _) | exact (Sees.set (Sees.of (Nat.le_trans hRB hs0) (by assumption)) (by simp)) | exact (Sees.set (Sees.set (Sees.of (Nat.le_trans hRB hs0) (by assumption)) (by simp)) (by simp)))
    (first
      | (go_at_call 84; (with_reducible refine (r_neg_c _ b A n c l ?_ ?_).mono ?_); (exact wa); (omega); rintro e w1 ⟨rfl, hb1⟩; replace hb1 := bnext (below_drewN (brefl _) 1) hb1; have r1 := bnext r0 hb1; replace wa := wa.belw hb1; replace wb := wb.belw hb1)
      | (go_at_call 84; (with_reducible refine (r_neg_c _ b' A' n' c' l' ?_ ?_).mono ?_); (exact wb); (omega); rintro e w2 ⟨rfl, hb2⟩; have r2 := bnext r1 hb2; replace wa := wa.belw hb2; replace wb := wb.belw hb2)
      | (go_at_call 83; (with_reducible refine (r_mag_c _ b A n c l ?_ ?_).mono ?_); (exact wa); (omega); rintro e w3 ⟨A1, n1, c1, rfl, h1, hb3⟩; have r3 := bnext r2 hb3; replace wa := wa.belw hb3; replace wb := wb.belw hb3)
      | (go_at_call 83; (with_reducible refine (r_mag_c _ b' A' n' c' l' ?_ ?_).mono ?_); (exact wb); (omega); rintro e w4 ⟨A2, n2, c2, rfl, h2, hb4⟩; have r4 := bnext r3 hb4; replace wa := wa.belw hb4; replace wb := wb.belw hb4; replace h1 := h1.belw hb4)
      | (go_at_call 97; (with_reducible refine (r_times_c _ A1 n1 c1 (WD.m ⟨b, l⟩) ?_ ?_ A2 n2 c2 (WD.m ⟨b', l'⟩) ?_ ?_).mono ?_); (exact h1); (exact Nat.le_trans (h1.m_len (by rw [← HL.out]; exact hn)) (by decide)); (exact h2); (exact Nat.le_trans (h2.m_len (by rw [← HL'.out]; exact hn')) (by decide)); rintro e w5 ⟨A3, n3, c3, rfl, h3, hb5⟩; have r5 := bnext r4 hb5; replace wa := wa.belw hb5; replace wb := wb.belw hb5; replace h1 := h1.belw hb5; replace h2 := h2.belw hb5)
      | (go_at_call 81; (with_reducible refine (r_form_e _ (!(WD.s ⟨b, l⟩ == WD.s ⟨b', l'⟩)) A3 n3 c3 (digs (val (WD.m ⟨b, l⟩) * val (WD.m ⟨b', l'⟩))) (WD.z ⟨b, l⟩ * WD.z ⟨b', l'⟩) ?_ ?_ ?_).mono ?_); (exact h3); (rw [h3.2.1]; exact times_len h1 h2 (Nat.le_trans (Nat.add_le_add (h1.m_len (by rw [← HL.out]; exact hn)) (h2.m_len (by rw [← HL'.out]; exact hn'))) (by decide))); (rw [val_digs]; exact (z_mul _ _).symm); rintro e w6 ⟨A4, n4, c4, rfl, h4, hb6⟩; have r6 := bnext r5 hb6; replace wa := wa.belw hb6; replace wb := wb.belw hb6; replace h1 := h1.belw hb6; replace h2 := h2.belw hb6; replace h3 := h3.belw hb6; obtain ⟨⟨sc, sf⟩, sr, sz⟩ := Seen.of (by omega) hs0 hm0 r6))
  clear hRB
  go_wp2_with fail
  refine bodyPost_ret (v := .agg #[.bool _, .slice A4 n4 c4]) (by simp [results, Tryz.results72, go_sem, sr]; rfl) rfl ?_
  have x := x2.below r6
  refine retW ?_ ?_ ?_
  · rfl
  · exact h4.keep (kp2 x (by decide) _ _ _ _)
  · exact ((b0.trans (r6.mono b0.size)).setCell (by dsimp only; omega) _).setCell (by dsimp only; omega) _
end Go.Proofs.YtmneloabphplmaaGreat

/- The reference's Mul on integers. -/
namespace Go.Proofs.YtmneloabphplmaaGreat
open Go Go.RowKit Bn
theorem r01_mul (w : World) (b : Bool) (A : Option Addr) (n c : Nat) (z : Int) (k : Nat) (h : IZ w b A n c z k) (b' : Bool) (A' : Option Addr) (n' c' : Nat) (z' : Int) (k' : Nat) (h' : IZ w b' A' n' c' z' k') (hk : k + k' ≤ 1000000000) : Calls Tryz.prog 72 #[.agg #[.bool b, .slice A n c], .agg #[.bool b', .slice A' n' c']] w (RetI w (z * z') (k + k')) := by
  have hz := h.lt
  have hz' := h'.lt
  obtain ⟨l, h1, rfl, h3⟩ := h
  obtain ⟨l', h1', rfl, h3'⟩ := h'
  exact (r_mul_C w b A n c l h1 (by omega) b' A' n' c' l' h1' (by omega)).mono fun _ _ r => r.i (natAbs_mul_lt hz hz')
end Go.Proofs.YtmneloabphplmaaGreat

/- Walks: the reference: fractions, sums and differences. -/
namespace Go.Proofs.YtmneloabphplmaaGreat
open Go Go.RowKit Bn
attribute [local go_sem ↓] Go.wp_at_zero Go.wp_at_succ
set_option maxRecDepth 100000 in
set_option maxHeartbeats 2000000 in
/-- linkworkref02.Neg -/
theorem g_neg (w : World) (b : Bool) (A : Option Addr) (n c : Nat) (D : Option Addr) (m e : Nat) (q : Rat) (k : Nat) (h : QZ w b A n c D m e q k) (h0 : 0 < k) (hk : k ≤ 40000000) :
    Calls Tryz.prog 46 #[.agg #[.bool b, .slice A n c, .slice D m e]] w (RetF w (-q) k) := by
  have HS := Lib.hid (h.sz h0)
  go_enter Tryz.func46, Tryz.ntmps46
  go_wp2_with fail
  (with_reducible refine (g_parts _ b A n c D m e (q) (k) ?_ ?_ ?_).mono ?_); (exact (h.belw (((Below.refl _ _).alloc (Nat.le_refl _) _).alloc (by simp) _))); (first | omega | decide | assumption); (first | omega | decide | assumption); rintro e w1 ⟨b1, A1, n1, c1, b'1, A'1, n'1, c'1, rfl, h1, h'1, hb1⟩
  have q1 : Below w.heap.size w w1 := (((Below.refl _ _).alloc (Nat.le_refl _) _).alloc (by simp) _).trans (hb1.mono (by simp <;> omega))
  replace h := h.belw q1
  have x1_0 : Blk w1 (w.heap.size) 24 #[.bool b, .slice A n c, .slice D m e] := ((blkAt _ _ _ (by simp)).alloc _).below hb1 (by simp <;> omega)
  have x1_1 : Blk w1 (w.heap.size + 1) 24 #[.bool false, .slice none 0 0, .slice none 0 0] := (blkAt _ _ _ (by simp)).below hb1 (by simp)
  have bw1 : Below w.heap.size w w1 := (brefl w).trans (q1.mono (brefl w).size)
  have lw1 : w.heap.size + 2 ≤ w1.heap.size := by have := hb1.size; simp at this; omega
  clear hb1 q1
  go_wp2_with fail
  have p2 : Kp w1 ((w1.alloc (.cells #[.bool b1, .slice A1 n1 c1] 77)).alloc (.cells #[.bool b'1, .slice A'1 n'1 c'1] 77)) := (((Kp.refl w1).alloc (.cells #[.bool b1, .slice A1 n1 c1] 77)).alloc (.cells #[.bool b'1, .slice A'1 n'1 c'1] 77))
  have bw2 : Below w.heap.size w ((w1.alloc (.cells #[.bool b1, .slice A1 n1 c1] 77)).alloc (.cells #[.bool b'1, .slice A'1 n'1 c'1] 77)) := ((bw1.alloc (by first | omega | (simp <;> omega)) (.cells #[.bool b1, .slice A1 n1 c1] 77)).alloc (by first | omega | (simp <;> omega)) (.cells #[.bool b'1, .slice A'1 n'1 c'1] 77))
  have x2_0 : Blk ((w1.alloc (.cells #[.bool b1, .slice A1 n1 c1] 77)).alloc (.cells #[.bool b'1, .slice A'1 n'1 c'1] 77)) (w1.heap.size) 77 #[.bool b1, .slice A1 n1 c1] := ((blkAt _ _ _ (by simp)).alloc (.cells #[.bool b'1, .slice A'1 n'1 c'1] 77))
  have x2_1 : Blk ((w1.alloc (.cells #[.bool b1, .slice A1 n1 c1] 77)).alloc (.cells #[.bool b'1, .slice A'1 n'1 c'1] 77)) (w1.heap.size + 1) 77 #[.bool b'1, .slice A'1 n'1 c'1] := (blkAt _ _ _ (by simp))
  replace x1_0 : Blk ((w1.alloc (.cells #[.bool b1, .slice A1 n1 c1] 77)).alloc (.cells #[.bool b'1, .slice A'1 n'1 c'1] 77)) (w.heap.size) 24 #[.bool b, .slice A n c, .slice D m e] := ((x1_0.alloc (.cells #[.bool b1, .slice A1 n1 c1] 77)).alloc (.cells #[.bool b'1, .slice A'1 n'1 c'1] 77))
  replace x1_1 : Blk ((w1.alloc (.cells #[.bool b1, .slice A1 n1 c1] 77)).alloc (.cells #[.bool b'1, .slice A'1 n'1 c'1] 77)) (w.heap.size + 1) 24 #[.bool false, .slice none 0 0, .slice none 0 0] := ((x1_1.alloc (.cells #[.bool b1, .slice A1 n1 c1] 77)).alloc (.cells #[.bool b'1, .slice A'1 n'1 c'1] 77))
  have lw2 : w1.heap.size + 2 ≤ ((w1.alloc (.cells #[.bool b1, .slice A1 n1 c1] 77)).alloc (.cells #[.bool b'1, .slice A'1 n'1 c'1] 77)).heap.size := by simp
  generalize hE2 : ((w1.alloc (.cells #[.bool b1, .slice A1 n1 c1] 77)).alloc (.cells #[.bool b'1, .slice A'1 n'1 c'1] 77)) = w2 at p2 bw2 lw2 x2_0 x2_1 x1_0 x1_1 ⊢
  clear hE2
  replace h := h.keep p2
  replace h1 := h1.keep p2
  replace h'1 := h'1.keep p2
  clear bw1
  obtain ⟨lx1_0_0, lx1_0_1, lx1_0_2, lx1_0_3⟩ := lts0 x1_0.lt
  have cx1_1_0 : w2.cell? ⟨w.heap.size + 1, 0, none⟩ = some (.bool false) := x1_1.cell 0
  have fx1_1_0 : w2.frozen? ⟨w.heap.size + 1, 0, none⟩ = false := x1_1.frozen 0
  have cx1_1_1 : w2.cell? ⟨w.heap.size + 1, 1, none⟩ = some (.slice none 0 0) := x1_1.cell 1
  have fx1_1_1 : w2.frozen? ⟨w.heap.size + 1, 1, none⟩ = false := x1_1.frozen 1
  have cx1_1_2 : w2.cell? ⟨w.heap.size + 1, 2, none⟩ = some (.slice none 0 0) := x1_1.cell 2
  have fx1_1_2 : w2.frozen? ⟨w.heap.size + 1, 2, none⟩ = false := x1_1.frozen 2
  obtain ⟨lx1_1_0, lx1_1_1, lx1_1_2, lx1_1_3⟩ := lts1 x1_1.lt
  obtain ⟨cx2_0_0, cx2_0_1⟩ := x2_0.c2
  obtain ⟨lx2_0_0, lx2_0_1, lx2_0_2, lx2_0_3⟩ := lts0 x2_0.lt
  obtain ⟨cx2_1_0, cx2_1_1⟩ := x2_1.c2
  obtain ⟨lx2_1_0, lx2_1_1, lx2_1_2, lx2_1_3⟩ := lts1 x2_1.lt
  have nfx1_0_0 : ¬ w.heap.size = w.heap.size + 1 := by omega
  have nex1_0_0 : ¬ w.heap.size = w.heap.size + 1 := by omega
  have nfx2_0_0 : ¬ w1.heap.size = w.heap.size + 1 := by omega
  have nex2_0_0 : ¬ w1.heap.size = w.heap.size + 1 := by omega
  have nfx2_1_0 : ¬ w1.heap.size + 1 = w.heap.size + 1 := by omega
  have nex2_1_0 : ¬ w1.heap.size = w.heap.size := by omega
  go_region_held3 (fun w' => SeesX w2.heap.size (w.heap.size + 1) w2 w') (first | with_reducible exact SeesX.of (Nat.le_refl _) (by assumption) | with_reducible exact SeesX.of (Nat.le_refl _) (brefl _).drew | with_reducible exact (SeesX.set (SeesX.set (SeesX.set (SeesX.of (Nat.le_refl _) (by assumption))))) | with_reducible exact (SeesX.set (SeesX.set (SeesX.of (Nat.le_refl _) (by assumption)))) | with_reducible exact (SeesX.set (SeesX.of (Nat.le_refl _) (by assumption))) | exact SeesX.of (Nat.le_refl _) (below_drewN (brefl _) 1) | exact SeesX.of (Nat.le_refl _) (below_drewN (by assumption) _))
    (first
      | (go_at_call 74; (with_reducible refine (r01_neg _ b1 A1 n1 c1 ((q).num) ((k)) ?_ ?_).mono ?_); (exact h1.iz); (first | omega | decide | assumption); rintro e w3 ⟨b3, A3, n3, c3, rfl, h3, hb3⟩; replace hb3 := bnext (below_drewN (brefl _) 1) hb3; have q3 : Below w2.heap.size w2 w3 := bnext (brefl w2) hb3; replace h := h.belw hb3; replace h1 := h1.belw hb3; replace h'1 := h'1.belw hb3)
      | (go_at_call 71; (with_reducible refine (g_form _ b3 A3 n3 c3 (-((q).num)) (((k))) ?_ b'1 A'1 n'1 c'1 (((q).den : Int)) ((k)) ?_ (-q) (k) ?_ ?_ ?_ ?_).mono ?_); (exact h3.iz); (exact h'1.iz); (exact den_ne _); (exact (neg_q q).symm); (exact Sz_neg HS.out); (omega); rintro e w4 ⟨b4, A4, n4, c4, A'4, n'4, c'4, rfl, h4, hb4⟩; have q4 : Below w2.heap.size w2 w4 := bnext q3 hb4; replace h := h.belw hb4; replace h1 := h1.belw hb4; replace h'1 := h'1.belw hb4; replace h3 := h3.belw hb4; have x1_1 : Blk w4 (w.heap.size + 1) 24 #[.bool false, .slice none 0 0, .slice none 0 0] := x1_1.below q4 x1_1.lt; obtain ⟨cx1_1_0, cx1_1_1, cx1_1_2⟩ := x1_1.c3; obtain ⟨fx1_1_0, fx1_1_1, fx1_1_2⟩ := x1_1.f3))
  have bw4 : Below w.heap.size w w4 := bw2.trans (q4.mono bw2.size)
  clear lx1_0_0 lx1_0_1 lx1_0_2 lx1_0_3 cx1_1_0 fx1_1_0 cx1_1_1 fx1_1_1 cx1_1_2 fx1_1_2 lx1_1_0 lx1_1_1 lx1_1_2 lx1_1_3 cx2_0_0 cx2_0_1 lx2_0_0 lx2_0_1 lx2_0_2 lx2_0_3 cx2_1_0 cx2_1_1 lx2_1_0 lx2_1_1 lx2_1_2 lx2_1_3
  replace x1_0 := x1_0.below q4 x1_0.lt
  replace x2_0 := x2_0.below q4 x2_0.lt
  replace x2_1 := x2_1.below q4 x2_1.lt
  have lw4 : w2.heap.size ≤ w4.heap.size := q4.size
  obtain ⟨cx1_1_0, cx1_1_1, cx1_1_2⟩ := x1_1.c3
  obtain ⟨fx1_1_0, fx1_1_1, fx1_1_2⟩ := x1_1.f3
  go_wp2_with fail
  refine bodyPost_ret (v := .agg #[.bool b4, .slice A4 n4 c4, .slice A'4 n'4 c'4]) (by simp [results, Tryz.results46, go_sem, *] <;> first | rfl | exact ⟨rfl, rfl⟩) rfl ?_
  exact ⟨b4, A4, n4, c4, A'4, n'4, c'4, rfl, h4.keep ((((Kp.refl w4).setB (p := ⟨w.heap.size + 1, 0, none⟩) x1_1.box (by decide) (.bool b4)).setB (p := ⟨w.heap.size + 1, 1, none⟩) (x1_1.box.set ⟨w.heap.size + 1, 0, none⟩ (.bool b4)) (by decide) (.slice A4 n4 c4)).setB (p := ⟨w.heap.size + 1, 2, none⟩) ((x1_1.box.set ⟨w.heap.size + 1, 0, none⟩ (.bool b4)).set ⟨w.heap.size + 1, 1, none⟩ (.slice A4 n4 c4)) (by decide) (.slice A'4 n'4 c'4)), (((bw4.setCell (p := ⟨w.heap.size + 1, 0, none⟩) (by dsimp only; omega) (.bool b4)).setCell (p := ⟨w.heap.size + 1, 1, none⟩) (by dsimp only; omega) (.slice A4 n4 c4)).setCell (p := ⟨w.heap.size + 1, 2, none⟩) (by dsimp only; omega) (.slice A'4 n'4 c'4))⟩
set_option maxRecDepth 100000 in
set_option maxHeartbeats 2000000 in
/-- linkworkref02.Add -/
theorem g_add (w : World) (b : Bool) (A : Option Addr) (n c : Nat) (D : Option Addr) (m e : Nat) (q : Rat) (k : Nat) (h : QZ w b A n c D m e q k) (b' : Bool) (A' : Option Addr) (n' c' : Nat) (D' : Option Addr) (m' e' : Nat) (q' : Rat) (k' : Nat) (h' : QZ w b' A' n' c' D' m' e' q' k') (h0 : 0 < k) (hk : k ≤ 40000000) (h0' : 0 < k') (hk' : k' ≤ 40000000) :
    Calls Tryz.prog 45 #[.agg #[.bool b, .slice A n c, .slice D m e], .agg #[.bool b', .slice A' n' c', .slice D' m' e']] w (RetF w (q + q') (k + k' + 1)) := by
  have HS := Lib.hid (h.sz h0)
  have HS' := Lib.hid (h'.sz h0')
  go_enter Tryz.func45, Tryz.ntmps45
  go_wp2_with fail
  (with_reducible refine (g_parts _ b A n c D m e (q) (k) ?_ ?_ ?_).mono ?_); (exact (h.belw ((((Below.refl _ _).alloc (Nat.le_refl _) _).alloc (by simp) _).alloc (by simp <;> omega) _))); (first | omega | decide | assumption); (first | omega | decide | assumption); rintro e w1 ⟨b1, A1, n1, c1, b'1, A'1, n'1, c'1, rfl, h1, h'1, hb1⟩
  have q1 : Below w.heap.size w w1 := ((((Below.refl _ _).alloc (Nat.le_refl _) _).alloc (by simp) _).alloc (by simp <;> omega) _).trans (hb1.mono (by simp <;> omega))
  replace h := h.belw q1
  replace h' := h'.belw q1
  have x1_0 : Blk w1 (w.heap.size) 24 #[.bool b, .slice A n c, .slice D m e] := (((blkAt _ _ _ (by simp)).alloc _).alloc _).below hb1 (by simp <;> omega)
  have x1_1 : Blk w1 (w.heap.size + 1) 24 #[.bool b', .slice A' n' c', .slice D' m' e'] := ((blkAt _ _ _ (by simp)).alloc _).below hb1 (by simp <;> omega)
  have x1_2 : Blk w1 (w.heap.size + 1 + 1) 24 #[.bool false, .slice none 0 0, .slice none 0 0] := (blkAt _ _ _ (by simp)).below hb1 (by simp)
  have bw1 : Below w.heap.size w w1 := (brefl w).trans (q1.mono (brefl w).size)
  have lw1 : w.heap.size + 3 ≤ w1.heap.size := by have := hb1.size; simp at this; omega
  clear hb1 q1
  obtain ⟨cx1_1_0, cx1_1_1, cx1_1_2⟩ := x1_1.c3
  obtain ⟨lx1_1_0, lx1_1_1, lx1_1_2, lx1_1_3⟩ := lts1 x1_1.lt
  go_wp2_with fail
  (with_reducible refine (g_parts _ b' A' n' c' D' m' e' (q') (k') ?_ ?_ ?_).mono ?_); (exact (h'.belw (((Below.refl _ _).alloc (Nat.le_refl _) _).alloc (by simp) _))); (first | omega | decide | assumption); (first | omega | decide | assumption); rintro e w2 ⟨b2, A2, n2, c2, b'2, A'2, n'2, c'2, rfl, h2, h'2, hb2⟩
  clear cx1_1_0 cx1_1_1 cx1_1_2 lx1_1_0 lx1_1_1 lx1_1_2 lx1_1_3
  have q2 : Below w1.heap.size w1 w2 := (((Below.refl _ _).alloc (Nat.le_refl _) _).alloc (by simp) _).trans (hb2.mono (by simp <;> omega))
  replace h := h.belw q2
  replace h' := h'.belw q2
  replace h1 := h1.belw q2
  replace h'1 := h'1.belw q2
  replace x1_0 := x1_0.below q2 x1_0.lt
  replace x1_1 := x1_1.below q2 x1_1.lt
  replace x1_2 := x1_2.below q2 x1_2.lt
  have x2_0 : Blk w2 (w1.heap.size) 77 #[.bool b1, .slice A1 n1 c1] := ((blkAt _ _ _ (by simp)).alloc _).below hb2 (by simp <;> omega)
  have x2_1 : Blk w2 (w1.heap.size + 1) 77 #[.bool b'1, .slice A'1 n'1 c'1] := (blkAt _ _ _ (by simp)).below hb2 (by simp)
  have bw2 : Below w.heap.size w w2 := bw1.trans (q2.mono bw1.size)
  have lw2 : w1.heap.size + 2 ≤ w2.heap.size := by have := hb2.size; simp at this; omega
  clear hb2 q2 bw1
  go_wp2_with fail
  have p3 : Kp w2 ((w2.alloc (.cells #[.bool b2, .slice A2 n2 c2] 77)).alloc (.cells #[.bool b'2, .slice A'2 n'2 c'2] 77)) := (((Kp.refl w2).alloc (.cells #[.bool b2, .slice A2 n2 c2] 77)).alloc (.cells #[.bool b'2, .slice A'2 n'2 c'2] 77))
  have bw3 : Below w.heap.size w ((w2.alloc (.cells #[.bool b2, .slice A2 n2 c2] 77)).alloc (.cells #[.bool b'2, .slice A'2 n'2 c'2] 77)) := ((bw2.alloc (by first | omega | (simp <;> omega)) (.cells #[.bool b2, .slice A2 n2 c2] 77)).alloc (by first | omega | (simp <;> omega)) (.cells #[.bool b'2, .slice A'2 n'2 c'2] 77))
  have x3_0 : Blk ((w2.alloc (.cells #[.bool b2, .slice A2 n2 c2] 77)).alloc (.cells #[.bool b'2, .slice A'2 n'2 c'2] 77)) (w2.heap.size) 77 #[.bool b2, .slice A2 n2 c2] := ((blkAt _ _ _ (by simp)).alloc (.cells #[.bool b'2, .slice A'2 n'2 c'2] 77))
  have x3_1 : Blk ((w2.alloc (.cells #[.bool b2, .slice A2 n2 c2] 77)).alloc (.cells #[.bool b'2, .slice A'2 n'2 c'2] 77)) (w2.heap.size + 1) 77 #[.bool b'2, .slice A'2 n'2 c'2] := (blkAt _ _ _ (by simp))
  replace x1_0 : Blk ((w2.alloc (.cells #[.bool b2, .slice A2 n2 c2] 77)).alloc (.cells #[.bool b'2, .slice A'2 n'2 c'2] 77)) (w.heap.size) 24 #[.bool b, .slice A n c, .slice D m e] := ((x1_0.alloc (.cells #[.bool b2, .slice A2 n2 c2] 77)).alloc (.cells #[.bool b'2, .slice A'2 n'2 c'2] 77))
  replace x1_1 : Blk ((w2.alloc (.cells #[.bool b2, .slice A2 n2 c2] 77)).alloc (.cells #[.bool b'2, .slice A'2 n'2 c'2] 77)) (w.heap.size + 1) 24 #[.bool b', .slice A' n' c', .slice D' m' e'] := ((x1_1.alloc (.cells #[.bool b2, .slice A2 n2 c2] 77)).alloc (.cells #[.bool b'2, .slice A'2 n'2 c'2] 77))
  replace x1_2 : Blk ((w2.alloc (.cells #[.bool b2, .slice A2 n2 c2] 77)).alloc (.cells #[.bool b'2, .slice A'2 n'2 c'2] 77)) (w.heap.size + 1 + 1) 24 #[.bool false, .slice none 0 0, .slice none 0 0] := ((x1_2.alloc (.cells #[.bool b2, .slice A2 n2 c2] 77)).alloc (.cells #[.bool b'2, .slice A'2 n'2 c'2] 77))
  replace x2_0 : Blk ((w2.alloc (.cells #[.bool b2, .slice A2 n2 c2] 77)).alloc (.cells #[.bool b'2, .slice A'2 n'2 c'2] 77)) (w1.heap.size) 77 #[.bool b1, .slice A1 n1 c1] := ((x2_0.alloc (.cells #[.bool b2, .slice A2 n2 c2] 77)).alloc (.cells #[.bool b'2, .slice A'2 n'2 c'2] 77))
  replace x2_1 : Blk ((w2.alloc (.cells #[.bool b2, .slice A2 n2 c2] 77)).alloc (.cells #[.bool b'2, .slice A'2 n'2 c'2] 77)) (w1.heap.size + 1) 77 #[.bool b'1, .slice A'1 n'1 c'1] := ((x2_1.alloc (.cells #[.bool b2, .slice A2 n2 c2] 77)).alloc (.cells #[.bool b'2, .slice A'2 n'2 c'2] 77))
  have lw3 : w2.heap.size + 2 ≤ ((w2.alloc (.cells #[.bool b2, .slice A2 n2 c2] 77)).alloc (.cells #[.bool b'2, .slice A'2 n'2 c'2] 77)).heap.size := by simp
  generalize hE3 : ((w2.alloc (.cells #[.bool b2, .slice A2 n2 c2] 77)).alloc (.cells #[.bool b'2, .slice A'2 n'2 c'2] 77)) = w3 at p3 bw3 lw3 x3_0 x3_1 x1_0 x1_1 x1_2 x2_0 x2_1 ⊢
  clear hE3
  replace h := h.keep p3
  replace h' := h'.keep p3
  replace h1 := h1.keep p3
  replace h'1 := h'1.keep p3
  replace h2 := h2.keep p3
  replace h'2 := h'2.keep p3
  clear bw2
  obtain ⟨cx2_0_0, cx2_0_1⟩ := x2_0.c2
  obtain ⟨lx2_0_0, lx2_0_1, lx2_0_2, lx2_0_3⟩ := lts0 x2_0.lt
  obtain ⟨cx2_1_0, cx2_1_1⟩ := x2_1.c2
  obtain ⟨lx2_1_0, lx2_1_1, lx2_1_2, lx2_1_3⟩ := lts1 x2_1.lt
  obtain ⟨cx3_0_0, cx3_0_1⟩ := x3_0.c2
  obtain ⟨lx3_0_0, lx3_0_1, lx3_0_2, lx3_0_3⟩ := lts0 x3_0.lt
  obtain ⟨cx3_1_0, cx3_1_1⟩ := x3_1.c2
  obtain ⟨lx3_1_0, lx3_1_1, lx3_1_2, lx3_1_3⟩ := lts1 x3_1.lt
  refine wp_region_lin (B := w.heap.size) (fr := fun xf => ⟨List.toArray (.agg #[.bool b, .slice A n c, .slice D m e] :: .agg #[.bool b', .slice A' n' c', .slice D' m' e'] :: .pointer (some ⟨w.heap.size, 0, none⟩) :: .pointer (some ⟨w.heap.size + 1, 0, none⟩) :: .pointer (some ⟨w.heap.size + 1 + 1, 0, none⟩) :: .pointer (some ⟨w1.heap.size, 0, none⟩) :: .pointer (some ⟨w1.heap.size + 1, 0, none⟩) :: .pointer (some ⟨w2.heap.size, 0, none⟩) :: .pointer (some ⟨w2.heap.size + 1, 0, none⟩) :: .tuple #[.agg #[.bool b1, .slice A1 n1 c1], .agg #[.bool b'1, .slice A'1 n'1 c'1]] :: .agg #[.bool b, .slice A n c, .slice D m e] :: .tuple #[.agg #[.bool b1, .slice A1 n1 c1], .agg #[.bool b'1, .slice A'1 n'1 c'1]] :: .agg #[.bool b1, .slice A1 n1 c1] :: .agg #[.bool b'1, .slice A'1 n'1 c'1] :: .tuple #[.agg #[.bool b2, .slice A2 n2 c2], .agg #[.bool b'2, .slice A'2 n'2 c'2]] :: .agg #[.bool b', .slice A' n' c', .slice D' m' e'] :: .tuple #[.agg #[.bool b2, .slice A2 n2 c2], .agg #[.bool b'2, .slice A'2 n'2 c'2]] :: .agg #[.bool b2, .slice A2 n2 c2] :: .agg #[.bool b'2, .slice A'2 n'2 c'2] :: xf 0 :: xf 1 :: xf 2 :: xf 3 :: xf 4 :: xf 5 :: xf 6 :: xf 7 :: xf 8 :: xf 9 :: xf 10 :: []), []⟩) (R := fun i => List.getD ((PEq (.agg #[.bool b1, .slice A1 n1 c1])) :: (PEq (.agg #[.bool b'2, .slice A'2 n'2 c'2])) :: (VI (((q).num) * (((q').den : Int))) (((k)) + ((k')))) :: (PEq (.agg #[.bool b2, .slice A2 n2 c2])) :: (PEq (.agg #[.bool b'1, .slice A'1 n'1 c'1])) :: (VI (((q').num) * (((q).den : Int))) (((k')) + ((k)))) :: (VI ((((q).num) * (((q').den : Int))) + (((q').num) * (((q).den : Int)))) ((((k)) + ((k'))) + (((k')) + ((k))) + 1)) :: (PEq (.agg #[.bool b'1, .slice A'1 n'1 c'1])) :: (PEq (.agg #[.bool b'2, .slice A'2 n'2 c'2])) :: (VI ((((q).den : Int)) * (((q').den : Int))) (((k)) + ((k')))) :: (VQ (q + q') (k + k' + 1)) :: PAny :: []) i (fun _ _ => True)) (es := []) (ow := [⟨w.heap.size, 12, 0, 24, #[.bool b, .slice A n c, .slice D m e], CAny⟩, ⟨w.heap.size + 1, 12, 0, 24, #[.bool b', .slice A' n' c', .slice D' m' e'], CAny⟩, ⟨w.heap.size + 1 + 1, 11, 0, 24, #[.bool false, .slice none 0 0, .slice none 0 0], CQ (q + q') (k + k' + 1)⟩, ⟨w1.heap.size, 12, 0, 77, #[.bool b1, .slice A1 n1 c1], CAny⟩, ⟨w1.heap.size + 1, 12, 0, 77, #[.bool b'1, .slice A'1 n'1 c'1], CAny⟩, ⟨w2.heap.size, 12, 0, 77, #[.bool b2, .slice A2 n2 c2], CAny⟩, ⟨w2.heap.size + 1, 12, 0, 77, #[.bool b'2, .slice A'2 n'2 c'2], CAny⟩]) (x0 := (fun _ => undef)) (by kernel_rfl)
    (each_of ⟨fun _ _ => rfl, fun _ _ => rfl, fun _ _ => rfl, fun _ _ => rfl, fun _ _ => rfl, fun _ _ => rfl, fun _ _ => rfl, fun _ _ => rfl, fun _ _ => rfl, fun _ _ => rfl, fun _ _ => rfl, fun _ _ => rfl, trivial⟩) (each_of (acyc_from _ 0 (by kernel_rfl))) (AllStab.get _ ⟨stEq _, stEq _, stI _ _, stEq _, stEq _, stI _ _, stI _ _, stEq _, stEq _, stI _ _, stQ _ _, stAny, trivial⟩)
    (fun _ h => nomatch h) (List.forall_mem_cons.2 ⟨scAny, List.forall_mem_cons.2 ⟨scAny, List.forall_mem_cons.2 ⟨scQ _ _, List.forall_mem_cons.2 ⟨scAny, List.forall_mem_cons.2 ⟨scAny, List.forall_mem_cons.2 ⟨scAny, List.forall_mem_cons.2 ⟨scAny, fun _ h => nomatch h⟩⟩⟩⟩⟩⟩⟩) (fun _ h => nomatch h) bw3.size
    (List.forall_mem_cons.2 ⟨⟨x1_0, by show w.heap.size ≤ w.heap.size; omega⟩, List.forall_mem_cons.2 ⟨⟨x1_1, by show w.heap.size ≤ w.heap.size + 1; omega⟩, List.forall_mem_cons.2 ⟨⟨x1_2, by show w.heap.size ≤ w.heap.size + 1 + 1; omega⟩, List.forall_mem_cons.2 ⟨⟨x2_0, by show w.heap.size ≤ w1.heap.size; omega⟩, List.forall_mem_cons.2 ⟨⟨x2_1, by show w.heap.size ≤ w1.heap.size + 1; omega⟩, List.forall_mem_cons.2 ⟨⟨x3_0, by show w.heap.size ≤ w2.heap.size; omega⟩, List.forall_mem_cons.2 ⟨⟨x3_1, by show w.heap.size ≤ w2.heap.size + 1; omega⟩, fun _ h => nomatch h⟩⟩⟩⟩⟩⟩⟩) (ownDist (by simp <;> omega))
    (each_of ⟨?_, ?_, ?_, ?_, ?_, ?_, ?_, ?_, ?_, ?_, ?_, ?_, trivial⟩) ?_
  · exact .inl ⟨by simp, by simp, fun xf wq hk hbl hd K hK => by
      have y : Blk wq (w1.heap.size) 77 #[.bool b1, .slice A1 n1 c1] := hbl _ (List.Mem.tail _ (List.Mem.tail _ (List.Mem.tail _ (List.Mem.head _)))) (by simp [Region.binds])
      obtain ⟨hcl0, hcl1⟩ := y.c2
      (try dsimp only)
      go_simp
      exact hK.out (.agg #[.bool b1, .slice A1 n1 c1]) _ rfl (brefl _)⟩
  · exact .inl ⟨by simp, by simp, fun xf wq hk hbl hd K hK => by
      have y : Blk wq (w2.heap.size + 1) 77 #[.bool b'2, .slice A'2 n'2 c'2] := hbl _ (List.Mem.tail _ (List.Mem.tail _ (List.Mem.tail _ (List.Mem.tail _ (List.Mem.tail _ (List.Mem.tail _ (List.Mem.head _))))))) (by simp [Region.binds])
      obtain ⟨hcl0, hcl1⟩ := y.c2
      (try dsimp only)
      go_simp
      exact hK.out (.agg #[.bool b'2, .slice A'2 n'2 c'2]) _ rfl (brefl _)⟩
  · exact .inl ⟨by simp, by simp, fun xf wq hk hbl hd K hK => by
      have d0 : xf 0 = .agg #[.bool b1, .slice A1 n1 c1] := hd ⟨0, .data⟩ (by simp) rfl
      have d1 : xf 1 = .agg #[.bool b'2, .slice A'2 n'2 c'2] := hd ⟨1, .data⟩ (by simp) rfl
      (try dsimp only); (try simp only [d0, d1])
      go_simp
      go_at_call 72
      (with_reducible refine (r01_mul _ b1 A1 n1 c1 ((q).num) ((k)) ?_ b'2 A'2 n'2 c'2 (((q').den : Int)) ((k')) ?_ ?_).mono ?_); (exact (h1.keep hk).iz); (exact (h'2.keep hk).iz); (first | omega | decide | assumption); rintro e wr ⟨b5, A5, n5, c5, rfl, h5, hbr⟩
      have hz := hK.out _ _ ⟨b5, A5, n5, c5, rfl, h5⟩ hbr
      simp only [d0, d1] at hz
      exact hz⟩
  · exact .inl ⟨by simp, by simp, fun xf wq hk hbl hd K hK => by
      have y : Blk wq (w2.heap.size) 77 #[.bool b2, .slice A2 n2 c2] := hbl _ (List.Mem.tail _ (List.Mem.tail _ (List.Mem.tail _ (List.Mem.tail _ (List.Mem.tail _ (List.Mem.head _)))))) (by simp [Region.binds])
      obtain ⟨hcl0, hcl1⟩ := y.c2
      (try dsimp only)
      go_simp
      exact hK.out (.agg #[.bool b2, .slice A2 n2 c2]) _ rfl (brefl _)⟩
  · exact .inl ⟨by simp, by simp, fun xf wq hk hbl hd K hK => by
      have y : Blk wq (w1.heap.size + 1) 77 #[.bool b'1, .slice A'1 n'1 c'1] := hbl _ (List.Mem.tail _ (List.Mem.tail _ (List.Mem.tail _ (List.Mem.tail _ (List.Mem.head _))))) (by simp [Region.binds])
      obtain ⟨hcl0, hcl1⟩ := y.c2
      (try dsimp only)
      go_simp
      exact hK.out (.agg #[.bool b'1, .slice A'1 n'1 c'1]) _ rfl (brefl _)⟩
  · exact .inl ⟨by simp, by simp, fun xf wq hk hbl hd K hK => by
      have d3 : xf 3 = .agg #[.bool b2, .slice A2 n2 c2] := hd ⟨3, .data⟩ (by simp) rfl
      have d4 : xf 4 = .agg #[.bool b'1, .slice A'1 n'1 c'1] := hd ⟨4, .data⟩ (by simp) rfl
      (try dsimp only); (try simp only [d3, d4])
      go_simp
      go_at_call 72
      (with_reducible refine (r01_mul _ b2 A2 n2 c2 ((q').num) ((k')) ?_ b'1 A'1 n'1 c'1 (((q).den : Int)) ((k)) ?_ ?_).mono ?_); (exact (h2.keep hk).iz); (exact (h'1.keep hk).iz); (first | omega | decide | assumption); rintro e wr ⟨b6, A6, n6, c6, rfl, h6, hbr⟩
      have hz := hK.out _ _ ⟨b6, A6, n6, c6, rfl, h6⟩ hbr
      simp only [d3, d4] at hz
      exact hz⟩
  · exact .inl ⟨by simp, by simp, fun xf wq hk hbl hd K hK => by
      obtain ⟨b5, A5, n5, c5, d2, h5⟩ : VI (((q).num) * (((q').den : Int))) (((k)) + ((k'))) (xf 2) wq := hd ⟨2, .data⟩ (by simp) rfl
      obtain ⟨b6, A6, n6, c6, d5, h6⟩ : VI (((q').num) * (((q).den : Int))) (((k')) + ((k))) (xf 5) wq := hd ⟨5, .data⟩ (by simp) rfl
      (try dsimp only); (try simp only [d2, d5])
      go_simp
      go_at_call 73
      (with_reducible refine (r01_add _ b5 A5 n5 c5 (((q).num) * (((q').den : Int))) (((k)) + ((k'))) ?_ b6 A6 n6 c6 (((q').num) * (((q).den : Int))) (((k')) + ((k))) ?_ ?_).mono ?_); (exact h5.iz); (exact h6.iz); (first | omega | decide | assumption); rintro e wr ⟨b7, A7, n7, c7, rfl, h7, hbr⟩
      have hz := hK.out _ _ ⟨b7, A7, n7, c7, rfl, h7⟩ hbr
      simp only [d2, d5] at hz
      exact hz⟩
  · exact .inl ⟨by simp, by simp, fun xf wq hk hbl hd K hK => by
      have y : Blk wq (w1.heap.size + 1) 77 #[.bool b'1, .slice A'1 n'1 c'1] := hbl _ (List.Mem.tail _ (List.Mem.tail _ (List.Mem.tail _ (List.Mem.tail _ (List.Mem.head _))))) (by simp [Region.binds])
      obtain ⟨hcl0, hcl1⟩ := y.c2
      (try dsimp only)
      go_simp
      exact hK.out (.agg #[.bool b'1, .slice A'1 n'1 c'1]) _ rfl (brefl _)⟩
  · exact .inl ⟨by simp, by simp, fun xf wq hk hbl hd K hK => by
      have y : Blk wq (w2.heap.size + 1) 77 #[.bool b'2, .slice A'2 n'2 c'2] := hbl _ (List.Mem.tail _ (List.Mem.tail _ (List.Mem.tail _ (List.Mem.tail _ (List.Mem.tail _ (List.Mem.tail _ (List.Mem.head _))))))) (by simp [Region.binds])
      obtain ⟨hcl0, hcl1⟩ := y.c2
      (try dsimp only)
      go_simp
      exact hK.out (.agg #[.bool b'2, .slice A'2 n'2 c'2]) _ rfl (brefl _)⟩
  · exact .inl ⟨by simp, by simp, fun xf wq hk hbl hd K hK => by
      have d7 : xf 7 = .agg #[.bool b'1, .slice A'1 n'1 c'1] := hd ⟨7, .data⟩ (by simp) rfl
      have d8 : xf 8 = .agg #[.bool b'2, .slice A'2 n'2 c'2] := hd ⟨8, .data⟩ (by simp) rfl
      (try dsimp only); (try simp only [d7, d8])
      go_simp
      go_at_call 72
      (with_reducible refine (r01_mul _ b'1 A'1 n'1 c'1 (((q).den : Int)) ((k)) ?_ b'2 A'2 n'2 c'2 (((q').den : Int)) ((k')) ?_ ?_).mono ?_); (exact (h'1.keep hk).iz); (exact (h'2.keep hk).iz); (first | omega | decide | assumption); rintro e wr ⟨b8, A8, n8, c8, rfl, h8, hbr⟩
      have hz := hK.out _ _ ⟨b8, A8, n8, c8, rfl, h8⟩ hbr
      simp only [d7, d8] at hz
      exact hz⟩
  · exact .inl ⟨by simp, by simp, fun xf wq hk hbl hd K hK => by
      obtain ⟨b7, A7, n7, c7, d6, h7⟩ : VI ((((q).num) * (((q').den : Int))) + (((q').num) * (((q).den : Int)))) ((((k)) + ((k'))) + (((k')) + ((k))) + 1) (xf 6) wq := hd ⟨6, .data⟩ (by simp) rfl
      obtain ⟨b8, A8, n8, c8, d9, h8⟩ : VI ((((q).den : Int)) * (((q').den : Int))) (((k)) + ((k'))) (xf 9) wq := hd ⟨9, .data⟩ (by simp) rfl
      (try dsimp only); (try simp only [d6, d9])
      go_simp
      go_at_call 71
      (with_reducible refine (g_form _ b7 A7 n7 c7 ((((q).num) * (((q').den : Int))) + (((q').num) * (((q).den : Int)))) ((((k)) + ((k'))) + (((k')) + ((k))) + 1) ?_ b8 A8 n8 c8 ((((q).den : Int)) * (((q').den : Int))) (((k)) + ((k'))) ?_ (q + q') (k + k' + 1) ?_ ?_ ?_ ?_).mono ?_); (exact h7.iz); (exact h8.iz); (exact Int.mul_ne_zero (den_ne _) (den_ne _)); (exact (add_q _ _).symm); (exact Sz_add HS.out HS'.out); (omega); rintro e wr ⟨b9, A9, n9, c9, A'9, n'9, c'9, rfl, h9, hbr⟩
      have hz := hK.out _ _ ⟨b9, A9, n9, c9, A'9, n'9, c'9, rfl, h9⟩ hbr
      simp only [d6, d9] at hz
      exact hz⟩
  · exact .inr (.inr (.inr ⟨⟨w.heap.size + 1 + 1, 11, 0, 24, #[.bool false, .slice none 0 0, .slice none 0 0], CQ (q + q') (k + k' + 1)⟩, by simp, rfl, by simp, by simp, (show KT 24 = false by decide), fun _ _ => True.intro, fun xf wq hblk hd => by
      obtain ⟨b9, A9, n9, c9, A'9, n'9, c'9, d10, h9⟩ : VQ (q + q') (k + k' + 1) (xf 10) wq := hd ⟨10, .data⟩ (by simp) rfl
      dsimp only at hblk
      refine ⟨[.bool b9, .slice A9 n9 c9, .slice A'9 n'9 c'9], fun w' hk => ⟨b9, A9, n9, c9, A'9, n'9, c'9, rfl, h9.keep hk⟩, fun K hK => ?_⟩
      have hc0 : wq.cell? ⟨w.heap.size + 1 + 1, 0, none⟩ = some (.bool false) := hblk.cell 0
      have hc1 : wq.cell? ⟨w.heap.size + 1 + 1, 1, none⟩ = some (.slice none 0 0) := hblk.cell 1
      have hc2 : wq.cell? ⟨w.heap.size + 1 + 1, 2, none⟩ = some (.slice none 0 0) := hblk.cell 2
      have hf0 : wq.frozen? ⟨w.heap.size + 1 + 1, 0, none⟩ = false := hblk.frozen 0
      have hf1 : wq.frozen? ⟨w.heap.size + 1 + 1, 1, none⟩ = false := hblk.frozen 1
      have hf2 : wq.frozen? ⟨w.heap.size + 1 + 1, 2, none⟩ = false := hblk.frozen 2
      (try dsimp only)
      simp only [d10]
      go_simp
      have hz := hK.out undef
      simp only [d10] at hz
      exact hz⟩))
  clear cx2_0_0 cx2_0_1 lx2_0_0 lx2_0_1 lx2_0_2 lx2_0_3 cx2_1_0 cx2_1_1 lx2_1_0 lx2_1_1 lx2_1_2 lx2_1_3 cx3_0_0 cx3_0_1 lx3_0_0 lx3_0_1 lx3_0_2 lx3_0_3 cx3_1_0 cx3_1_1 lx3_1_0 lx3_1_1 lx3_1_2 lx3_1_3
  intro y4 w4 kq4 hbl4 lw4 how hrr hfl hds
  replace h := h.keep kq4
  replace h' := h'.keep kq4
  replace h1 := h1.keep kq4
  replace h'1 := h'1.keep kq4
  replace h2 := h2.keep kq4
  replace h'2 := h'2.keep kq4
  obtain ⟨_, z4_0, ez, _⟩ := how _ (List.Mem.head _)
  obtain rfl := ez (by simp)
  dsimp only at z4_0
  obtain ⟨_, z4_1, ez, _⟩ := how _ (List.Mem.tail _ (List.Mem.head _))
  obtain rfl := ez (by simp)
  dsimp only at z4_1
  obtain ⟨_, z4_2, _, ez⟩ := how _ (List.Mem.tail _ (List.Mem.tail _ (List.Mem.head _)))
  obtain ⟨b9, A9, n9, c9, A'9, n'9, c'9, rfl, h9⟩ := ez (by simp)
  dsimp only at z4_2
  obtain ⟨_, z4_3, ez, _⟩ := how _ (List.Mem.tail _ (List.Mem.tail _ (List.Mem.tail _ (List.Mem.head _))))
  obtain rfl := ez (by simp)
  dsimp only at z4_3
  obtain ⟨_, z4_4, ez, _⟩ := how _ (List.Mem.tail _ (List.Mem.tail _ (List.Mem.tail _ (List.Mem.tail _ (List.Mem.head _)))))
  obtain rfl := ez (by simp)
  dsimp only at z4_4
  obtain ⟨_, z4_5, ez, _⟩ := how _ (List.Mem.tail _ (List.Mem.tail _ (List.Mem.tail _ (List.Mem.tail _ (List.Mem.tail _ (List.Mem.head _))))))
  obtain rfl := ez (by simp)
  dsimp only at z4_5
  obtain ⟨_, z4_6, ez, _⟩ := how _ (List.Mem.tail _ (List.Mem.tail _ (List.Mem.tail _ (List.Mem.tail _ (List.Mem.tail _ (List.Mem.tail _ (List.Mem.head _)))))))
  obtain rfl := ez (by simp)
  dsimp only at z4_6
  (try dsimp only)
  clear hrr hfl how hds 
  clear x1_0 x1_1 x1_2 x2_0 x2_1 x3_0 x3_1
  have bw4 : Below w.heap.size w w4 := bw3.trans hbl4
  clear bw3
  have cz4_2_0 : w4.cell? ⟨w.heap.size + 1 + 1, 0, none⟩ = some (.bool b9) := z4_2.cell 0
  have cz4_2_1 : w4.cell? ⟨w.heap.size + 1 + 1, 1, none⟩ = some (.slice A9 n9 c9) := z4_2.cell 1
  have cz4_2_2 : w4.cell? ⟨w.heap.size + 1 + 1, 2, none⟩ = some (.slice A'9 n'9 c'9) := z4_2.cell 2
  obtain ⟨lz4_2_0, lz4_2_1, lz4_2_2, lz4_2_3⟩ := lts2 z4_2.lt
  go_wp2_with fail
  refine bodyPost_ret (v := .agg #[.bool b9, .slice A9 n9 c9, .slice A'9 n'9 c'9]) (by simp [results, Tryz.results45, go_sem, *] <;> first | rfl | exact ⟨rfl, rfl⟩) rfl ?_
  exact ⟨b9, A9, n9, c9, A'9, n'9, c'9, rfl, h9.keep (Kp.refl w4), bw4⟩
set_option maxRecDepth 100000 in
set_option maxHeartbeats 2000000 in
/-- linkworkref02.Sub -/
theorem g_sub (w : World) (b : Bool) (A : Option Addr) (n c : Nat) (D : Option Addr) (m e : Nat) (q : Rat) (k : Nat) (h : QZ w b A n c D m e q k) (b' : Bool) (A' : Option Addr) (n' c' : Nat) (D' : Option Addr) (m' e' : Nat) (q' : Rat) (k' : Nat) (h' : QZ w b' A' n' c' D' m' e' q' k') (h0 : 0 < k) (hk : k ≤ 40000000) (h0' : 0 < k') (hk' : k' ≤ 40000000) :
    Calls Tryz.prog 43 #[.agg #[.bool b, .slice A n c, .slice D m e], .agg #[.bool b', .slice A' n' c', .slice D' m' e']] w (RetF w (q - q') (k + k' + 1)) := by
  rw [show q - q' = q + -q' from Rat.sub_eq_add_neg q q']
  go_enter Tryz.func43, Tryz.ntmps43
  go_wp2_with fail
  have p1 : Kp w (((w.alloc (.cells #[.bool b, .slice A n c, .slice D m e] 24)).alloc (.cells #[.bool b', .slice A' n' c', .slice D' m' e'] 24)).alloc (.cells #[.bool false, .slice none 0 0, .slice none 0 0] 24)) := ((((Kp.refl w).alloc (.cells #[.bool b, .slice A n c, .slice D m e] 24)).alloc (.cells #[.bool b', .slice A' n' c', .slice D' m' e'] 24)).alloc (.cells #[.bool false, .slice none 0 0, .slice none 0 0] 24))
  have bw1 : Below w.heap.size w (((w.alloc (.cells #[.bool b, .slice A n c, .slice D m e] 24)).alloc (.cells #[.bool b', .slice A' n' c', .slice D' m' e'] 24)).alloc (.cells #[.bool false, .slice none 0 0, .slice none 0 0] 24)) := ((((brefl w).alloc (by first | omega | (simp <;> omega)) (.cells #[.bool b, .slice A n c, .slice D m e] 24)).alloc (by first | omega | (simp <;> omega)) (.cells #[.bool b', .slice A' n' c', .slice D' m' e'] 24)).alloc (by first | omega | (simp <;> omega)) (.cells #[.bool false, .slice none 0 0, .slice none 0 0] 24))
  have x1_0 : Blk (((w.alloc (.cells #[.bool b, .slice A n c, .slice D m e] 24)).alloc (.cells #[.bool b', .slice A' n' c', .slice D' m' e'] 24)).alloc (.cells #[.bool false, .slice none 0 0, .slice none 0 0] 24)) (w.heap.size) 24 #[.bool b, .slice A n c, .slice D m e] := (((blkAt _ _ _ (by simp)).alloc (.cells #[.bool b', .slice A' n' c', .slice D' m' e'] 24)).alloc (.cells #[.bool false, .slice none 0 0, .slice none 0 0] 24))
  have x1_1 : Blk (((w.alloc (.cells #[.bool b, .slice A n c, .slice D m e] 24)).alloc (.cells #[.bool b', .slice A' n' c', .slice D' m' e'] 24)).alloc (.cells #[.bool false, .slice none 0 0, .slice none 0 0] 24)) (w.heap.size + 1) 24 #[.bool b', .slice A' n' c', .slice D' m' e'] := ((blkAt _ _ _ (by simp)).alloc (.cells #[.bool false, .slice none 0 0, .slice none 0 0] 24))
  have x1_2 : Blk (((w.alloc (.cells #[.bool b, .slice A n c, .slice D m e] 24)).alloc (.cells #[.bool b', .slice A' n' c', .slice D' m' e'] 24)).alloc (.cells #[.bool false, .slice none 0 0, .slice none 0 0] 24)) (w.heap.size + 1 + 1) 24 #[.bool false, .slice none 0 0, .slice none 0 0] := (blkAt _ _ _ (by simp))
  have lw1 : w.heap.size + 3 ≤ (((w.alloc (.cells #[.bool b, .slice A n c, .slice D m e] 24)).alloc (.cells #[.bool b', .slice A' n' c', .slice D' m' e'] 24)).alloc (.cells #[.bool false, .slice none 0 0, .slice none 0 0] 24)).heap.size := by simp
  generalize hE1 : (((w.alloc (.cells #[.bool b, .slice A n c, .slice D m e] 24)).alloc (.cells #[.bool b', .slice A' n' c', .slice D' m' e'] 24)).alloc (.cells #[.bool false, .slice none 0 0, .slice none 0 0] 24)) = w1 at p1 bw1 lw1 x1_0 x1_1 x1_2 ⊢
  clear hE1
  replace h := h.keep p1
  replace h' := h'.keep p1
  obtain ⟨cx1_0_0, cx1_0_1, cx1_0_2⟩ := x1_0.c3
  obtain ⟨lx1_0_0, lx1_0_1, lx1_0_2, lx1_0_3⟩ := lts0 x1_0.lt
  obtain ⟨cx1_1_0, cx1_1_1, cx1_1_2⟩ := x1_1.c3
  obtain ⟨lx1_1_0, lx1_1_1, lx1_1_2, lx1_1_3⟩ := lts1 x1_1.lt
  obtain ⟨cx1_2_0, cx1_2_1, cx1_2_2⟩ := x1_2.c3
  obtain ⟨fx1_2_0, fx1_2_1, fx1_2_2⟩ := x1_2.f3
  obtain ⟨lx1_2_0, lx1_2_1, lx1_2_2, lx1_2_3⟩ := lts2 x1_2.lt
  have nfx1_0_0 : ¬ w.heap.size = w.heap.size + 1 + 1 := by omega
  have nex1_0_0 : ¬ w.heap.size = w.heap.size + 2 := by omega
  have nfx1_1_0 : ¬ w.heap.size + 1 = w.heap.size + 1 + 1 := by omega
  have nex1_1_0 : ¬ w.heap.size = w.heap.size + 1 := by omega
  go_region_held3 (fun w' => SeesX w1.heap.size (w.heap.size + 1 + 1) w1 w') (first | with_reducible exact SeesX.of (Nat.le_refl _) (by assumption) | with_reducible exact SeesX.of (Nat.le_refl _) (brefl _).drew | with_reducible exact (SeesX.set (SeesX.set (SeesX.set (SeesX.of (Nat.le_refl _) (by assumption))))) | with_reducible exact (SeesX.set (SeesX.set (SeesX.of (Nat.le_refl _) (by assumption)))) | with_reducible exact (SeesX.set (SeesX.of (Nat.le_refl _) (by assumption))) | exact SeesX.of (Nat.le_refl _) (below_drewN (brefl _) 1) | exact SeesX.of (Nat.le_refl _) (below_drewN (by assumption) _))
    (first
      | (go_at_call 46; (with_reducible refine (g_neg _ b' A' n' c' D' m' e' (q') (k') ?_ ?_ ?_).mono ?_); (exact h'); (first | omega | decide | assumption); (first | omega | decide | assumption); rintro e w2 ⟨b2, A2, n2, c2, A'2, n'2, c'2, rfl, h2, hb2⟩; replace hb2 := bnext (below_drewN (brefl _) 1) hb2; have q2 : Below w1.heap.size w1 w2 := bnext (brefl w1) hb2; replace h := h.belw hb2; replace h' := h'.belw hb2)
      | (go_at_call 45; (with_reducible refine (g_add _ b A n c D m e (q) (k) ?_ b2 A2 n2 c2 A'2 n'2 c'2 (-(q')) ((k')) ?_ ?_ ?_ ?_ ?_).mono ?_); (exact h); (exact h2.qz); (first | omega | decide | assumption); (first | omega | decide | assumption); (first | omega | decide | assumption); (first | omega | decide | assumption); rintro e w3 ⟨b3, A3, n3, c3, A'3, n'3, c'3, rfl, h3, hb3⟩; have q3 : Below w1.heap.size w1 w3 := bnext q2 hb3; replace h := h.belw hb3; replace h' := h'.belw hb3; replace h2 := h2.belw hb3; have x1_2 : Blk w3 (w.heap.size + 1 + 1) 24 #[.bool false, .slice none 0 0, .slice none 0 0] := x1_2.below q3 x1_2.lt; obtain ⟨cx1_2_0, cx1_2_1, cx1_2_2⟩ := x1_2.c3; obtain ⟨fx1_2_0, fx1_2_1, fx1_2_2⟩ := x1_2.f3))
  have bw3 : Below w.heap.size w w3 := bw1.trans (q3.mono bw1.size)
  clear cx1_0_0 cx1_0_1 cx1_0_2 lx1_0_0 lx1_0_1 lx1_0_2 lx1_0_3 cx1_1_0 cx1_1_1 cx1_1_2 lx1_1_0 lx1_1_1 lx1_1_2 lx1_1_3 cx1_2_0 fx1_2_0 cx1_2_1 fx1_2_1 cx1_2_2 fx1_2_2 lx1_2_0 lx1_2_1 lx1_2_2 lx1_2_3
  replace x1_0 := x1_0.below q3 x1_0.lt
  replace x1_1 := x1_1.below q3 x1_1.lt
  have lw3 : w1.heap.size ≤ w3.heap.size := q3.size
  obtain ⟨cx1_2_0, cx1_2_1, cx1_2_2⟩ := x1_2.c3
  obtain ⟨fx1_2_0, fx1_2_1, fx1_2_2⟩ := x1_2.f3
  go_wp2_with fail
  refine bodyPost_ret (v := .agg #[.bool b3, .slice A3 n3 c3, .slice A'3 n'3 c'3]) (by simp [results, Tryz.results43, go_sem, *] <;> first | rfl | exact ⟨rfl, rfl⟩) rfl ?_
  exact ⟨b3, A3, n3, c3, A'3, n'3, c'3, rfl, h3.keep ((((Kp.refl w3).setB (p := ⟨w.heap.size + 1 + 1, 0, none⟩) x1_2.box (by decide) (.bool b3)).setB (p := ⟨w.heap.size + 1 + 1, 1, none⟩) (x1_2.box.set ⟨w.heap.size + 1 + 1, 0, none⟩ (.bool b3)) (by decide) (.slice A3 n3 c3)).setB (p := ⟨w.heap.size + 1 + 1, 2, none⟩) ((x1_2.box.set ⟨w.heap.size + 1 + 1, 0, none⟩ (.bool b3)).set ⟨w.heap.size + 1 + 1, 1, none⟩ (.slice A3 n3 c3)) (by decide) (.slice A'3 n'3 c'3)), (((bw3.setCell (p := ⟨w.heap.size + 1 + 1, 0, none⟩) (by dsimp only; omega) (.bool b3)).setCell (p := ⟨w.heap.size + 1 + 1, 1, none⟩) (by dsimp only; omega) (.slice A3 n3 c3)).setCell (p := ⟨w.heap.size + 1 + 1, 2, none⟩) (by dsimp only; omega) (.slice A'3 n'3 c'3))⟩
set_option maxRecDepth 100000 in
set_option maxHeartbeats 2000000 in
/-- linkworkref02.Cmp -/
theorem g_cmp (w : World) (b : Bool) (A : Option Addr) (n c : Nat) (D : Option Addr) (m e : Nat) (q : Rat) (k : Nat) (h : QZ w b A n c D m e q k) (b' : Bool) (A' : Option Addr) (n' c' : Nat) (D' : Option Addr) (m' e' : Nat) (q' : Rat) (k' : Nat) (h' : QZ w b' A' n' c' D' m' e' q' k') (h0 : 0 < k) (hk : k ≤ 10000000) (h0' : 0 < k') (hk' : k' ≤ 10000000) :
    Calls Tryz.prog 16 #[.agg #[.bool b, .slice A n c, .slice D m e], .agg #[.bool b', .slice A' n' c', .slice D' m' e']] w (RetV w (.int .i64 (q - q').num.sign)) := by
  go_enter Tryz.func16, Tryz.ntmps16
  go_wp2_with fail
  (with_reducible refine (g_sub _ b A n c D m e (q) (k) ?_ b' A' n' c' D' m' e' (q') (k') ?_ ?_ ?_ ?_ ?_).mono ?_); (exact (h.belw (((Below.refl _ _).alloc (Nat.le_refl _) _).alloc (by simp) _))); (exact (h'.belw (((Below.refl _ _).alloc (Nat.le_refl _) _).alloc (by simp) _))); (first | omega | decide | assumption); (first | omega | decide | assumption); (first | omega | decide | assumption); (first | omega | decide | assumption); rintro e w1 ⟨b1, A1, n1, c1, A'1, n'1, c'1, rfl, h1, hb1⟩
  have q1 : Below w.heap.size w w1 := (((Below.refl _ _).alloc (Nat.le_refl _) _).alloc (by simp) _).trans (hb1.mono (by simp <;> omega))
  replace h := h.belw q1
  replace h' := h'.belw q1
  have x1_0 : Blk w1 (w.heap.size) 24 #[.bool b, .slice A n c, .slice D m e] := ((blkAt _ _ _ (by simp)).alloc _).below hb1 (by simp <;> omega)
  have x1_1 : Blk w1 (w.heap.size + 1) 24 #[.bool b', .slice A' n' c', .slice D' m' e'] := (blkAt _ _ _ (by simp)).below hb1 (by simp)
  have bw1 : Below w.heap.size w w1 := (brefl w).trans (q1.mono (brefl w).size)
  have lw1 : w.heap.size + 2 ≤ w1.heap.size := by have := hb1.size; simp at this; omega
  clear hb1 q1
  go_wp2_with fail
  (with_reducible refine (g_sign _ b1 A1 n1 c1 A'1 n'1 c'1 ((q) - (q')) ((k) + (k') + 1) ?_ ?_ ?_).mono ?_); (exact h1.qz); (first | omega | decide | assumption); (first | omega | decide | assumption); rintro e w2 ⟨rfl, hb2⟩
  have q2 : Below w1.heap.size w1 w2 := hb2
  replace h := h.belw q2
  replace h' := h'.belw q2
  replace h1 := h1.belw q2
  replace x1_0 := x1_0.below q2 x1_0.lt
  replace x1_1 := x1_1.below q2 x1_1.lt
  have bw2 : Below w.heap.size w w2 := bw1.trans (q2.mono bw1.size)
  have lw2 : w1.heap.size ≤ w2.heap.size := q2.size
  clear hb2 q2 bw1
  go_wp2_with fail
  go_ret
  exact retI rfl bw2
set_option maxRecDepth 100000 in
set_option maxHeartbeats 2000000 in
/-- linkworkref02.From -/
theorem g_from (w : World) (b : Bool) (A : Option Addr) (n c : Nat) (z : Int) (k : Nat) (h : IZ w b A n c z k) (b' : Bool) (A' : Option Addr) (n' c' : Nat) (z' : Int) (k' : Nat) (h' : IZ w b' A' n' c' z' k') (q : Rat) (K : Nat) (hd : z' ≠ 0) (hq : Rat.divInt z z' = q) (hs : Sz q K) (hk : k + k' ≤ 300000000) :
    Calls Tryz.prog 77 #[.agg #[.bool b, .slice A n c], .agg #[.bool b', .slice A' n' c']] w (RetFe w (.int .i64 0) q K) := by
  obtain ⟨s, hs1⟩ : ∃ s, z'.sign = s := ⟨_, rfl⟩
  have e0 : ((s : Int) == 0) = false := by simp; rintro rfl; exact hd (Int.sign_eq_zero_iff_zero.1 hs1)
  have HS1 := Lib.hid hs1
  have HD := Lib.hid hd
  have HQ := Lib.hid hq
  have HS := Lib.hid hs
  clear hs1 hd hq hs
  go_enter Tryz.func77, Tryz.ntmps77
  go_wp2_with fail
  (with_reducible refine (r01_sign_e _ b' A' n' c' (z') (k') ?_ s ?_ ?_).mono ?_); (exact (h'.belw ((((Below.refl _ _).alloc (Nat.le_refl _) _).alloc (by simp) _).alloc (by simp <;> omega) _))); (exact HS1.out); (omega); rintro e w1 ⟨rfl, hb1⟩
  have q1 : Below w.heap.size w w1 := ((((Below.refl _ _).alloc (Nat.le_refl _) _).alloc (by simp) _).alloc (by simp <;> omega) _).trans (hb1.mono (by simp <;> omega))
  replace h := h.belw q1
  replace h' := h'.belw q1
  have x1_0 : Blk w1 (w.heap.size) 77 #[.bool b, .slice A n c] := (((blkAt _ _ _ (by simp)).alloc _).alloc _).below hb1 (by simp <;> omega)
  have x1_1 : Blk w1 (w.heap.size + 1) 77 #[.bool b', .slice A' n' c'] := ((blkAt _ _ _ (by simp)).alloc _).below hb1 (by simp <;> omega)
  have x1_2 : Blk w1 (w.heap.size + 1 + 1) 24 #[.bool false, .slice none 0 0, .slice none 0 0] := (blkAt _ _ _ (by simp)).below hb1 (by simp)
  have bw1 : Below w.heap.size w w1 := (brefl w).trans (q1.mono (brefl w).size)
  have lw1 : w.heap.size + 3 ≤ w1.heap.size := by have := hb1.size; simp at this; omega
  clear hb1 q1
  obtain ⟨cx1_0_0, cx1_0_1⟩ := x1_0.c2
  obtain ⟨lx1_0_0, lx1_0_1, lx1_0_2, lx1_0_3⟩ := lts0 x1_0.lt
  obtain ⟨cx1_1_0, cx1_1_1⟩ := x1_1.c2
  obtain ⟨lx1_1_0, lx1_1_1, lx1_1_2, lx1_1_3⟩ := lts1 x1_1.lt
  go_wp2_with fail
  (with_reducible refine (g_form _ b A n c (z) (k) ?_ b' A' n' c' (z') (k') ?_ q K ?_ ?_ ?_ ?_).mono ?_); (exact h); (exact h'); (exact HD.out); (exact HQ.out); (exact HS.out); (omega); rintro e w2 ⟨b2, A2, n2, c2, A'2, n'2, c'2, rfl, h2, hb2⟩
  clear cx1_0_0 cx1_0_1 lx1_0_0 lx1_0_1 lx1_0_2 lx1_0_3 cx1_1_0 cx1_1_1 lx1_1_0 lx1_1_1 lx1_1_2 lx1_1_3
  have q2 : Below w1.heap.size w1 w2 := hb2
  replace h := h.belw q2
  replace h' := h'.belw q2
  replace x1_0 := x1_0.below q2 x1_0.lt
  replace x1_1 := x1_1.below q2 x1_1.lt
  replace x1_2 := x1_2.below q2 x1_2.lt
  have bw2 : Below w.heap.size w w2 := bw1.trans (q2.mono bw1.size)
  have lw2 : w1.heap.size ≤ w2.heap.size := q2.size
  clear hb2 q2 bw1
  obtain ⟨cx1_2_0, cx1_2_1, cx1_2_2⟩ := x1_2.c3
  obtain ⟨fx1_2_0, fx1_2_1, fx1_2_2⟩ := x1_2.f3
  obtain ⟨lx1_2_0, lx1_2_1, lx1_2_2, lx1_2_3⟩ := lts2 x1_2.lt
  go_wp2_with fail
  refine bodyPost_ret (v := .tuple #[.agg #[.bool b2, .slice A2 n2 c2, .slice A'2 n'2 c'2], .int .i64 0]) (by simp [results, Tryz.results77, go_sem, *] <;> first | rfl | exact ⟨rfl, rfl⟩) rfl ?_
  exact ⟨b2, A2, n2, c2, A'2, n'2, c'2, rfl, h2.keep ((((Kp.refl w2).setB (p := ⟨w.heap.size + 1 + 1, 0, none⟩) x1_2.box (by decide) (.bool b2)).setB (p := ⟨w.heap.size + 1 + 1, 1, none⟩) (x1_2.box.set ⟨w.heap.size + 1 + 1, 0, none⟩ (.bool b2)) (by decide) (.slice A2 n2 c2)).setB (p := ⟨w.heap.size + 1 + 1, 2, none⟩) ((x1_2.box.set ⟨w.heap.size + 1 + 1, 0, none⟩ (.bool b2)).set ⟨w.heap.size + 1 + 1, 1, none⟩ (.slice A2 n2 c2)) (by decide) (.slice A'2 n'2 c'2)), (((bw2.setCell (p := ⟨w.heap.size + 1 + 1, 0, none⟩) (by dsimp only; omega) (.bool b2)).setCell (p := ⟨w.heap.size + 1 + 1, 1, none⟩) (by dsimp only; omega) (.slice A2 n2 c2)).setCell (p := ⟨w.heap.size + 1 + 1, 2, none⟩) (by dsimp only; omega) (.slice A'2 n'2 c'2))⟩
set_option maxRecDepth 100000 in
set_option maxHeartbeats 2000000 in
/-- linkworkref02.Make -/
theorem g_make (w : World) (i j : Int) (hi : -4294967296 < i) (hi2 : i < 4294967296) (hj : -4294967296 < j) (hj2 : j < 4294967296) (q : Rat) (K : Nat) (hd : j ≠ 0) (hq : Rat.divInt i j = q) (hs : Sz q K) :
    Calls Tryz.prog 51 #[.int .i64 i, .int .i64 j] w (RetFe w (.int .i64 0) q K) := by
  have HD := Lib.hid hd
  have HQ := Lib.hid hq
  have HS := Lib.hid hs
  clear hd hq hs
  go_enter Tryz.func51, Tryz.ntmps51
  go_wp2_with fail
  (with_reducible refine (r01_of1 _ (i) ?_ ?_).mono ?_); (first | omega | decide | assumption); (first | omega | decide | assumption); rintro e w1 ⟨b1, A1, n1, c1, rfl, h1, hb1⟩
  have q1 : Below w.heap.size w w1 := ((Below.refl _ _).alloc (Nat.le_refl _) _).trans (hb1.mono (by simp))
  have x1_0 : Blk w1 (w.heap.size) 24 #[.bool false, .slice none 0 0, .slice none 0 0] := (blkAt _ _ _ (by simp)).below hb1 (by simp)
  have bw1 : Below w.heap.size w w1 := (brefl w).trans (q1.mono (brefl w).size)
  have lw1 : w.heap.size + 1 ≤ w1.heap.size := by have := hb1.size; simp at this; omega
  clear hb1 q1
  go_wp2_with fail
  (with_reducible refine (r01_of1 _ (j) ?_ ?_).mono ?_); (first | omega | decide | assumption); (first | omega | decide | assumption); rintro e w2 ⟨b2, A2, n2, c2, rfl, h2, hb2⟩
  have q2 : Below w1.heap.size w1 w2 := hb2
  replace h1 := h1.belw q2
  replace x1_0 := x1_0.below q2 x1_0.lt
  have bw2 : Below w.heap.size w w2 := bw1.trans (q2.mono bw1.size)
  have lw2 : w1.heap.size ≤ w2.heap.size := q2.size
  clear hb2 q2 bw1
  go_wp2_with fail
  (with_reducible refine (g_from _ b1 A1 n1 c1 (i) (1) ?_ b2 A2 n2 c2 (j) (1) ?_ q K ?_ ?_ ?_ ?_).mono ?_); (exact h1.iz); (exact h2.iz); (exact HD.out); (exact HQ.out); (exact HS.out); (decide); rintro e w3 ⟨b3, A3, n3, c3, A'3, n'3, c'3, rfl, h3, hb3⟩
  have q3 : Below w2.heap.size w2 w3 := hb3
  replace h1 := h1.belw q3
  replace h2 := h2.belw q3
  replace x1_0 := x1_0.below q3 x1_0.lt
  have bw3 : Below w.heap.size w w3 := bw2.trans (q3.mono bw2.size)
  have lw3 : w2.heap.size ≤ w3.heap.size := q3.size
  clear hb3 q3 bw2
  obtain ⟨cx1_0_0, cx1_0_1, cx1_0_2⟩ := x1_0.c3
  obtain ⟨fx1_0_0, fx1_0_1, fx1_0_2⟩ := x1_0.f3
  obtain ⟨lx1_0_0, lx1_0_1, lx1_0_2, lx1_0_3⟩ := lts0 x1_0.lt
  go_wp2_with fail
  refine bodyPost_ret (v := .tuple #[.agg #[.bool b3, .slice A3 n3 c3, .slice A'3 n'3 c'3], .int .i64 0]) (by simp [results, Tryz.results51, go_sem, *] <;> first | rfl | exact ⟨rfl, rfl⟩) rfl ?_
  exact ⟨b3, A3, n3, c3, A'3, n'3, c'3, rfl, h3.keep ((((Kp.refl w3).setB (p := ⟨w.heap.size, 0, none⟩) x1_0.box (by decide) (.bool b3)).setB (p := ⟨w.heap.size, 1, none⟩) (x1_0.box.set ⟨w.heap.size, 0, none⟩ (.bool b3)) (by decide) (.slice A3 n3 c3)).setB (p := ⟨w.heap.size, 2, none⟩) ((x1_0.box.set ⟨w.heap.size, 0, none⟩ (.bool b3)).set ⟨w.heap.size, 1, none⟩ (.slice A3 n3 c3)) (by decide) (.slice A'3 n'3 c'3)), (((bw3.setCell (p := ⟨w.heap.size, 0, none⟩) (by dsimp only; omega) (.bool b3)).setCell (p := ⟨w.heap.size, 1, none⟩) (by dsimp only; omega) (.slice A3 n3 c3)).setCell (p := ⟨w.heap.size, 2, none⟩) (by dsimp only; omega) (.slice A'3 n'3 c'3))⟩
end Go.Proofs.YtmneloabphplmaaGreat

/- Walks: turns. -/
namespace Go.Proofs.YtmneloabphplmaaGreat
open Go Go.RowKit Bn
attribute [local go_sem ↓] Go.wp_at_zero Go.wp_at_succ
set_option maxRecDepth 100000 in
set_option maxHeartbeats 2000000 in
/-- turn.over -/
theorem t_over (w : World) (b : Bool) (A : Option Addr) (n c : Nat) (D : Option Addr) (m e : Nat) (q : Rat) (k : Nat) (h : QZ w b A n c D m e q k) (b' : Bool) (A' : Option Addr) (n' c' : Nat) (D' : Option Addr) (m' e' : Nat) (q' : Rat) (k' : Nat) (h' : QZ w b' A' n' c' D' m' e' q' k') (h0 : 0 < k) (hk : k ≤ 40000000) (h0' : 0 < k') (hk' : k' ≤ 40000000) (hne : q' ≠ 0) :
    Calls Tryz.prog 35 #[.agg #[.bool b, .slice A n c, .slice D m e], .agg #[.bool b', .slice A' n' c', .slice D' m' e']] w (RetF w (q / q') (k + k')) := by
  have HN := Lib.hid hne
  clear hne
  go_enter Tryz.func35, Tryz.ntmps35
  go_wp2_with fail
  (with_reducible refine (f_div _ b A n c D m e (q) (k) ?_ b' A' n' c' D' m' e' (q') (k') ?_ ?_ ?_ ?_ ?_ ?_).mono ?_); (exact (h.belw ((((Below.refl _ _).alloc (Nat.le_refl _) _).alloc (by simp) _).alloc (by simp <;> omega) _))); (exact (h'.belw ((((Below.refl _ _).alloc (Nat.le_refl _) _).alloc (by simp) _).alloc (by simp <;> omega) _))); (first | omega | decide | assumption); (first | omega | decide | assumption); (first | omega | decide | assumption); (first | omega | decide | assumption); (exact HN.out); rintro e w1 ⟨b1, A1, n1, c1, A'1, n'1, c'1, rfl, h1, hb1⟩
  have q1 : Below w.heap.size w w1 := ((((Below.refl _ _).alloc (Nat.le_refl _) _).alloc (by simp) _).alloc (by simp <;> omega) _).trans (hb1.mono (by simp <;> omega))
  replace h := h.belw q1
  replace h' := h'.belw q1
  have x1_0 : Blk w1 (w.heap.size) 24 #[.bool b, .slice A n c, .slice D m e] := (((blkAt _ _ _ (by simp)).alloc _).alloc _).below hb1 (by simp <;> omega)
  have x1_1 : Blk w1 (w.heap.size + 1) 24 #[.bool b', .slice A' n' c', .slice D' m' e'] := ((blkAt _ _ _ (by simp)).alloc _).below hb1 (by simp <;> omega)
  have x1_2 : Blk w1 (w.heap.size + 1 + 1) 24 #[.bool false, .slice none 0 0, .slice none 0 0] := (blkAt _ _ _ (by simp)).below hb1 (by simp)
  have bw1 : Below w.heap.size w w1 := (brefl w).trans (q1.mono (brefl w).size)
  have lw1 : w.heap.size + 3 ≤ w1.heap.size := by have := hb1.size; simp at this; omega
  clear hb1 q1
  obtain ⟨cx1_2_0, cx1_2_1, cx1_2_2⟩ := x1_2.c3
  obtain ⟨fx1_2_0, fx1_2_1, fx1_2_2⟩ := x1_2.f3
  obtain ⟨lx1_2_0, lx1_2_1, lx1_2_2, lx1_2_3⟩ := lts2 x1_2.lt
  go_wp2_with fail
  refine bodyPost_ret (v := .agg #[.bool b1, .slice A1 n1 c1, .slice A'1 n'1 c'1]) (by simp [results, Tryz.results35, go_sem, *] <;> first | rfl | exact ⟨rfl, rfl⟩) rfl ?_
  exact ⟨b1, A1, n1, c1, A'1, n'1, c'1, rfl, h1.keep (((((Kp.refl w1).setB (p := ⟨w.heap.size + 1 + 1, 0, none⟩) x1_2.box (by decide) (.bool b1)).setB (p := ⟨w.heap.size + 1 + 1, 1, none⟩) (x1_2.box.set ⟨w.heap.size + 1 + 1, 0, none⟩ (.bool b1)) (by decide) (.slice A1 n1 c1)).setB (p := ⟨w.heap.size + 1 + 1, 2, none⟩) ((x1_2.box.set ⟨w.heap.size + 1 + 1, 0, none⟩ (.bool b1)).set ⟨w.heap.size + 1 + 1, 1, none⟩ (.slice A1 n1 c1)) (by decide) (.slice A'1 n'1 c'1)).alloc (.cells #[.bool b1, .slice A1 n1 c1, .slice A'1 n'1 c'1] 24)), ((((bw1.setCell (p := ⟨w.heap.size + 1 + 1, 0, none⟩) (by dsimp only; omega) (.bool b1)).setCell (p := ⟨w.heap.size + 1 + 1, 1, none⟩) (by dsimp only; omega) (.slice A1 n1 c1)).setCell (p := ⟨w.heap.size + 1 + 1, 2, none⟩) (by dsimp only; omega) (.slice A'1 n'1 c'1)).alloc (by first | omega | (simp <;> omega)) (.cells #[.bool b1, .slice A1 n1 c1, .slice A'1 n'1 c'1] 24))⟩
set_option maxRecDepth 100000 in
set_option maxHeartbeats 2000000 in
/-- turn.half -/
theorem t_half (w : World)  :
    Calls Tryz.prog 32 #[] w (RetT w thalf 1) := by
  go_enter Tryz.func32, Tryz.ntmps32
  go_wp2_with fail
  refine bodyPost_ret (v := .agg #[.bool false, .slice none 0 0, .slice none 0 0, .bool true]) (by simp [results, Tryz.results32, go_sem, *] <;> first | rfl | exact ⟨rfl, rfl⟩) rfl ?_
  exact ⟨false, none, 0, 0, none, 0, 0, true, rfl, ⟨QV.zero _ _, rfl, fun _ => rfl⟩, (Below.refl _ _).alloc (Nat.le_refl _) _⟩
theorem f_sign_e (w : World) (b : Bool) (A : Option Addr) (n c : Nat) (D : Option Addr) (m e : Nat) (q : Rat) (k : Nat) (h : QZ w b A n c D m e q k) (s : Int) (hs : q.num.sign = s) (h0 : 0 < k) (hk : k ≤ 40000000) : Calls Tryz.prog 34 #[.agg #[.bool b, .slice A n c, .slice D m e]] w (RetV w (.int .i64 s)) := by subst hs; exact f_sign w b A n c D m e q k h h0 hk
set_option maxRecDepth 100000 in
set_option maxHeartbeats 2000000 in
/-- turn.Check -/
theorem t_check_false (w : World) (b : Bool) (A : Option Addr) (n c : Nat) (D : Option Addr) (m e : Nat) (t : TN) (k : Nat) (h : TK w b A n c D m e false t k) (h0 : 0 < k) (hk : k ≤ 1000000) :
    Calls Tryz.prog 36 #[.agg #[.bool b, .slice A n c, .slice D m e, .bool false]] w (RetV w .nilIface) := by
  obtain ⟨⟨a, ha, hq, ho⟩, hx, hok⟩ := id h
  have HO := Lib.hid ho
  have HQ := Lib.hid (show (t.t).num.sign = 0 ∨ t.h = false by cases hh : t.h; exact .inr rfl; exact .inl (by rw [hok hh]; rfl))
  have HX := Lib.hid hx
  clear hq ho hx hok
  go_enter Tryz.func36, Tryz.ntmps36
  go_wp2_with fail
  (with_reducible refine (f_valid_e _ b A n c D m e a k true ?_ ?_ ?_).mono ?_); (exact ha.belw ((Below.refl _ _).alloc (Nat.le_refl _) _)); (omega); (exact HO.out); rintro e w1 ⟨rfl, hb1⟩
  have q1 : Below w.heap.size w w1 := ((Below.refl _ _).alloc (Nat.le_refl _) _).trans (hb1.mono (by simp))
  replace h := h.belw q1
  replace ha := ha.belw q1
  have x1_0 : Blk w1 (w.heap.size) 26 #[.bool b, .slice A n c, .slice D m e, .bool false] := (blkAt _ _ _ (by simp)).below hb1 (by simp)
  have bw1 : Below w.heap.size w w1 := (brefl w).trans (q1.mono (brefl w).size)
  have lw1 : w.heap.size + 1 ≤ w1.heap.size := by have := hb1.size; simp at this; omega
  clear hb1 q1
  obtain ⟨cx1_0_0, cx1_0_1, cx1_0_2, cx1_0_3⟩ := x1_0.c4
  obtain ⟨lx1_0_0, lx1_0_1, lx1_0_2, lx1_0_3⟩ := lts0 x1_0.lt
  go_wp2_with fail
  go_ret
  exact ⟨rfl, bw1⟩
set_option maxRecDepth 100000 in
set_option maxHeartbeats 2000000 in
/-- turn.Check -/
theorem t_check_true (w : World) (b : Bool) (A : Option Addr) (n c : Nat) (D : Option Addr) (m e : Nat) (t : TN) (k : Nat) (h : TK w b A n c D m e true t k) (h0 : 0 < k) (hk : k ≤ 1000000) :
    Calls Tryz.prog 36 #[.agg #[.bool b, .slice A n c, .slice D m e, .bool true]] w (RetV w .nilIface) := by
  obtain ⟨⟨a, ha, hq, ho⟩, hx, hok⟩ := id h
  have HO := Lib.hid ho
  have HQ := Lib.hid (show (t.t).num.sign = 0 ∨ t.h = false by cases hh : t.h; exact .inr rfl; exact .inl (by rw [hok hh]; rfl))
  have HX := Lib.hid hx
  clear hq ho hx hok
  go_enter Tryz.func36, Tryz.ntmps36
  go_wp2_with fail
  (with_reducible refine (f_valid_e _ b A n c D m e a k true ?_ ?_ ?_).mono ?_); (exact ha.belw ((Below.refl _ _).alloc (Nat.le_refl _) _)); (omega); (exact HO.out); rintro e w1 ⟨rfl, hb1⟩
  have q1 : Below w.heap.size w w1 := ((Below.refl _ _).alloc (Nat.le_refl _) _).trans (hb1.mono (by simp))
  replace h := h.belw q1
  replace ha := ha.belw q1
  have x1_0 : Blk w1 (w.heap.size) 26 #[.bool b, .slice A n c, .slice D m e, .bool true] := (blkAt _ _ _ (by simp)).below hb1 (by simp)
  have bw1 : Below w.heap.size w w1 := (brefl w).trans (q1.mono (brefl w).size)
  have lw1 : w.heap.size + 1 ≤ w1.heap.size := by have := hb1.size; simp at this; omega
  clear hb1 q1
  obtain ⟨cx1_0_0, cx1_0_1, cx1_0_2, cx1_0_3⟩ := x1_0.c4
  obtain ⟨lx1_0_0, lx1_0_1, lx1_0_2, lx1_0_3⟩ := lts0 x1_0.lt
  go_wp2_with fail
  (with_reducible refine (f_sign_e _ b A n c D m e ((t).t) (k) ?_ 0 ?_ ?_ ?_).mono ?_); (exact h.qz); (exact HQ.out.resolve_right (by rw [← HX.out]; decide)); (omega); (omega); rintro e w2 ⟨rfl, hb2⟩
  clear cx1_0_0 cx1_0_1 cx1_0_2 cx1_0_3 lx1_0_0 lx1_0_1 lx1_0_2 lx1_0_3
  have q2 : Below w1.heap.size w1 w2 := hb2
  replace h := h.belw q2
  replace ha := ha.belw q2
  replace x1_0 := x1_0.below q2 x1_0.lt
  have bw2 : Below w.heap.size w w2 := bw1.trans (q2.mono bw1.size)
  have lw2 : w1.heap.size ≤ w2.heap.size := q2.size
  clear hb2 q2 bw1
  go_wp2_with fail
  go_ret
  exact ⟨rfl, bw2⟩
theorem t_check (w : World) (b : Bool) (A : Option Addr) (n c : Nat) (D : Option Addr) (m e : Nat) (x : Bool) (t : TN) (k : Nat) (h : TK w b A n c D m e x t k) (h0 : 0 < k) (hk : k ≤ 1000000) : Calls Tryz.prog 36 #[.agg #[.bool b, .slice A n c, .slice D m e, .bool x]] w (RetV w .nilIface) := by
  cases x
  · exact t_check_false w b A n c D m e t k h h0 hk
  · exact t_check_true w b A n c D m e t k h h0 hk
set_option maxRecDepth 100000 in
set_option maxHeartbeats 4000000 in
/-- turn.direction -/
theorem t_direction_false (w : World) (b : Bool) (A : Option Addr) (n c : Nat) (D : Option Addr) (m e : Nat) (t : TN) (k : Nat) (h : TK w b A n c D m e false t k) (h0 : 0 < k) (hk : k ≤ 1000000) :
    Calls Tryz.prog 37 #[.agg #[.bool b, .slice A n c, .slice D m e, .bool false]] w (RetQQ w (tcos t) (tsin t) (4 * k + 4)) := by
  have HNE := Lib.hid (show ((1 : Int) : Rat) + t.t * t.t ≠ 0 from one_add_sq t.t)
  have HC := Lib.hid (show (((1 : Int) : Rat) - t.t * t.t) / (((1 : Int) : Rat) + t.t * t.t) = tcos t by unfold tcos; rw [if_neg (by rw [← h.2.1]; decide)]; rfl)
  have HS := Lib.hid (show (t.t + t.t) / (((1 : Int) : Rat) + t.t * t.t) = tsin t by unfold tsin; rw [if_neg (by rw [← h.2.1]; decide)]; rfl)
  go_enter Tryz.func37, Tryz.ntmps37
  go_wp2_with fail
  have p1 : Kp w (((w.alloc (.cells #[.bool b, .slice A n c, .slice D m e, .bool false] 26)).alloc (.cells #[.bool false, .slice none 0 0, .slice none 0 0] 24)).alloc (.cells #[.bool false, .slice none 0 0, .slice none 0 0] 24)) := ((((Kp.refl w).alloc (.cells #[.bool b, .slice A n c, .slice D m e, .bool false] 26)).alloc (.cells #[.bool false, .slice none 0 0, .slice none 0 0] 24)).alloc (.cells #[.bool false, .slice none 0 0, .slice none 0 0] 24))
  have bw1 : Below w.heap.size w (((w.alloc (.cells #[.bool b, .slice A n c, .slice D m e, .bool false] 26)).alloc (.cells #[.bool false, .slice none 0 0, .slice none 0 0] 24)).alloc (.cells #[.bool false, .slice none 0 0, .slice none 0 0] 24)) := ((((brefl w).alloc (by first | omega | (simp <;> omega)) (.cells #[.bool b, .slice A n c, .slice D m e, .bool false] 26)).alloc (by first | omega | (simp <;> omega)) (.cells #[.bool false, .slice none 0 0, .slice none 0 0] 24)).alloc (by first | omega | (simp <;> omega)) (.cells #[.bool false, .slice none 0 0, .slice none 0 0] 24))
  have x1_0 : Blk (((w.alloc (.cells #[.bool b, .slice A n c, .slice D m e, .bool false] 26)).alloc (.cells #[.bool false, .slice none 0 0, .slice none 0 0] 24)).alloc (.cells #[.bool false, .slice none 0 0, .slice none 0 0] 24)) (w.heap.size) 26 #[.bool b, .slice A n c, .slice D m e, .bool false] := (((blkAt _ _ _ (by simp)).alloc (.cells #[.bool false, .slice none 0 0, .slice none 0 0] 24)).alloc (.cells #[.bool false, .slice none 0 0, .slice none 0 0] 24))
  have x1_1 : Blk (((w.alloc (.cells #[.bool b, .slice A n c, .slice D m e, .bool false] 26)).alloc (.cells #[.bool false, .slice none 0 0, .slice none 0 0] 24)).alloc (.cells #[.bool false, .slice none 0 0, .slice none 0 0] 24)) (w.heap.size + 1) 24 #[.bool false, .slice none 0 0, .slice none 0 0] := ((blkAt _ _ _ (by simp)).alloc (.cells #[.bool false, .slice none 0 0, .slice none 0 0] 24))
  have x1_2 : Blk (((w.alloc (.cells #[.bool b, .slice A n c, .slice D m e, .bool false] 26)).alloc (.cells #[.bool false, .slice none 0 0, .slice none 0 0] 24)).alloc (.cells #[.bool false, .slice none 0 0, .slice none 0 0] 24)) (w.heap.size + 1 + 1) 24 #[.bool false, .slice none 0 0, .slice none 0 0] := (blkAt _ _ _ (by simp))
  have lw1 : w.heap.size + 3 ≤ (((w.alloc (.cells #[.bool b, .slice A n c, .slice D m e, .bool false] 26)).alloc (.cells #[.bool false, .slice none 0 0, .slice none 0 0] 24)).alloc (.cells #[.bool false, .slice none 0 0, .slice none 0 0] 24)).heap.size := by simp
  generalize hE1 : (((w.alloc (.cells #[.bool b, .slice A n c, .slice D m e, .bool false] 26)).alloc (.cells #[.bool false, .slice none 0 0, .slice none 0 0] 24)).alloc (.cells #[.bool false, .slice none 0 0, .slice none 0 0] 24)) = w1 at p1 bw1 lw1 x1_0 x1_1 x1_2 ⊢
  clear hE1
  replace h := h.keep p1
  obtain ⟨cx1_0_0, cx1_0_1, cx1_0_2, cx1_0_3⟩ := x1_0.c4
  obtain ⟨lx1_0_0, lx1_0_1, lx1_0_2, lx1_0_3⟩ := lts0 x1_0.lt
  refine wp_region_lin (B := w.heap.size) (fr := fun xf => ⟨#[.agg #[.bool b, .slice A n c, .slice D m e, .bool false], .pointer (some ⟨w.heap.size, 0, none⟩), .pointer (some ⟨w.heap.size + 1, 0, none⟩), .pointer (some ⟨w.heap.size + 1 + 1, 0, none⟩), xf 6, xf 7, undef, .pointer (some ⟨w.heap.size, 3, none⟩), .bool false, undef, undef, xf 0, xf 1, xf 2, xf 3, xf 4, xf 5, undef, undef, undef, undef, undef, undef, undef, undef, undef, undef, undef, undef, undef, undef, undef], []⟩) (R := fun i => List.getD [VQ (((1 : Int) : Rat)) (1), PEq (.pointer (some ⟨w.heap.size, 0, none⟩)), PEq (.agg #[.bool b, .slice A n c, .slice D m e]), PEq (.pointer (some ⟨w.heap.size, 0, none⟩)), PEq (.agg #[.bool b, .slice A n c, .slice D m e]), VQ (((t).t) * ((t).t)) ((k) + (k)), PAny, PAny, PAny, PAny] i (fun _ _ => True)) (es := [⟨6, 8, 24, #[.bool false, .slice none 0 0, .slice none 0 0], CQ (((1 : Int) : Rat)) (1)⟩, ⟨7, 9, 24, #[.bool false, .slice none 0 0, .slice none 0 0], CQ (((t).t) * ((t).t)) ((k) + (k))⟩]) (ow := [⟨w.heap.size, 10, 0, 26, #[.bool b, .slice A n c, .slice D m e, .bool false], CAny⟩, ⟨w.heap.size + 1, 10, 0, 24, #[.bool false, .slice none 0 0, .slice none 0 0], CAny⟩, ⟨w.heap.size + 1 + 1, 10, 0, 24, #[.bool false, .slice none 0 0, .slice none 0 0], CAny⟩]) (x0 := fun _ => undef) (by kernel_rfl)
    (each_of ⟨fun _ _ => rfl, fun _ _ => rfl, fun _ _ => rfl, fun _ _ => rfl, fun _ _ => rfl, fun _ _ => rfl, fun _ _ => rfl, fun _ _ => rfl, fun _ _ => rfl, fun _ _ => rfl, trivial⟩) (each_of (acyc_from _ 0 (by kernel_rfl))) (AllStab.get _ ⟨stQ _ _, stEq _, stEq _, stEq _, stEq _, stQ _ _, stAny, stAny, stAny, stAny, trivial⟩)
    (List.forall_mem_cons.2 ⟨scQ _ _, List.forall_mem_cons.2 ⟨scQ _ _, fun _ h => nomatch h⟩⟩) (List.forall_mem_cons.2 ⟨scAny, List.forall_mem_cons.2 ⟨scAny, List.forall_mem_cons.2 ⟨scAny, fun _ h => nomatch h⟩⟩⟩) (List.forall_mem_cons.2 ⟨⟨by simp, by simp⟩, List.forall_mem_cons.2 ⟨⟨by simp, by simp⟩, fun _ h => nomatch h⟩⟩) bw1.size
    (List.forall_mem_cons.2 ⟨⟨x1_0, by show w.heap.size ≤ w.heap.size; omega⟩, List.forall_mem_cons.2 ⟨⟨x1_1, by show w.heap.size ≤ w.heap.size + 1; omega⟩, List.forall_mem_cons.2 ⟨⟨x1_2, by show w.heap.size ≤ w.heap.size + 1 + 1; omega⟩, fun _ h => nomatch h⟩⟩⟩) (ownDist (by simp <;> omega))
    (each_of ⟨?_, ?_, ?_, ?_, ?_, ?_, ?_, ?_, ?_, ?_, trivial⟩) ?_
  · exact .inl ⟨by simp, by simp, fun xf wq hk hbl hd K hK => by
      (try dsimp only)
      go_simp
      go_at_call 33
      (with_reducible refine (f_of _ (1) ?_ ?_).mono ?_); (first | omega | decide | assumption); (first | omega | decide | assumption); rintro e wr ⟨b3, A3, n3, c3, A'3, n'3, c'3, rfl, h3, hbr⟩
      exact hK.out _ _ ⟨b3, A3, n3, c3, A'3, n'3, c'3, rfl, h3⟩ hbr⟩
  · exact .inl ⟨by simp, by simp, fun xf wq hk hbl hd K hK => by
      (try dsimp only)
      go_simp
      exact hK.out (.pointer (some ⟨w.heap.size, 0, none⟩)) _ rfl (brefl _)⟩
  · exact .inl ⟨by simp, by simp, fun xf wq hk hbl hd K hK => by
      have d1 : xf 1 = .pointer (some ⟨w.heap.size, 0, none⟩) := hd ⟨1, .data⟩ (by simp) rfl
      have y : Blk wq (w.heap.size) 26 #[.bool b, .slice A n c, .slice D m e, .bool false] := hbl _ (List.Mem.head _) (by simp [Region.binds])
      obtain ⟨c0, c1, c2, c3⟩ := y.c4
      (try dsimp only); (try simp only [d1])
      go_simp
      have hz := hK.out (.agg #[.bool b, .slice A n c, .slice D m e]) _ rfl (brefl _)
      simp only [d1] at hz
      exact hz⟩
  · exact .inl ⟨by simp, by simp, fun xf wq hk hbl hd K hK => by
      (try dsimp only)
      go_simp
      exact hK.out (.pointer (some ⟨w.heap.size, 0, none⟩)) _ rfl (brefl _)⟩
  · exact .inl ⟨by simp, by simp, fun xf wq hk hbl hd K hK => by
      have d3 : xf 3 = .pointer (some ⟨w.heap.size, 0, none⟩) := hd ⟨3, .data⟩ (by simp) rfl
      have y : Blk wq (w.heap.size) 26 #[.bool b, .slice A n c, .slice D m e, .bool false] := hbl _ (List.Mem.head _) (by simp [Region.binds])
      obtain ⟨c0, c1, c2, c3⟩ := y.c4
      (try dsimp only); (try simp only [d3])
      go_simp
      have hz := hK.out (.agg #[.bool b, .slice A n c, .slice D m e]) _ rfl (brefl _)
      simp only [d3] at hz
      exact hz⟩
  · exact .inl ⟨by simp, by simp, fun xf wq hk hbl hd K hK => by
      have d2 : xf 2 = .agg #[.bool b, .slice A n c, .slice D m e] := hd ⟨2, .data⟩ (by simp) rfl
      have d4 : xf 4 = .agg #[.bool b, .slice A n c, .slice D m e] := hd ⟨4, .data⟩ (by simp) rfl
      (try dsimp only); (try simp only [d2, d4])
      go_simp
      go_at_call 39
      (with_reducible refine (f_mul _ b A n c D m e ((t).t) (k) ?_ b A n c D m e ((t).t) (k) ?_ ?_ ?_ ?_ ?_).mono ?_); (exact (h.keep hk).qz); (exact (h.keep hk).qz); (first | omega | decide | assumption); (first | omega | decide | assumption); (first | omega | decide | assumption); (first | omega | decide | assumption); rintro e wr ⟨b4, A4, n4, c4, A'4, n'4, c'4, rfl, h4, hbr⟩
      have hz := hK.out _ _ ⟨b4, A4, n4, c4, A'4, n'4, c'4, rfl, h4⟩ hbr
      simp only [d2, d4] at hz
      exact hz⟩
  · exact .inr (.inl ⟨⟨6, 8, 24, #[.bool false, .slice none 0 0, .slice none 0 0], CQ (((1 : Int) : Rat)) (1)⟩, by simp, rfl, by simp, by simp, by simp, fun _ _ => True.intro, fun xf wq K hK => by
      (try dsimp only)
      go_simp
      exact hK.out⟩)
  · exact .inr (.inl ⟨⟨7, 9, 24, #[.bool false, .slice none 0 0, .slice none 0 0], CQ (((t).t) * ((t).t)) ((k) + (k))⟩, by simp, rfl, by simp, by simp, by simp, fun _ _ => True.intro, fun xf wq K hK => by
      (try dsimp only)
      go_simp
      exact hK.out⟩)
  · exact .inr (.inr (.inl ⟨⟨6, 8, 24, #[.bool false, .slice none 0 0, .slice none 0 0], CQ (((1 : Int) : Rat)) (1)⟩, by simp, rfl, by simp, by simp, by simp, by simp, (show KT 24 = false by decide), fun _ _ => True.intro, ⟨⟨6, .data⟩, by simp, rfl, rfl⟩, fun xf wq g hx hblk hd => by
      obtain ⟨b3, A3, n3, c3, A'3, n'3, c'3, d0, h3⟩ : VQ (((1 : Int) : Rat)) (1) (xf 0) wq := hd ⟨0, .data⟩ (by simp) rfl
      dsimp only at hx hblk
      refine ⟨[.bool b3, .slice A3 n3 c3, .slice A'3 n'3 c'3], fun w' hk => ⟨b3, A3, n3, c3, A'3, n'3, c'3, rfl, h3.keep hk⟩, fun K hK => ?_⟩
      have hc0 : wq.cell? ⟨g, 0, none⟩ = some (.bool false) := hblk.cell 0
      have hc1 : wq.cell? ⟨g, 1, none⟩ = some (.slice none 0 0) := hblk.cell 1
      have hc2 : wq.cell? ⟨g, 2, none⟩ = some (.slice none 0 0) := hblk.cell 2
      have hf0 : wq.frozen? ⟨g, 0, none⟩ = false := hblk.frozen 0
      have hf1 : wq.frozen? ⟨g, 1, none⟩ = false := hblk.frozen 1
      have hf2 : wq.frozen? ⟨g, 2, none⟩ = false := hblk.frozen 2
      (try dsimp only)
      simp only [hx, d0]
      go_simp
      have hz := hK.out undef
      simp only [hx, d0] at hz
      exact hz⟩))
  · exact .inr (.inr (.inl ⟨⟨7, 9, 24, #[.bool false, .slice none 0 0, .slice none 0 0], CQ (((t).t) * ((t).t)) ((k) + (k))⟩, by simp, rfl, by simp, by simp, by simp, by simp, (show KT 24 = false by decide), fun _ _ => True.intro, ⟨⟨7, .data⟩, by simp, rfl, rfl⟩, fun xf wq g hx hblk hd => by
      obtain ⟨b4, A4, n4, c4, A'4, n'4, c'4, d5, h4⟩ : VQ (((t).t) * ((t).t)) ((k) + (k)) (xf 5) wq := hd ⟨5, .data⟩ (by simp) rfl
      dsimp only at hx hblk
      refine ⟨[.bool b4, .slice A4 n4 c4, .slice A'4 n'4 c'4], fun w' hk => ⟨b4, A4, n4, c4, A'4, n'4, c'4, rfl, h4.keep hk⟩, fun K hK => ?_⟩
      have hc0 : wq.cell? ⟨g, 0, none⟩ = some (.bool false) := hblk.cell 0
      have hc1 : wq.cell? ⟨g, 1, none⟩ = some (.slice none 0 0) := hblk.cell 1
      have hc2 : wq.cell? ⟨g, 2, none⟩ = some (.slice none 0 0) := hblk.cell 2
      have hf0 : wq.frozen? ⟨g, 0, none⟩ = false := hblk.frozen 0
      have hf1 : wq.frozen? ⟨g, 1, none⟩ = false := hblk.frozen 1
      have hf2 : wq.frozen? ⟨g, 2, none⟩ = false := hblk.frozen 2
      (try dsimp only)
      simp only [hx, d5]
      go_simp
      have hz := hK.out undef
      simp only [hx, d5] at hz
      exact hz⟩))
  clear cx1_0_0 cx1_0_1 cx1_0_2 cx1_0_3 lx1_0_0 lx1_0_1 lx1_0_2 lx1_0_3
  intro y2 w2 kq2 hbl2 lw2 how hrr hfl hds
  replace h := h.keep kq2
  obtain ⟨_, z2_0, ez, _⟩ := how _ (List.Mem.head _)
  obtain rfl := ez (by simp)
  dsimp only at z2_0
  obtain ⟨_, z2_1, ez, _⟩ := how _ (List.Mem.tail _ (List.Mem.head _))
  obtain rfl := ez (by simp)
  dsimp only at z2_1
  obtain ⟨_, z2_2, ez, _⟩ := how _ (List.Mem.tail _ (List.Mem.tail _ (List.Mem.head _)))
  obtain rfl := ez (by simp)
  dsimp only at z2_2
  obtain ⟨g4_2, _, eg4_2, Gg4_2, xg4_2, ⟨b3, A3, n3, c3, A'3, n'3, c'3, rfl, h3⟩⟩ := hfl _ (List.Mem.head _)
  dsimp only at eg4_2 Gg4_2 xg4_2
  obtain ⟨g5_2, _, eg5_2, Gg5_2, xg5_2, ⟨b4, A4, n4, c4, A'4, n'4, c'4, rfl, h4⟩⟩ := hfl _ (List.Mem.tail _ (List.Mem.head _))
  dsimp only at eg5_2 Gg5_2 xg5_2
  have lgg4_2 : g4_2 < w2.heap.size := xg4_2.lt
  have lgg5_2 : g5_2 < w2.heap.size := xg5_2.lt
  have ngg4_2g5_2 : g4_2 ≠ g5_2 := fun e => hds _ (List.Mem.head _) _ (List.Mem.tail _ (List.Mem.head _)) (by simp) (by dsimp only; rw [eg4_2, eg5_2, e])
  (try dsimp only)
  simp only [eg4_2, eg5_2]
  clear hrr hfl how hds eg4_2 eg5_2
  clear x1_0 x1_1 x1_2
  have bw2 : Below w.heap.size w w2 := bw1.trans hbl2
  clear bw1
  have cxg4_2_0 : w2.cell? ⟨g4_2, 0, none⟩ = some (.bool b3) := xg4_2.cell 0
  have cxg4_2_1 : w2.cell? ⟨g4_2, 1, none⟩ = some (.slice A3 n3 c3) := xg4_2.cell 1
  have cxg4_2_2 : w2.cell? ⟨g4_2, 2, none⟩ = some (.slice A'3 n'3 c'3) := xg4_2.cell 2
  obtain ⟨lxg4_2_0, lxg4_2_1, lxg4_2_2, lxg4_2_3⟩ := lts0 xg4_2.lt
  have cxg5_2_0 : w2.cell? ⟨g5_2, 0, none⟩ = some (.bool b4) := xg5_2.cell 0
  have cxg5_2_1 : w2.cell? ⟨g5_2, 1, none⟩ = some (.slice A4 n4 c4) := xg5_2.cell 1
  have cxg5_2_2 : w2.cell? ⟨g5_2, 2, none⟩ = some (.slice A'4 n'4 c'4) := xg5_2.cell 2
  obtain ⟨lxg5_2_0, lxg5_2_1, lxg5_2_2, lxg5_2_3⟩ := lts0 xg5_2.lt
  go_wp2_with fail
  (with_reducible refine (f_add _ b3 A3 n3 c3 A'3 n'3 c'3 (((1 : Int) : Rat)) (1) ?_ b4 A4 n4 c4 A'4 n'4 c'4 (((t).t) * ((t).t)) ((k) + (k)) ?_ ?_ ?_ ?_ ?_).mono ?_); (exact h3.qz); (exact h4.qz); (first | omega | decide | assumption); (first | omega | decide | assumption); (first | omega | decide | assumption); (first | omega | decide | assumption); rintro e w6 ⟨b6, A6, n6, c6, A'6, n'6, c'6, rfl, h6, hb6⟩
  clear cxg4_2_0 cxg4_2_1 cxg4_2_2 lxg4_2_0 lxg4_2_1 lxg4_2_2 lxg4_2_3 cxg5_2_0 cxg5_2_1 cxg5_2_2 lxg5_2_0 lxg5_2_1 lxg5_2_2 lxg5_2_3
  have q6 : Below w2.heap.size w2 w6 := hb6
  replace h := h.belw q6
  replace h3 := h3.belw q6
  replace h4 := h4.belw q6
  replace z2_0 := z2_0.below q6 z2_0.lt
  replace z2_1 := z2_1.below q6 z2_1.lt
  replace z2_2 := z2_2.below q6 z2_2.lt
  replace xg4_2 := xg4_2.below q6 xg4_2.lt
  replace xg5_2 := xg5_2.below q6 xg5_2.lt
  have bw6 : Below w.heap.size w w6 := bw2.trans (q6.mono bw2.size)
  have lw6 : w2.heap.size ≤ w6.heap.size := q6.size
  clear hb6 q6 bw2
  go_wp2_with fail
  have p7 : Kp w6 (w6.alloc (.cells #[.bool b6, .slice A6 n6 c6, .slice A'6 n'6 c'6] 24)) := ((Kp.refl w6).alloc (.cells #[.bool b6, .slice A6 n6 c6, .slice A'6 n'6 c'6] 24))
  have bw7 : Below w.heap.size w (w6.alloc (.cells #[.bool b6, .slice A6 n6 c6, .slice A'6 n'6 c'6] 24)) := (bw6.alloc (by first | omega | (simp <;> omega)) (.cells #[.bool b6, .slice A6 n6 c6, .slice A'6 n'6 c'6] 24))
  have x7_0 : Blk (w6.alloc (.cells #[.bool b6, .slice A6 n6 c6, .slice A'6 n'6 c'6] 24)) (w6.heap.size) 24 #[.bool b6, .slice A6 n6 c6, .slice A'6 n'6 c'6] := (blkAt _ _ _ (by simp))
  replace z2_0 : Blk (w6.alloc (.cells #[.bool b6, .slice A6 n6 c6, .slice A'6 n'6 c'6] 24)) (w.heap.size) 26 #[.bool b, .slice A n c, .slice D m e, .bool false] := (z2_0.alloc (.cells #[.bool b6, .slice A6 n6 c6, .slice A'6 n'6 c'6] 24))
  replace z2_1 : Blk (w6.alloc (.cells #[.bool b6, .slice A6 n6 c6, .slice A'6 n'6 c'6] 24)) (w.heap.size + 1) 24 #[.bool false, .slice none 0 0, .slice none 0 0] := (z2_1.alloc (.cells #[.bool b6, .slice A6 n6 c6, .slice A'6 n'6 c'6] 24))
  replace z2_2 : Blk (w6.alloc (.cells #[.bool b6, .slice A6 n6 c6, .slice A'6 n'6 c'6] 24)) (w.heap.size + 1 + 1) 24 #[.bool false, .slice none 0 0, .slice none 0 0] := (z2_2.alloc (.cells #[.bool b6, .slice A6 n6 c6, .slice A'6 n'6 c'6] 24))
  replace xg4_2 : Blk (w6.alloc (.cells #[.bool b6, .slice A6 n6 c6, .slice A'6 n'6 c'6] 24)) (g4_2) 24 #[.bool b3, .slice A3 n3 c3, .slice A'3 n'3 c'3] := (xg4_2.alloc (.cells #[.bool b6, .slice A6 n6 c6, .slice A'6 n'6 c'6] 24))
  replace xg5_2 : Blk (w6.alloc (.cells #[.bool b6, .slice A6 n6 c6, .slice A'6 n'6 c'6] 24)) (g5_2) 24 #[.bool b4, .slice A4 n4 c4, .slice A'4 n'4 c'4] := (xg5_2.alloc (.cells #[.bool b6, .slice A6 n6 c6, .slice A'6 n'6 c'6] 24))
  have lw7 : w6.heap.size + 1 ≤ (w6.alloc (.cells #[.bool b6, .slice A6 n6 c6, .slice A'6 n'6 c'6] 24)).heap.size := by simp
  generalize hE7 : (w6.alloc (.cells #[.bool b6, .slice A6 n6 c6, .slice A'6 n'6 c'6] 24)) = w7 at p7 bw7 lw7 x7_0 z2_0 z2_1 z2_2 xg4_2 xg5_2 ⊢
  clear hE7
  replace h := h.keep p7
  replace h3 := h3.keep p7
  replace h4 := h4.keep p7
  replace h6 := h6.keep p7
  clear bw6
  have cz2_0_0 : w7.cell? ⟨w.heap.size, 0, none⟩ = some (.bool b) := z2_0.cell 0
  have cz2_0_1 : w7.cell? ⟨w.heap.size, 1, none⟩ = some (.slice A n c) := z2_0.cell 1
  have cz2_0_2 : w7.cell? ⟨w.heap.size, 2, none⟩ = some (.slice D m e) := z2_0.cell 2
  have cz2_0_3 : w7.cell? ⟨w.heap.size, 3, none⟩ = some (.bool false) := z2_0.cell 3
  obtain ⟨lz2_0_0, lz2_0_1, lz2_0_2, lz2_0_3⟩ := lts0 z2_0.lt
  obtain ⟨cxg4_2_0, cxg4_2_1, cxg4_2_2⟩ := xg4_2.c3
  obtain ⟨lxg4_2_0, lxg4_2_1, lxg4_2_2, lxg4_2_3⟩ := lts0 xg4_2.lt
  obtain ⟨cxg5_2_0, cxg5_2_1, cxg5_2_2⟩ := xg5_2.c3
  obtain ⟨lxg5_2_0, lxg5_2_1, lxg5_2_2, lxg5_2_3⟩ := lts0 xg5_2.lt
  obtain ⟨cx7_0_0, cx7_0_1, cx7_0_2⟩ := x7_0.c3
  obtain ⟨lx7_0_0, lx7_0_1, lx7_0_2, lx7_0_3⟩ := lts0 x7_0.lt
  refine wp_region_lin (B := w.heap.size) (fr := fun xf => ⟨#[.agg #[.bool b, .slice A n c, .slice D m e, .bool false], .pointer (some ⟨w.heap.size, 0, none⟩), .pointer (some ⟨w.heap.size + 1, 0, none⟩), .pointer (some ⟨w.heap.size + 1 + 1, 0, none⟩), .pointer (some ⟨g4_2, 0, none⟩), .pointer (some ⟨g5_2, 0, none⟩), .pointer (some ⟨w6.heap.size, 0, none⟩), .pointer (some ⟨w.heap.size, 3, none⟩), .bool false, undef, undef, y2 0, y2 1, y2 2, y2 3, y2 4, y2 5, .agg #[.bool b3, .slice A3 n3 c3, .slice A'3 n'3 c'3], .agg #[.bool b4, .slice A4 n4 c4, .slice A'4 n'4 c'4], .agg #[.bool b6, .slice A6 n6 c6, .slice A'6 n'6 c'6], xf 0, xf 1, xf 2, xf 3, xf 4, xf 5, xf 6, xf 7, xf 8, xf 9, xf 10, xf 11], []⟩) (R := fun i => List.getD [PEq (.agg #[.bool b3, .slice A3 n3 c3, .slice A'3 n'3 c'3]), PEq (.agg #[.bool b4, .slice A4 n4 c4, .slice A'4 n'4 c'4]), VQ ((((1 : Int) : Rat)) - (((t).t) * ((t).t))) ((1) + ((k) + (k)) + 1), PEq (.agg #[.bool b6, .slice A6 n6 c6, .slice A'6 n'6 c'6]), VQ (((((1 : Int) : Rat)) - (((t).t) * ((t).t))) / ((((1 : Int) : Rat)) + (((t).t) * ((t).t)))) (((1) + ((k) + (k)) + 1) + ((1) + ((k) + (k)) + 1)), PEq (.pointer (some ⟨w.heap.size, 0, none⟩)), PEq (.agg #[.bool b, .slice A n c, .slice D m e]), PEq (.pointer (some ⟨w.heap.size, 0, none⟩)), PEq (.agg #[.bool b, .slice A n c, .slice D m e]), VQ (((t).t) + ((t).t)) ((k) + (k) + 1), PEq (.agg #[.bool b6, .slice A6 n6 c6, .slice A'6 n'6 c'6]), VQ ((((t).t) + ((t).t)) / ((((1 : Int) : Rat)) + (((t).t) * ((t).t)))) (((k) + (k) + 1) + ((1) + ((k) + (k)) + 1)), PAny, PAny] i (fun _ _ => True)) (es := []) (ow := [⟨w.heap.size, 14, 0, 26, #[.bool b, .slice A n c, .slice D m e, .bool false], CAny⟩, ⟨w.heap.size + 1, 12, 0, 24, #[.bool false, .slice none 0 0, .slice none 0 0], CQ (((((1 : Int) : Rat)) - (((t).t) * ((t).t))) / ((((1 : Int) : Rat)) + (((t).t) * ((t).t)))) (((1) + ((k) + (k)) + 1) + ((1) + ((k) + (k)) + 1))⟩, ⟨w.heap.size + 1 + 1, 13, 0, 24, #[.bool false, .slice none 0 0, .slice none 0 0], CQ ((((t).t) + ((t).t)) / ((((1 : Int) : Rat)) + (((t).t) * ((t).t)))) (((k) + (k) + 1) + ((1) + ((k) + (k)) + 1))⟩, ⟨g4_2, 14, 0, 24, #[.bool b3, .slice A3 n3 c3, .slice A'3 n'3 c'3], CAny⟩, ⟨g5_2, 14, 0, 24, #[.bool b4, .slice A4 n4 c4, .slice A'4 n'4 c'4], CAny⟩, ⟨w6.heap.size, 14, 0, 24, #[.bool b6, .slice A6 n6 c6, .slice A'6 n'6 c'6], CAny⟩]) (x0 := fun _ => undef) (by kernel_rfl)
    (each_of ⟨fun _ _ => rfl, fun _ _ => rfl, fun _ _ => rfl, fun _ _ => rfl, fun _ _ => rfl, fun _ _ => rfl, fun _ _ => rfl, fun _ _ => rfl, fun _ _ => rfl, fun _ _ => rfl, fun _ _ => rfl, fun _ _ => rfl, fun _ _ => rfl, fun _ _ => rfl, trivial⟩) (each_of (acyc_from _ 0 (by kernel_rfl))) (AllStab.get _ ⟨stEq _, stEq _, stQ _ _, stEq _, stQ _ _, stEq _, stEq _, stEq _, stEq _, stQ _ _, stEq _, stQ _ _, stAny, stAny, trivial⟩)
    (fun _ h => nomatch h) (List.forall_mem_cons.2 ⟨scAny, List.forall_mem_cons.2 ⟨scQ _ _, List.forall_mem_cons.2 ⟨scQ _ _, List.forall_mem_cons.2 ⟨scAny, List.forall_mem_cons.2 ⟨scAny, List.forall_mem_cons.2 ⟨scAny, fun _ h => nomatch h⟩⟩⟩⟩⟩⟩) (fun _ h => nomatch h) bw7.size
    (List.forall_mem_cons.2 ⟨⟨z2_0, by show w.heap.size ≤ w.heap.size; omega⟩, List.forall_mem_cons.2 ⟨⟨z2_1, by show w.heap.size ≤ w.heap.size + 1; omega⟩, List.forall_mem_cons.2 ⟨⟨z2_2, by show w.heap.size ≤ w.heap.size + 1 + 1; omega⟩, List.forall_mem_cons.2 ⟨⟨xg4_2, by show w.heap.size ≤ g4_2; omega⟩, List.forall_mem_cons.2 ⟨⟨xg5_2, by show w.heap.size ≤ g5_2; omega⟩, List.forall_mem_cons.2 ⟨⟨x7_0, by show w.heap.size ≤ w6.heap.size; omega⟩, fun _ h => nomatch h⟩⟩⟩⟩⟩⟩) (ownDist (by simp <;> omega))
    (each_of ⟨?_, ?_, ?_, ?_, ?_, ?_, ?_, ?_, ?_, ?_, ?_, ?_, ?_, ?_, trivial⟩) ?_
  · exact .inl ⟨by simp, by simp, fun xf wq hk hbl hd K hK => by
      have y : Blk wq (g4_2) 24 #[.bool b3, .slice A3 n3 c3, .slice A'3 n'3 c'3] := hbl _ (List.Mem.tail _ (List.Mem.tail _ (List.Mem.tail _ (List.Mem.head _)))) (by simp [Region.binds])
      obtain ⟨c0, c1, c2⟩ := y.c3
      (try dsimp only)
      go_simp
      exact hK.out (.agg #[.bool b3, .slice A3 n3 c3, .slice A'3 n'3 c'3]) _ rfl (brefl _)⟩
  · exact .inl ⟨by simp, by simp, fun xf wq hk hbl hd K hK => by
      have y : Blk wq (g5_2) 24 #[.bool b4, .slice A4 n4 c4, .slice A'4 n'4 c'4] := hbl _ (List.Mem.tail _ (List.Mem.tail _ (List.Mem.tail _ (List.Mem.tail _ (List.Mem.head _))))) (by simp [Region.binds])
      obtain ⟨c0, c1, c2⟩ := y.c3
      (try dsimp only)
      go_simp
      exact hK.out (.agg #[.bool b4, .slice A4 n4 c4, .slice A'4 n'4 c'4]) _ rfl (brefl _)⟩
  · exact .inl ⟨by simp, by simp, fun xf wq hk hbl hd K hK => by
      have d0 : xf 0 = .agg #[.bool b3, .slice A3 n3 c3, .slice A'3 n'3 c'3] := hd ⟨0, .data⟩ (by simp) rfl
      have d1 : xf 1 = .agg #[.bool b4, .slice A4 n4 c4, .slice A'4 n'4 c'4] := hd ⟨1, .data⟩ (by simp) rfl
      (try dsimp only); (try simp only [d0, d1])
      go_simp
      go_at_call 38
      (with_reducible refine (f_sub _ b3 A3 n3 c3 A'3 n'3 c'3 (((1 : Int) : Rat)) (1) ?_ b4 A4 n4 c4 A'4 n'4 c'4 (((t).t) * ((t).t)) ((k) + (k)) ?_ ?_ ?_ ?_ ?_).mono ?_); (exact (h3.keep hk).qz); (exact (h4.keep hk).qz); (first | omega | decide | assumption); (first | omega | decide | assumption); (first | omega | decide | assumption); (first | omega | decide | assumption); rintro e wr ⟨b9, A9, n9, c9, A'9, n'9, c'9, rfl, h9, hbr⟩
      have hz := hK.out _ _ ⟨b9, A9, n9, c9, A'9, n'9, c'9, rfl, h9⟩ hbr
      simp only [d0, d1] at hz
      exact hz⟩
  · exact .inl ⟨by simp, by simp, fun xf wq hk hbl hd K hK => by
      have y : Blk wq (w6.heap.size) 24 #[.bool b6, .slice A6 n6 c6, .slice A'6 n'6 c'6] := hbl _ (List.Mem.tail _ (List.Mem.tail _ (List.Mem.tail _ (List.Mem.tail _ (List.Mem.tail _ (List.Mem.head _)))))) (by simp [Region.binds])
      obtain ⟨c0, c1, c2⟩ := y.c3
      (try dsimp only)
      go_simp
      exact hK.out (.agg #[.bool b6, .slice A6 n6 c6, .slice A'6 n'6 c'6]) _ rfl (brefl _)⟩
  · exact .inl ⟨by simp, by simp, fun xf wq hk hbl hd K hK => by
      obtain ⟨b9, A9, n9, c9, A'9, n'9, c'9, d2, h9⟩ : VQ ((((1 : Int) : Rat)) - (((t).t) * ((t).t))) ((1) + ((k) + (k)) + 1) (xf 2) wq := hd ⟨2, .data⟩ (by simp) rfl
      have d3 : xf 3 = .agg #[.bool b6, .slice A6 n6 c6, .slice A'6 n'6 c'6] := hd ⟨3, .data⟩ (by simp) rfl
      (try dsimp only); (try simp only [d2, d3])
      go_simp
      go_at_call 35
      (with_reducible refine (t_over _ b9 A9 n9 c9 A'9 n'9 c'9 ((((1 : Int) : Rat)) - (((t).t) * ((t).t))) ((1) + ((k) + (k)) + 1) ?_ b6 A6 n6 c6 A'6 n'6 c'6 ((((1 : Int) : Rat)) + (((t).t) * ((t).t))) ((1) + ((k) + (k)) + 1) ?_ ?_ ?_ ?_ ?_ ?_).mono ?_); (exact h9.qz); (exact (h6.keep hk).qz); (first | omega | decide | assumption); (first | omega | decide | assumption); (first | omega | decide | assumption); (first | omega | decide | assumption); (exact HNE.out); rintro e wr ⟨b10, A10, n10, c10, A'10, n'10, c'10, rfl, h10, hbr⟩
      have hz := hK.out _ _ ⟨b10, A10, n10, c10, A'10, n'10, c'10, rfl, h10⟩ hbr
      simp only [d2, d3] at hz
      exact hz⟩
  · exact .inl ⟨by simp, by simp, fun xf wq hk hbl hd K hK => by
      (try dsimp only)
      go_simp
      exact hK.out (.pointer (some ⟨w.heap.size, 0, none⟩)) _ rfl (brefl _)⟩
  · exact .inl ⟨by simp, by simp, fun xf wq hk hbl hd K hK => by
      have d5 : xf 5 = .pointer (some ⟨w.heap.size, 0, none⟩) := hd ⟨5, .data⟩ (by simp) rfl
      have y : Blk wq (w.heap.size) 26 #[.bool b, .slice A n c, .slice D m e, .bool false] := hbl _ (List.Mem.head _) (by simp [Region.binds])
      obtain ⟨c0, c1, c2, c3⟩ := y.c4
      (try dsimp only); (try simp only [d5])
      go_simp
      have hz := hK.out (.agg #[.bool b, .slice A n c, .slice D m e]) _ rfl (brefl _)
      simp only [d5] at hz
      exact hz⟩
  · exact .inl ⟨by simp, by simp, fun xf wq hk hbl hd K hK => by
      (try dsimp only)
      go_simp
      exact hK.out (.pointer (some ⟨w.heap.size, 0, none⟩)) _ rfl (brefl _)⟩
  · exact .inl ⟨by simp, by simp, fun xf wq hk hbl hd K hK => by
      have d7 : xf 7 = .pointer (some ⟨w.heap.size, 0, none⟩) := hd ⟨7, .data⟩ (by simp) rfl
      have y : Blk wq (w.heap.size) 26 #[.bool b, .slice A n c, .slice D m e, .bool false] := hbl _ (List.Mem.head _) (by simp [Region.binds])
      obtain ⟨c0, c1, c2, c3⟩ := y.c4
      (try dsimp only); (try simp only [d7])
      go_simp
      have hz := hK.out (.agg #[.bool b, .slice A n c, .slice D m e]) _ rfl (brefl _)
      simp only [d7] at hz
      exact hz⟩
  · exact .inl ⟨by simp, by simp, fun xf wq hk hbl hd K hK => by
      have d6 : xf 6 = .agg #[.bool b, .slice A n c, .slice D m e] := hd ⟨6, .data⟩ (by simp) rfl
      have d8 : xf 8 = .agg #[.bool b, .slice A n c, .slice D m e] := hd ⟨8, .data⟩ (by simp) rfl
      (try dsimp only); (try simp only [d6, d8])
      go_simp
      go_at_call 40
      (with_reducible refine (f_add _ b A n c D m e ((t).t) (k) ?_ b A n c D m e ((t).t) (k) ?_ ?_ ?_ ?_ ?_).mono ?_); (exact (h.keep hk).qz); (exact (h.keep hk).qz); (first | omega | decide | assumption); (first | omega | decide | assumption); (first | omega | decide | assumption); (first | omega | decide | assumption); rintro e wr ⟨b11, A11, n11, c11, A'11, n'11, c'11, rfl, h11, hbr⟩
      have hz := hK.out _ _ ⟨b11, A11, n11, c11, A'11, n'11, c'11, rfl, h11⟩ hbr
      simp only [d6, d8] at hz
      exact hz⟩
  · exact .inl ⟨by simp, by simp, fun xf wq hk hbl hd K hK => by
      have y : Blk wq (w6.heap.size) 24 #[.bool b6, .slice A6 n6 c6, .slice A'6 n'6 c'6] := hbl _ (List.Mem.tail _ (List.Mem.tail _ (List.Mem.tail _ (List.Mem.tail _ (List.Mem.tail _ (List.Mem.head _)))))) (by simp [Region.binds])
      obtain ⟨c0, c1, c2⟩ := y.c3
      (try dsimp only)
      go_simp
      exact hK.out (.agg #[.bool b6, .slice A6 n6 c6, .slice A'6 n'6 c'6]) _ rfl (brefl _)⟩
  · exact .inl ⟨by simp, by simp, fun xf wq hk hbl hd K hK => by
      obtain ⟨b11, A11, n11, c11, A'11, n'11, c'11, d9, h11⟩ : VQ (((t).t) + ((t).t)) ((k) + (k) + 1) (xf 9) wq := hd ⟨9, .data⟩ (by simp) rfl
      have d10 : xf 10 = .agg #[.bool b6, .slice A6 n6 c6, .slice A'6 n'6 c'6] := hd ⟨10, .data⟩ (by simp) rfl
      (try dsimp only); (try simp only [d9, d10])
      go_simp
      go_at_call 35
      (with_reducible refine (t_over _ b11 A11 n11 c11 A'11 n'11 c'11 (((t).t) + ((t).t)) ((k) + (k) + 1) ?_ b6 A6 n6 c6 A'6 n'6 c'6 ((((1 : Int) : Rat)) + (((t).t) * ((t).t))) ((1) + ((k) + (k)) + 1) ?_ ?_ ?_ ?_ ?_ ?_).mono ?_); (exact h11.qz); (exact (h6.keep hk).qz); (first | omega | decide | assumption); (first | omega | decide | assumption); (first | omega | decide | assumption); (first | omega | decide | assumption); (exact HNE.out); rintro e wr ⟨b12, A12, n12, c12, A'12, n'12, c'12, rfl, h12, hbr⟩
      have hz := hK.out _ _ ⟨b12, A12, n12, c12, A'12, n'12, c'12, rfl, h12⟩ hbr
      simp only [d9, d10] at hz
      exact hz⟩
  · exact .inr (.inr (.inr ⟨⟨w.heap.size + 1, 12, 0, 24, #[.bool false, .slice none 0 0, .slice none 0 0], CQ (((((1 : Int) : Rat)) - (((t).t) * ((t).t))) / ((((1 : Int) : Rat)) + (((t).t) * ((t).t)))) (((1) + ((k) + (k)) + 1) + ((1) + ((k) + (k)) + 1))⟩, by simp, rfl, by simp, by simp, (show KT 24 = false by decide), fun _ _ => True.intro, fun xf wq hblk hd => by
      obtain ⟨b10, A10, n10, c10, A'10, n'10, c'10, d4, h10⟩ : VQ (((((1 : Int) : Rat)) - (((t).t) * ((t).t))) / ((((1 : Int) : Rat)) + (((t).t) * ((t).t)))) (((1) + ((k) + (k)) + 1) + ((1) + ((k) + (k)) + 1)) (xf 4) wq := hd ⟨4, .data⟩ (by simp) rfl
      dsimp only at hblk
      refine ⟨[.bool b10, .slice A10 n10 c10, .slice A'10 n'10 c'10], fun w' hk => ⟨b10, A10, n10, c10, A'10, n'10, c'10, rfl, h10.keep hk⟩, fun K hK => ?_⟩
      have hc0 : wq.cell? ⟨w.heap.size + 1, 0, none⟩ = some (.bool false) := hblk.cell 0
      have hc1 : wq.cell? ⟨w.heap.size + 1, 1, none⟩ = some (.slice none 0 0) := hblk.cell 1
      have hc2 : wq.cell? ⟨w.heap.size + 1, 2, none⟩ = some (.slice none 0 0) := hblk.cell 2
      have hf0 : wq.frozen? ⟨w.heap.size + 1, 0, none⟩ = false := hblk.frozen 0
      have hf1 : wq.frozen? ⟨w.heap.size + 1, 1, none⟩ = false := hblk.frozen 1
      have hf2 : wq.frozen? ⟨w.heap.size + 1, 2, none⟩ = false := hblk.frozen 2
      (try dsimp only)
      simp only [d4]
      go_simp
      have hz := hK.out undef
      simp only [d4] at hz
      exact hz⟩))
  · exact .inr (.inr (.inr ⟨⟨w.heap.size + 1 + 1, 13, 0, 24, #[.bool false, .slice none 0 0, .slice none 0 0], CQ ((((t).t) + ((t).t)) / ((((1 : Int) : Rat)) + (((t).t) * ((t).t)))) (((k) + (k) + 1) + ((1) + ((k) + (k)) + 1))⟩, by simp, rfl, by simp, by simp, (show KT 24 = false by decide), fun _ _ => True.intro, fun xf wq hblk hd => by
      obtain ⟨b12, A12, n12, c12, A'12, n'12, c'12, d11, h12⟩ : VQ ((((t).t) + ((t).t)) / ((((1 : Int) : Rat)) + (((t).t) * ((t).t)))) (((k) + (k) + 1) + ((1) + ((k) + (k)) + 1)) (xf 11) wq := hd ⟨11, .data⟩ (by simp) rfl
      dsimp only at hblk
      refine ⟨[.bool b12, .slice A12 n12 c12, .slice A'12 n'12 c'12], fun w' hk => ⟨b12, A12, n12, c12, A'12, n'12, c'12, rfl, h12.keep hk⟩, fun K hK => ?_⟩
      have hc0 : wq.cell? ⟨w.heap.size + 1 + 1, 0, none⟩ = some (.bool false) := hblk.cell 0
      have hc1 : wq.cell? ⟨w.heap.size + 1 + 1, 1, none⟩ = some (.slice none 0 0) := hblk.cell 1
      have hc2 : wq.cell? ⟨w.heap.size + 1 + 1, 2, none⟩ = some (.slice none 0 0) := hblk.cell 2
      have hf0 : wq.frozen? ⟨w.heap.size + 1 + 1, 0, none⟩ = false := hblk.frozen 0
      have hf1 : wq.frozen? ⟨w.heap.size + 1 + 1, 1, none⟩ = false := hblk.frozen 1
      have hf2 : wq.frozen? ⟨w.heap.size + 1 + 1, 2, none⟩ = false := hblk.frozen 2
      (try dsimp only)
      simp only [d11]
      go_simp
      have hz := hK.out undef
      simp only [d11] at hz
      exact hz⟩))
  clear cz2_0_0 cz2_0_1 cz2_0_2 cz2_0_3 lz2_0_0 lz2_0_1 lz2_0_2 lz2_0_3 cxg4_2_0 cxg4_2_1 cxg4_2_2 lxg4_2_0 lxg4_2_1 lxg4_2_2 lxg4_2_3 cxg5_2_0 cxg5_2_1 cxg5_2_2 lxg5_2_0 lxg5_2_1 lxg5_2_2 lxg5_2_3 cx7_0_0 cx7_0_1 cx7_0_2 lx7_0_0 lx7_0_1 lx7_0_2 lx7_0_3
  intro y8 w8 kq8 hbl8 lw8 how hrr hfl hds
  replace h := h.keep kq8
  replace h3 := h3.keep kq8
  replace h4 := h4.keep kq8
  replace h6 := h6.keep kq8
  obtain ⟨_, z8_0, ez, _⟩ := how _ (List.Mem.head _)
  obtain rfl := ez (by simp)
  dsimp only at z8_0
  obtain ⟨_, z8_1, _, ez⟩ := how _ (List.Mem.tail _ (List.Mem.head _))
  obtain ⟨b10, A10, n10, c10, A'10, n'10, c'10, rfl, h10⟩ := ez (by simp)
  dsimp only at z8_1
  obtain ⟨_, z8_2, _, ez⟩ := how _ (List.Mem.tail _ (List.Mem.tail _ (List.Mem.head _)))
  obtain ⟨b12, A12, n12, c12, A'12, n'12, c'12, rfl, h12⟩ := ez (by simp)
  dsimp only at z8_2
  obtain ⟨_, z8_3, ez, _⟩ := how _ (List.Mem.tail _ (List.Mem.tail _ (List.Mem.tail _ (List.Mem.head _))))
  obtain rfl := ez (by simp)
  dsimp only at z8_3
  obtain ⟨_, z8_4, ez, _⟩ := how _ (List.Mem.tail _ (List.Mem.tail _ (List.Mem.tail _ (List.Mem.tail _ (List.Mem.head _)))))
  obtain rfl := ez (by simp)
  dsimp only at z8_4
  obtain ⟨_, z8_5, ez, _⟩ := how _ (List.Mem.tail _ (List.Mem.tail _ (List.Mem.tail _ (List.Mem.tail _ (List.Mem.tail _ (List.Mem.head _))))))
  obtain rfl := ez (by simp)
  dsimp only at z8_5
  (try dsimp only)
  clear hrr hfl how hds 
  clear z2_0 z2_1 z2_2 xg4_2 xg5_2 x7_0
  have bw8 : Below w.heap.size w w8 := bw7.trans hbl8
  clear bw7
  have cz8_1_0 : w8.cell? ⟨w.heap.size + 1, 0, none⟩ = some (.bool b10) := z8_1.cell 0
  have cz8_1_1 : w8.cell? ⟨w.heap.size + 1, 1, none⟩ = some (.slice A10 n10 c10) := z8_1.cell 1
  have cz8_1_2 : w8.cell? ⟨w.heap.size + 1, 2, none⟩ = some (.slice A'10 n'10 c'10) := z8_1.cell 2
  obtain ⟨lz8_1_0, lz8_1_1, lz8_1_2, lz8_1_3⟩ := lts1 z8_1.lt
  have cz8_2_0 : w8.cell? ⟨w.heap.size + 1 + 1, 0, none⟩ = some (.bool b12) := z8_2.cell 0
  have cz8_2_1 : w8.cell? ⟨w.heap.size + 1 + 1, 1, none⟩ = some (.slice A12 n12 c12) := z8_2.cell 1
  have cz8_2_2 : w8.cell? ⟨w.heap.size + 1 + 1, 2, none⟩ = some (.slice A'12 n'12 c'12) := z8_2.cell 2
  obtain ⟨lz8_2_0, lz8_2_1, lz8_2_2, lz8_2_3⟩ := lts2 z8_2.lt
  go_wp2_with fail
  rw [HC.out] at h10
  rw [HS.out] at h12
  refine bodyPost_ret (v := .tuple #[.agg #[.bool b10, .slice A10 n10 c10, .slice A'10 n'10 c'10], .agg #[.bool b12, .slice A12 n12 c12, .slice A'12 n'12 c'12]]) (by simp [results, Tryz.results37, go_sem, *] <;> first | rfl | exact ⟨rfl, rfl⟩) rfl ?_
  have kp := (Kp.refl w8)
  exact ⟨b10, A10, n10, c10, A'10, n'10, c'10, b12, A12, n12, c12, A'12, n'12, c'12, rfl, (h10.keep kp).mono (by omega), (h12.keep kp).mono (by omega), bw8⟩
set_option maxRecDepth 100000 in
set_option maxHeartbeats 4000000 in
/-- turn.direction -/
theorem t_direction_true (w : World) (b : Bool) (A : Option Addr) (n c : Nat) (D : Option Addr) (m e : Nat) (t : TN) (k : Nat) (h : TK w b A n c D m e true t k) (h0 : 0 < k) (hk : k ≤ 1000000) :
    Calls Tryz.prog 37 #[.agg #[.bool b, .slice A n c, .slice D m e, .bool true]] w (RetQQ w (tcos t) (tsin t) (4 * k + 4)) := by
  have HC := Lib.hid (show ((-1 : Int) : Rat) = tcos t by unfold tcos; rw [if_pos h.2.1.symm]; rfl)
  have HS := Lib.hid (show 0 = tsin t by unfold tsin; rw [if_pos h.2.1.symm])
  go_enter Tryz.func37, Tryz.ntmps37
  go_wp2_with fail
  (with_reducible refine (f_of _ ((-1)) ?_ ?_).mono ?_); (first | omega | decide | assumption); (first | omega | decide | assumption); rintro e w1 ⟨b1, A1, n1, c1, A'1, n'1, c'1, rfl, h1, hb1⟩
  have q1 : Below w.heap.size w w1 := ((((Below.refl _ _).alloc (Nat.le_refl _) _).alloc (by simp) _).alloc (by simp <;> omega) _).trans (hb1.mono (by simp <;> omega))
  replace h := h.belw q1
  have x1_0 : Blk w1 (w.heap.size) 26 #[.bool b, .slice A n c, .slice D m e, .bool true] := (((blkAt _ _ _ (by simp)).alloc _).alloc _).below hb1 (by simp <;> omega)
  have x1_1 : Blk w1 (w.heap.size + 1) 24 #[.bool false, .slice none 0 0, .slice none 0 0] := ((blkAt _ _ _ (by simp)).alloc _).below hb1 (by simp <;> omega)
  have x1_2 : Blk w1 (w.heap.size + 1 + 1) 24 #[.bool false, .slice none 0 0, .slice none 0 0] := (blkAt _ _ _ (by simp)).below hb1 (by simp)
  have bw1 : Below w.heap.size w w1 := (brefl w).trans (q1.mono (brefl w).size)
  have lw1 : w.heap.size + 3 ≤ w1.heap.size := by have := hb1.size; simp at this; omega
  clear hb1 q1
  obtain ⟨cx1_1_0, cx1_1_1, cx1_1_2⟩ := x1_1.c3
  obtain ⟨fx1_1_0, fx1_1_1, fx1_1_2⟩ := x1_1.f3
  obtain ⟨lx1_1_0, lx1_1_1, lx1_1_2, lx1_1_3⟩ := lts1 x1_1.lt
  obtain ⟨cx1_2_0, cx1_2_1, cx1_2_2⟩ := x1_2.c3
  obtain ⟨fx1_2_0, fx1_2_1, fx1_2_2⟩ := x1_2.f3
  obtain ⟨lx1_2_0, lx1_2_1, lx1_2_2, lx1_2_3⟩ := lts2 x1_2.lt
  go_wp2_with fail
  rw [HC.out] at h1
  rw [← HS.out]
  refine bodyPost_ret (v := .tuple #[.agg #[.bool b1, .slice A1 n1 c1, .slice A'1 n'1 c'1], .agg #[.bool false, .slice none 0 0, .slice none 0 0]]) (by simp [results, Tryz.results37, go_sem, *] <;> first | rfl | exact ⟨rfl, rfl⟩) rfl ?_
  have kp := (((((((Kp.refl w1).setB (p := ⟨w.heap.size + 1, 0, none⟩) x1_1.box (by decide) (.bool b1)).setB (p := ⟨w.heap.size + 1, 1, none⟩) (x1_1.box.set ⟨w.heap.size + 1, 0, none⟩ (.bool b1)) (by decide) (.slice A1 n1 c1)).setB (p := ⟨w.heap.size + 1, 2, none⟩) ((x1_1.box.set ⟨w.heap.size + 1, 0, none⟩ (.bool b1)).set ⟨w.heap.size + 1, 1, none⟩ (.slice A1 n1 c1)) (by decide) (.slice A'1 n'1 c'1)).setB (p := ⟨w.heap.size + 1 + 1, 0, none⟩) (((x1_2.box.set ⟨w.heap.size + 1, 0, none⟩ (.bool b1)).set ⟨w.heap.size + 1, 1, none⟩ (.slice A1 n1 c1)).set ⟨w.heap.size + 1, 2, none⟩ (.slice A'1 n'1 c'1)) (by decide) (.bool false)).setB (p := ⟨w.heap.size + 1 + 1, 1, none⟩) ((((x1_2.box.set ⟨w.heap.size + 1, 0, none⟩ (.bool b1)).set ⟨w.heap.size + 1, 1, none⟩ (.slice A1 n1 c1)).set ⟨w.heap.size + 1, 2, none⟩ (.slice A'1 n'1 c'1)).set ⟨w.heap.size + 1 + 1, 0, none⟩ (.bool false)) (by decide) (.slice none 0 0)).setB (p := ⟨w.heap.size + 1 + 1, 2, none⟩) (((((x1_2.box.set ⟨w.heap.size + 1, 0, none⟩ (.bool b1)).set ⟨w.heap.size + 1, 1, none⟩ (.slice A1 n1 c1)).set ⟨w.heap.size + 1, 2, none⟩ (.slice A'1 n'1 c'1)).set ⟨w.heap.size + 1 + 1, 0, none⟩ (.bool false)).set ⟨w.heap.size + 1 + 1, 1, none⟩ (.slice none 0 0)) (by decide) (.slice none 0 0))
  exact ⟨b1, A1, n1, c1, A'1, n'1, c'1, false, none, 0, 0, none, 0, 0, rfl, (h1.keep kp).mono (by omega), QV.zero _ _, ((((((bw1.setCell (p := ⟨w.heap.size + 1, 0, none⟩) (by dsimp only; omega) (.bool b1)).setCell (p := ⟨w.heap.size + 1, 1, none⟩) (by dsimp only; omega) (.slice A1 n1 c1)).setCell (p := ⟨w.heap.size + 1, 2, none⟩) (by dsimp only; omega) (.slice A'1 n'1 c'1)).setCell (p := ⟨w.heap.size + 1 + 1, 0, none⟩) (by dsimp only; omega) (.bool false)).setCell (p := ⟨w.heap.size + 1 + 1, 1, none⟩) (by dsimp only; omega) (.slice none 0 0)).setCell (p := ⟨w.heap.size + 1 + 1, 2, none⟩) (by dsimp only; omega) (.slice none 0 0))⟩
theorem t_direction (w : World) (b : Bool) (A : Option Addr) (n c : Nat) (D : Option Addr) (m e : Nat) (x : Bool) (t : TN) (k : Nat) (h : TK w b A n c D m e x t k) (h0 : 0 < k) (hk : k ≤ 1000000) : Calls Tryz.prog 37 #[.agg #[.bool b, .slice A n c, .slice D m e, .bool x]] w (RetQQ w (tcos t) (tsin t) (4 * k + 4)) := by
  cases x
  · exact t_direction_false w b A n c D m e t k h h0 hk
  · exact t_direction_true w b A n c D m e t k h h0 hk
set_option maxRecDepth 100000 in
set_option maxHeartbeats 2000000 in
/-- turn.Cos -/
theorem t_cos (w : World) (b : Bool) (A : Option Addr) (n c : Nat) (D : Option Addr) (m e : Nat) (x : Bool) (t : TN) (k : Nat) (h : TK w b A n c D m e x t k) (h0 : 0 < k) (hk : k ≤ 1000000) :
    Calls Tryz.prog 21 #[.agg #[.bool b, .slice A n c, .slice D m e, .bool x]] w (RetFe w .nilIface (tcos t) (4 * k + 4)) := by
  go_enter Tryz.func21, Tryz.ntmps21
  go_wp2_with fail
  (with_reducible refine (t_check _ b A n c D m e x (t) (k) ?_ ?_ ?_).mono ?_); (exact (h.belw (((Below.refl _ _).alloc (Nat.le_refl _) _).alloc (by simp) _))); (first | omega | decide | assumption); (first | omega | decide | assumption); rintro e w1 ⟨rfl, hb1⟩
  have q1 : Below w.heap.size w w1 := (((Below.refl _ _).alloc (Nat.le_refl _) _).alloc (by simp) _).trans (hb1.mono (by simp <;> omega))
  replace h := h.belw q1
  have x1_0 : Blk w1 (w.heap.size) 26 #[.bool b, .slice A n c, .slice D m e, .bool x] := ((blkAt _ _ _ (by simp)).alloc _).below hb1 (by simp <;> omega)
  have x1_1 : Blk w1 (w.heap.size + 1) 24 #[.bool false, .slice none 0 0, .slice none 0 0] := (blkAt _ _ _ (by simp)).below hb1 (by simp)
  have bw1 : Below w.heap.size w w1 := (brefl w).trans (q1.mono (brefl w).size)
  have lw1 : w.heap.size + 2 ≤ w1.heap.size := by have := hb1.size; simp at this; omega
  clear hb1 q1
  obtain ⟨cx1_0_0, cx1_0_1, cx1_0_2, cx1_0_3⟩ := x1_0.c4
  obtain ⟨lx1_0_0, lx1_0_1, lx1_0_2, lx1_0_3⟩ := lts0 x1_0.lt
  go_wp2_with fail
  (with_reducible refine (t_direction _ b A n c D m e x (t) (k) ?_ ?_ ?_).mono ?_); (exact h); (first | omega | decide | assumption); (first | omega | decide | assumption); rintro e w2 ⟨b2, A2, n2, c2, A'2, n'2, c'2, d2, D2, m2, e2, D'2, m'2, e'2, rfl, h2, h'2, hb2⟩
  clear cx1_0_0 cx1_0_1 cx1_0_2 cx1_0_3 lx1_0_0 lx1_0_1 lx1_0_2 lx1_0_3
  have q2 : Below w1.heap.size w1 w2 := hb2
  replace h := h.belw q2
  replace x1_0 := x1_0.below q2 x1_0.lt
  replace x1_1 := x1_1.below q2 x1_1.lt
  have bw2 : Below w.heap.size w w2 := bw1.trans (q2.mono bw1.size)
  have lw2 : w1.heap.size ≤ w2.heap.size := q2.size
  clear hb2 q2 bw1
  obtain ⟨cx1_1_0, cx1_1_1, cx1_1_2⟩ := x1_1.c3
  obtain ⟨fx1_1_0, fx1_1_1, fx1_1_2⟩ := x1_1.f3
  obtain ⟨lx1_1_0, lx1_1_1, lx1_1_2, lx1_1_3⟩ := lts1 x1_1.lt
  go_wp2_with fail
  refine bodyPost_ret (v := .tuple #[.agg #[.bool b2, .slice A2 n2 c2, .slice A'2 n'2 c'2], .nilIface]) (by simp [results, Tryz.results21, go_sem, *] <;> first | rfl | exact ⟨rfl, rfl⟩) rfl ?_
  exact ⟨b2, A2, n2, c2, A'2, n'2, c'2, rfl, h2.keep ((((((Kp.refl w2).setB (p := ⟨w.heap.size + 1, 0, none⟩) x1_1.box (by decide) (.bool b2)).setB (p := ⟨w.heap.size + 1, 1, none⟩) (x1_1.box.set ⟨w.heap.size + 1, 0, none⟩ (.bool b2)) (by decide) (.slice A2 n2 c2)).setB (p := ⟨w.heap.size + 1, 2, none⟩) ((x1_1.box.set ⟨w.heap.size + 1, 0, none⟩ (.bool b2)).set ⟨w.heap.size + 1, 1, none⟩ (.slice A2 n2 c2)) (by decide) (.slice A'2 n'2 c'2)).alloc (.cells #[.bool b2, .slice A2 n2 c2, .slice A'2 n'2 c'2] 24)).alloc (.cells #[.bool d2, .slice D2 m2 e2, .slice D'2 m'2 e'2] 24)), (((((bw2.setCell (p := ⟨w.heap.size + 1, 0, none⟩) (by dsimp only; omega) (.bool b2)).setCell (p := ⟨w.heap.size + 1, 1, none⟩) (by dsimp only; omega) (.slice A2 n2 c2)).setCell (p := ⟨w.heap.size + 1, 2, none⟩) (by dsimp only; omega) (.slice A'2 n'2 c'2)).alloc (by first | omega | (simp <;> omega)) (.cells #[.bool b2, .slice A2 n2 c2, .slice A'2 n'2 c'2] 24)).alloc (by first | omega | (simp <;> omega)) (.cells #[.bool d2, .slice D2 m2 e2, .slice D'2 m'2 e'2] 24))⟩
set_option maxRecDepth 100000 in
set_option maxHeartbeats 2000000 in
/-- turn.Sin -/
theorem t_sin (w : World) (b : Bool) (A : Option Addr) (n c : Nat) (D : Option Addr) (m e : Nat) (x : Bool) (t : TN) (k : Nat) (h : TK w b A n c D m e x t k) (h0 : 0 < k) (hk : k ≤ 1000000) :
    Calls Tryz.prog 23 #[.agg #[.bool b, .slice A n c, .slice D m e, .bool x]] w (RetFe w .nilIface (tsin t) (4 * k + 4)) := by
  go_enter Tryz.func23, Tryz.ntmps23
  go_wp2_with fail
  (with_reducible refine (t_check _ b A n c D m e x (t) (k) ?_ ?_ ?_).mono ?_); (exact (h.belw (((Below.refl _ _).alloc (Nat.le_refl _) _).alloc (by simp) _))); (first | omega | decide | assumption); (first | omega | decide | assumption); rintro e w1 ⟨rfl, hb1⟩
  have q1 : Below w.heap.size w w1 := (((Below.refl _ _).alloc (Nat.le_refl _) _).alloc (by simp) _).trans (hb1.mono (by simp <;> omega))
  replace h := h.belw q1
  have x1_0 : Blk w1 (w.heap.size) 26 #[.bool b, .slice A n c, .slice D m e, .bool x] := ((blkAt _ _ _ (by simp)).alloc _).below hb1 (by simp <;> omega)
  have x1_1 : Blk w1 (w.heap.size + 1) 24 #[.bool false, .slice none 0 0, .slice none 0 0] := (blkAt _ _ _ (by simp)).below hb1 (by simp)
  have bw1 : Below w.heap.size w w1 := (brefl w).trans (q1.mono (brefl w).size)
  have lw1 : w.heap.size + 2 ≤ w1.heap.size := by have := hb1.size; simp at this; omega
  clear hb1 q1
  obtain ⟨cx1_0_0, cx1_0_1, cx1_0_2, cx1_0_3⟩ := x1_0.c4
  obtain ⟨lx1_0_0, lx1_0_1, lx1_0_2, lx1_0_3⟩ := lts0 x1_0.lt
  go_wp2_with fail
  (with_reducible refine (t_direction _ b A n c D m e x (t) (k) ?_ ?_ ?_).mono ?_); (exact h); (first | omega | decide | assumption); (first | omega | decide | assumption); rintro e w2 ⟨b2, A2, n2, c2, A'2, n'2, c'2, d2, D2, m2, e2, D'2, m'2, e'2, rfl, h2, h'2, hb2⟩
  clear cx1_0_0 cx1_0_1 cx1_0_2 cx1_0_3 lx1_0_0 lx1_0_1 lx1_0_2 lx1_0_3
  have q2 : Below w1.heap.size w1 w2 := hb2
  replace h := h.belw q2
  replace x1_0 := x1_0.below q2 x1_0.lt
  replace x1_1 := x1_1.below q2 x1_1.lt
  have bw2 : Below w.heap.size w w2 := bw1.trans (q2.mono bw1.size)
  have lw2 : w1.heap.size ≤ w2.heap.size := q2.size
  clear hb2 q2 bw1
  obtain ⟨cx1_1_0, cx1_1_1, cx1_1_2⟩ := x1_1.c3
  obtain ⟨fx1_1_0, fx1_1_1, fx1_1_2⟩ := x1_1.f3
  obtain ⟨lx1_1_0, lx1_1_1, lx1_1_2, lx1_1_3⟩ := lts1 x1_1.lt
  go_wp2_with fail
  refine bodyPost_ret (v := .tuple #[.agg #[.bool d2, .slice D2 m2 e2, .slice D'2 m'2 e'2], .nilIface]) (by simp [results, Tryz.results23, go_sem, *] <;> first | rfl | exact ⟨rfl, rfl⟩) rfl ?_
  exact ⟨d2, D2, m2, e2, D'2, m'2, e'2, rfl, h'2.keep ((((((Kp.refl w2).setB (p := ⟨w.heap.size + 1, 0, none⟩) x1_1.box (by decide) (.bool d2)).setB (p := ⟨w.heap.size + 1, 1, none⟩) (x1_1.box.set ⟨w.heap.size + 1, 0, none⟩ (.bool d2)) (by decide) (.slice D2 m2 e2)).setB (p := ⟨w.heap.size + 1, 2, none⟩) ((x1_1.box.set ⟨w.heap.size + 1, 0, none⟩ (.bool d2)).set ⟨w.heap.size + 1, 1, none⟩ (.slice D2 m2 e2)) (by decide) (.slice D'2 m'2 e'2)).alloc (.cells #[.bool b2, .slice A2 n2 c2, .slice A'2 n'2 c'2] 24)).alloc (.cells #[.bool d2, .slice D2 m2 e2, .slice D'2 m'2 e'2] 24)), (((((bw2.setCell (p := ⟨w.heap.size + 1, 0, none⟩) (by dsimp only; omega) (.bool d2)).setCell (p := ⟨w.heap.size + 1, 1, none⟩) (by dsimp only; omega) (.slice D2 m2 e2)).setCell (p := ⟨w.heap.size + 1, 2, none⟩) (by dsimp only; omega) (.slice D'2 m'2 e'2)).alloc (by first | omega | (simp <;> omega)) (.cells #[.bool b2, .slice A2 n2 c2, .slice A'2 n'2 c'2] 24)).alloc (by first | omega | (simp <;> omega)) (.cells #[.bool d2, .slice D2 m2 e2, .slice D'2 m'2 e'2] 24))⟩
end Go.Proofs.YtmneloabphplmaaGreat

/- Walks: sums of turns. -/
namespace Go.Proofs.YtmneloabphplmaaGreat
open Go Go.RowKit Bn
attribute [local go_sem ↓] Go.wp_at_zero Go.wp_at_succ
theorem QK.qv {w : World} {b : Bool} {A D : Option Addr} {n c m e k : Nat} {q : Rat} (h : QK w b A n c D m e q k) : QV w b A n c D m e q k := by
  obtain ⟨a, h1, rfl, h2⟩ := h
  unfold QV; rw [rd_of_ok h1.2.1.1 h1.2.2.1.1 h2]; exact h1
theorem TK.tv {w : World} {b x : Bool} {A D : Option Addr} {n c m e k : Nat} {t : TN} (h : TK w b A n c D m e x t k) : TV w b A n c D m e x t k := ⟨h.1.qv, h.2⟩
theorem tv_zero (w : World) (k : Nat) : TV w false none 0 0 none 0 0 false tzero k := ⟨QV.zero _ _, rfl, tzero_ok⟩
theorem tv_mk {w : World} {b : Bool} {A D : Option Addr} {n c m e k : Nat} {q : Rat} (h : QV w b A n c D m e q k) : TV w b A n c D m e false ⟨q, false⟩ k := ⟨h, rfl, fun h => nomatch h⟩
theorem sgn_ne {q : Rat} {s : Int} (hs : q.num.sign = s) (h : q ≠ 0) : ((s : Int) == 0) = false := by
  simp; rintro rfl; exact h (Rat.num_eq_zero.1 (Int.sign_eq_zero_iff_zero.1 hs))
theorem sgn_eq {q : Rat} (h : q = 0) : q.num.sign = 0 := by rw [h]; rfl
set_option maxRecDepth 100000 in
set_option maxHeartbeats 4000000 in
/-- turn.add -/
theorem t_add_tt (w : World) (b : Bool) (A : Option Addr) (n c : Nat) (D : Option Addr) (m e : Nat) (t : TN) (k : Nat) (h : TK w b A n c D m e true t k) (b' : Bool) (A' : Option Addr) (n' c' : Nat) (D' : Option Addr) (m' e' : Nat) (t' : TN) (k' : Nat) (h' : TK w b' A' n' c' D' m' e' true t' k') (h0 : 0 < k) (hk : k ≤ 1000000) (h0' : 0 < k') (hk' : k' ≤ 1000000)  :
    Calls Tryz.prog 28 #[.agg #[.bool b, .slice A n c, .slice D m e, .bool true], .agg #[.bool b', .slice A' n' c', .slice D' m' e', .bool true]] w (RetT w (tadd t t') (2 * k + 2 * k' + 3)) := by
  rw [show tadd t t' = tzero by unfold tadd tadd1; simp [← h.2.1, ← h'.2.1]]
  go_enter Tryz.func28, Tryz.ntmps28
  go_wp2_with fail
  refine bodyPost_ret (v := .agg #[.bool false, .slice none 0 0, .slice none 0 0, .bool false]) (by simp [results, Tryz.results28, go_sem, *] <;> first | rfl | exact ⟨rfl, rfl⟩) rfl ?_
  exact ⟨false, none, 0, 0, none, 0, 0, false, rfl, tv_zero _ _, ((((brefl w).alloc (by first | omega | (simp <;> omega)) (.cells #[.bool b, .slice A n c, .slice D m e, .bool true] 26)).alloc (by first | omega | (simp <;> omega)) (.cells #[.bool b', .slice A' n' c', .slice D' m' e', .bool true] 26)).alloc (by first | omega | (simp <;> omega)) (.cells #[.bool false, .slice none 0 0, .slice none 0 0, .bool false] 26))⟩
set_option maxRecDepth 100000 in
set_option maxHeartbeats 4000000 in
/-- turn.add -/
theorem t_add_tf0 (w : World) (b : Bool) (A : Option Addr) (n c : Nat) (D : Option Addr) (m e : Nat) (t : TN) (k : Nat) (h : TK w b A n c D m e true t k) (b' : Bool) (A' : Option Addr) (n' c' : Nat) (D' : Option Addr) (m' e' : Nat) (t' : TN) (k' : Nat) (h' : TK w b' A' n' c' D' m' e' false t' k') (h0 : 0 < k) (hk : k ≤ 1000000) (h0' : 0 < k') (hk' : k' ≤ 1000000) (hz : t'.t = 0) :
    Calls Tryz.prog 28 #[.agg #[.bool b, .slice A n c, .slice D m e, .bool true], .agg #[.bool b', .slice A' n' c', .slice D' m' e', .bool false]] w (RetT w (tadd t t') (2 * k + 2 * k' + 3)) := by
  rw [show tadd t t' = t by rcases t with ⟨q, x⟩; unfold tadd tadd1 thalf; simp only; have h1 := h.2.1; have h2 := h.2.2; have h3 := h'.2.1; simp only at h1; subst h1; simp [← h3, hz]; exact (h2 rfl).symm]
  have HZ := Lib.hid (sgn_eq hz)
  clear hz
  go_enter Tryz.func28, Tryz.ntmps28
  go_wp2_with fail
  (with_reducible refine (f_sign_e _ b' A' n' c' D' m' e' ((t').t) (k') ?_ (0) ?_ ?_ ?_).mono ?_); (exact (h'.belw ((((Below.refl _ _).alloc (Nat.le_refl _) _).alloc (by simp) _).alloc (by simp <;> omega) _)).qz); (exact HZ.out); (first | omega | decide | assumption); (first | omega | decide | assumption); rintro e w1 ⟨rfl, hb1⟩
  have q1 : Below w.heap.size w w1 := ((((Below.refl _ _).alloc (Nat.le_refl _) _).alloc (by simp) _).alloc (by simp <;> omega) _).trans (hb1.mono (by simp <;> omega))
  replace h := h.belw q1
  replace h' := h'.belw q1
  have x1_0 : Blk w1 (w.heap.size) 26 #[.bool b, .slice A n c, .slice D m e, .bool true] := (((blkAt _ _ _ (by simp)).alloc _).alloc _).below hb1 (by simp <;> omega)
  have x1_1 : Blk w1 (w.heap.size + 1) 26 #[.bool b', .slice A' n' c', .slice D' m' e', .bool false] := ((blkAt _ _ _ (by simp)).alloc _).below hb1 (by simp <;> omega)
  have x1_2 : Blk w1 (w.heap.size + 1 + 1) 26 #[.bool false, .slice none 0 0, .slice none 0 0, .bool false] := (blkAt _ _ _ (by simp)).below hb1 (by simp)
  have bw1 : Below w.heap.size w w1 := (brefl w).trans (q1.mono (brefl w).size)
  have lw1 : w.heap.size + 3 ≤ w1.heap.size := by have := hb1.size; simp at this; omega
  clear hb1 q1
  obtain ⟨cx1_0_0, cx1_0_1, cx1_0_2, cx1_0_3⟩ := x1_0.c4
  obtain ⟨lx1_0_0, lx1_0_1, lx1_0_2, lx1_0_3⟩ := lts0 x1_0.lt
  obtain ⟨cx1_2_0, cx1_2_1, cx1_2_2, cx1_2_3⟩ := x1_2.c4
  obtain ⟨fx1_2_0, fx1_2_1, fx1_2_2, fx1_2_3⟩ := x1_2.f4
  obtain ⟨lx1_2_0, lx1_2_1, lx1_2_2, lx1_2_3⟩ := lts2 x1_2.lt
  go_wp2_with fail
  refine bodyPost_ret (v := .agg #[.bool b, .slice A n c, .slice D m e, .bool true]) (by simp [results, Tryz.results28, go_sem, *] <;> first | rfl | exact ⟨rfl, rfl⟩) rfl ?_
  have kp := (((((Kp.refl w1).setB (p := ⟨w.heap.size + 1 + 1, 0, none⟩) x1_2.box (by decide) (.bool b)).setB (p := ⟨w.heap.size + 1 + 1, 1, none⟩) (x1_2.box.set ⟨w.heap.size + 1 + 1, 0, none⟩ (.bool b)) (by decide) (.slice A n c)).setB (p := ⟨w.heap.size + 1 + 1, 2, none⟩) ((x1_2.box.set ⟨w.heap.size + 1 + 1, 0, none⟩ (.bool b)).set ⟨w.heap.size + 1 + 1, 1, none⟩ (.slice A n c)) (by decide) (.slice D m e)).setB (p := ⟨w.heap.size + 1 + 1, 3, none⟩) (((x1_2.box.set ⟨w.heap.size + 1 + 1, 0, none⟩ (.bool b)).set ⟨w.heap.size + 1 + 1, 1, none⟩ (.slice A n c)).set ⟨w.heap.size + 1 + 1, 2, none⟩ (.slice D m e)) (by decide) (.bool true))
  exact ⟨b, A, n, c, D, m, e, true, rfl, (h.tv.keep kp).mono (by omega), ((((bw1.setCell (p := ⟨w.heap.size + 1 + 1, 0, none⟩) (by dsimp only; omega) (.bool b)).setCell (p := ⟨w.heap.size + 1 + 1, 1, none⟩) (by dsimp only; omega) (.slice A n c)).setCell (p := ⟨w.heap.size + 1 + 1, 2, none⟩) (by dsimp only; omega) (.slice D m e)).setCell (p := ⟨w.heap.size + 1 + 1, 3, none⟩) (by dsimp only; omega) (.bool true))⟩
set_option maxRecDepth 100000 in
set_option maxHeartbeats 4000000 in
/-- turn.add -/
theorem t_add_tf1 (w : World) (b : Bool) (A : Option Addr) (n c : Nat) (D : Option Addr) (m e : Nat) (t : TN) (k : Nat) (h : TK w b A n c D m e true t k) (b' : Bool) (A' : Option Addr) (n' c' : Nat) (D' : Option Addr) (m' e' : Nat) (t' : TN) (k' : Nat) (h' : TK w b' A' n' c' D' m' e' false t' k') (h0 : 0 < k) (hk : k ≤ 1000000) (h0' : 0 < k') (hk' : k' ≤ 1000000) (hz : t'.t ≠ 0) :
    Calls Tryz.prog 28 #[.agg #[.bool b, .slice A n c, .slice D m e, .bool true], .agg #[.bool b', .slice A' n' c', .slice D' m' e', .bool false]] w (RetT w (tadd t t') (2 * k + 2 * k' + 3)) := by
  have HT := Lib.hid (show tadd t t' = ⟨((-1 : Int) : Rat) / t'.t, false⟩ by unfold tadd tadd1; simp [← h.2.1, ← h'.2.1, hz])
  obtain ⟨s, hs⟩ : ∃ s, t'.t.num.sign = s := ⟨_, rfl⟩
  have e0 := sgn_ne hs hz
  have HZ := Lib.hid hs
  have HNE := Lib.hid hz
  clear hz hs
  go_enter Tryz.func28, Tryz.ntmps28
  go_wp2_with fail
  (with_reducible refine (f_sign_e _ b' A' n' c' D' m' e' ((t').t) (k') ?_ (s) ?_ ?_ ?_).mono ?_); (exact (h'.belw ((((Below.refl _ _).alloc (Nat.le_refl _) _).alloc (by simp) _).alloc (by simp <;> omega) _)).qz); (exact HZ.out); (first | omega | decide | assumption); (first | omega | decide | assumption); rintro e w1 ⟨rfl, hb1⟩
  have q1 : Below w.heap.size w w1 := ((((Below.refl _ _).alloc (Nat.le_refl _) _).alloc (by simp) _).alloc (by simp <;> omega) _).trans (hb1.mono (by simp <;> omega))
  replace h := h.belw q1
  replace h' := h'.belw q1
  have x1_0 : Blk w1 (w.heap.size) 26 #[.bool b, .slice A n c, .slice D m e, .bool true] := (((blkAt _ _ _ (by simp)).alloc _).alloc _).below hb1 (by simp <;> omega)
  have x1_1 : Blk w1 (w.heap.size + 1) 26 #[.bool b', .slice A' n' c', .slice D' m' e', .bool false] := ((blkAt _ _ _ (by simp)).alloc _).below hb1 (by simp <;> omega)
  have x1_2 : Blk w1 (w.heap.size + 1 + 1) 26 #[.bool false, .slice none 0 0, .slice none 0 0, .bool false] := (blkAt _ _ _ (by simp)).below hb1 (by simp)
  have bw1 : Below w.heap.size w w1 := (brefl w).trans (q1.mono (brefl w).size)
  have lw1 : w.heap.size + 3 ≤ w1.heap.size := by have := hb1.size; simp at this; omega
  clear hb1 q1
  obtain ⟨cx1_0_0, cx1_0_1, cx1_0_2, cx1_0_3⟩ := x1_0.c4
  obtain ⟨lx1_0_0, lx1_0_1, lx1_0_2, lx1_0_3⟩ := lts0 x1_0.lt
  obtain ⟨cx1_1_0, cx1_1_1, cx1_1_2, cx1_1_3⟩ := x1_1.c4
  obtain ⟨lx1_1_0, lx1_1_1, lx1_1_2, lx1_1_3⟩ := lts1 x1_1.lt
  obtain ⟨cx1_2_0, cx1_2_1, cx1_2_2, cx1_2_3⟩ := x1_2.c4
  obtain ⟨fx1_2_0, fx1_2_1, fx1_2_2, fx1_2_3⟩ := x1_2.f4
  obtain ⟨lx1_2_0, lx1_2_1, lx1_2_2, lx1_2_3⟩ := lts2 x1_2.lt
  go_wp2_with fail
  have nfx1_0_0 : ¬ w.heap.size = w.heap.size + 1 + 1 := by omega
  have nex1_0_0 : ¬ w.heap.size = w.heap.size + 2 := by omega
  have nfx1_1_0 : ¬ w.heap.size + 1 = w.heap.size + 1 + 1 := by omega
  have nex1_1_0 : ¬ w.heap.size = w.heap.size + 1 := by omega
  go_region_held3 (fun w' => SeesX w1.heap.size (w.heap.size + 1 + 1) w1 w') (first | with_reducible exact SeesX.of (Nat.le_refl _) (by assumption) | with_reducible exact SeesX.of (Nat.le_refl _) (brefl _).drew | with_reducible exact (SeesX.set (SeesX.set (SeesX.set (SeesX.set (SeesX.of (Nat.le_refl _) (by assumption)))))) | with_reducible exact (SeesX.set (SeesX.set (SeesX.set (SeesX.of (Nat.le_refl _) (by assumption))))) | with_reducible exact (SeesX.set (SeesX.set (SeesX.of (Nat.le_refl _) (by assumption)))) | with_reducible exact (SeesX.set (SeesX.of (Nat.le_refl _) (by assumption))) | exact SeesX.of (Nat.le_refl _) (below_drewN (brefl _) 1) | exact SeesX.of (Nat.le_refl _) (below_drewN (by assumption) _))
    (first
      | (go_at_call 33; (with_reducible refine (f_of _ ((-1)) ?_ ?_).mono ?_); (first | omega | decide | assumption); (first | omega | decide | assumption); rintro e w2 ⟨b2, A2, n2, c2, A'2, n'2, c'2, rfl, h2, hb2⟩; replace hb2 := bnext (below_drewN (brefl _) 1) hb2; have q2 : Below w1.heap.size w1 w2 := bnext (brefl w1) hb2; replace h := h.belw hb2; replace h' := h'.belw hb2)
      | (go_at_call 35; (with_reducible refine (t_over _ b2 A2 n2 c2 A'2 n'2 c'2 ((((-1) : Int) : Rat)) (1) ?_ b' A' n' c' D' m' e' ((t').t) (k') ?_ ?_ ?_ ?_ ?_ ?_).mono ?_); (exact h2.qz); (exact h'.qz); (first | omega | decide | assumption); (first | omega | decide | assumption); (first | omega | decide | assumption); (first | omega | decide | assumption); (exact HNE.out); rintro e w3 ⟨b3, A3, n3, c3, A'3, n'3, c'3, rfl, h3, hb3⟩; have q3 : Below w1.heap.size w1 w3 := bnext q2 hb3; replace h := h.belw hb3; replace h' := h'.belw hb3; replace h2 := h2.belw hb3; have x1_2 : Blk w3 (w.heap.size + 1 + 1) 26 #[.bool false, .slice none 0 0, .slice none 0 0, .bool false] := x1_2.below q3 x1_2.lt; obtain ⟨cx1_2_0, cx1_2_1, cx1_2_2, cx1_2_3⟩ := x1_2.c4; obtain ⟨fx1_2_0, fx1_2_1, fx1_2_2, fx1_2_3⟩ := x1_2.f4))
  have bw3 : Below w.heap.size w w3 := bw1.trans (q3.mono bw1.size)
  clear cx1_0_0 cx1_0_1 cx1_0_2 cx1_0_3 lx1_0_0 lx1_0_1 lx1_0_2 lx1_0_3 cx1_1_0 cx1_1_1 cx1_1_2 cx1_1_3 lx1_1_0 lx1_1_1 lx1_1_2 lx1_1_3 cx1_2_0 fx1_2_0 cx1_2_1 fx1_2_1 cx1_2_2 fx1_2_2 cx1_2_3 fx1_2_3 lx1_2_0 lx1_2_1 lx1_2_2 lx1_2_3
  replace x1_0 := x1_0.below q3 x1_0.lt
  replace x1_1 := x1_1.below q3 x1_1.lt
  have lw3 : w1.heap.size ≤ w3.heap.size := q3.size
  obtain ⟨cx1_2_0, cx1_2_1, cx1_2_2, cx1_2_3⟩ := x1_2.c4
  obtain ⟨fx1_2_0, fx1_2_1, fx1_2_2, fx1_2_3⟩ := x1_2.f4
  go_wp2_with fail
  rw [HT.out]
  refine bodyPost_ret (v := .agg #[.bool b3, .slice A3 n3 c3, .slice A'3 n'3 c'3, .bool false]) (by simp [results, Tryz.results28, go_sem, *] <;> first | rfl | exact ⟨rfl, rfl⟩) rfl ?_
  have kp := (((((Kp.refl w3).setB (p := ⟨w.heap.size + 1 + 1, 0, none⟩) x1_2.box (by decide) (.bool b3)).setB (p := ⟨w.heap.size + 1 + 1, 1, none⟩) (x1_2.box.set ⟨w.heap.size + 1 + 1, 0, none⟩ (.bool b3)) (by decide) (.slice A3 n3 c3)).setB (p := ⟨w.heap.size + 1 + 1, 2, none⟩) ((x1_2.box.set ⟨w.heap.size + 1 + 1, 0, none⟩ (.bool b3)).set ⟨w.heap.size + 1 + 1, 1, none⟩ (.slice A3 n3 c3)) (by decide) (.slice A'3 n'3 c'3)).setB (p := ⟨w.heap.size + 1 + 1, 3, none⟩) (((x1_2.box.set ⟨w.heap.size + 1 + 1, 0, none⟩ (.bool b3)).set ⟨w.heap.size + 1 + 1, 1, none⟩ (.slice A3 n3 c3)).set ⟨w.heap.size + 1 + 1, 2, none⟩ (.slice A'3 n'3 c'3)) (by decide) (.bool false))
  exact ⟨b3, A3, n3, c3, A'3, n'3, c'3, false, rfl, (tv_mk (h3.keep kp)).mono (by omega), ((((bw3.setCell (p := ⟨w.heap.size + 1 + 1, 0, none⟩) (by dsimp only; omega) (.bool b3)).setCell (p := ⟨w.heap.size + 1 + 1, 1, none⟩) (by dsimp only; omega) (.slice A3 n3 c3)).setCell (p := ⟨w.heap.size + 1 + 1, 2, none⟩) (by dsimp only; omega) (.slice A'3 n'3 c'3)).setCell (p := ⟨w.heap.size + 1 + 1, 3, none⟩) (by dsimp only; omega) (.bool false))⟩
theorem t_add_tf (w : World) (b : Bool) (A : Option Addr) (n c : Nat) (D : Option Addr) (m e : Nat) (t : TN) (k : Nat) (h : TK w b A n c D m e true t k) (b' : Bool) (A' : Option Addr) (n' c' : Nat) (D' : Option Addr) (m' e' : Nat) (t' : TN) (k' : Nat) (h' : TK w b' A' n' c' D' m' e' false t' k') (h0 : 0 < k) (hk : k ≤ 1000000) (h0' : 0 < k') (hk' : k' ≤ 1000000) : Calls Tryz.prog 28 #[.agg #[.bool b, .slice A n c, .slice D m e, .bool true], .agg #[.bool b', .slice A' n' c', .slice D' m' e', .bool false]] w (RetT w (tadd t t') (2 * k + 2 * k' + 3)) := by
  by_cases hz : t'.t = 0
  · exact t_add_tf0 w b A n c D m e t k h b' A' n' c' D' m' e' t' k' h' h0 hk h0' hk' hz
  · exact t_add_tf1 w b A n c D m e t k h b' A' n' c' D' m' e' t' k' h' h0 hk h0' hk' hz
set_option maxRecDepth 100000 in
set_option maxHeartbeats 4000000 in
/-- turn.add -/
theorem t_add_ft (w : World) (b : Bool) (A : Option Addr) (n c : Nat) (D : Option Addr) (m e : Nat) (t : TN) (k : Nat) (h : TK w b A n c D m e false t k) (b' : Bool) (A' : Option Addr) (n' c' : Nat) (D' : Option Addr) (m' e' : Nat) (t' : TN) (k' : Nat) (h' : TK w b' A' n' c' D' m' e' true t' k') (h0 : 0 < k) (hk : k ≤ 1000000) (h0' : 0 < k') (hk' : k' ≤ 1000000)  :
    Calls Tryz.prog 28 #[.agg #[.bool b, .slice A n c, .slice D m e, .bool false], .agg #[.bool b', .slice A' n' c', .slice D' m' e', .bool true]] w (RetT w (tadd t t') (2 * k + 2 * k' + 3)) := by
  have HT := Lib.hid (tadd_comm h.2.2 h'.2.2)
  go_enter Tryz.func28, Tryz.ntmps28
  go_wp2_with fail
  (with_reducible refine (t_add_tf _ b' A' n' c' D' m' e' (t') (k') ?_ b A n c D m e (t) (k) ?_ ?_ ?_ ?_ ?_).mono ?_); (exact (h'.belw ((((Below.refl _ _).alloc (Nat.le_refl _) _).alloc (by simp) _).alloc (by simp <;> omega) _))); (exact (h.belw ((((Below.refl _ _).alloc (Nat.le_refl _) _).alloc (by simp) _).alloc (by simp <;> omega) _))); (first | omega | decide | assumption); (first | omega | decide | assumption); (first | omega | decide | assumption); (first | omega | decide | assumption); rintro e w1 ⟨b1, A1, n1, c1, A'1, n'1, c'1, x1, rfl, h1, hb1⟩
  have q1 : Below w.heap.size w w1 := ((((Below.refl _ _).alloc (Nat.le_refl _) _).alloc (by simp) _).alloc (by simp <;> omega) _).trans (hb1.mono (by simp <;> omega))
  replace h := h.belw q1
  replace h' := h'.belw q1
  have x1_0 : Blk w1 (w.heap.size) 26 #[.bool b, .slice A n c, .slice D m e, .bool false] := (((blkAt _ _ _ (by simp)).alloc _).alloc _).below hb1 (by simp <;> omega)
  have x1_1 : Blk w1 (w.heap.size + 1) 26 #[.bool b', .slice A' n' c', .slice D' m' e', .bool true] := ((blkAt _ _ _ (by simp)).alloc _).below hb1 (by simp <;> omega)
  have x1_2 : Blk w1 (w.heap.size + 1 + 1) 26 #[.bool false, .slice none 0 0, .slice none 0 0, .bool false] := (blkAt _ _ _ (by simp)).below hb1 (by simp)
  have bw1 : Below w.heap.size w w1 := (brefl w).trans (q1.mono (brefl w).size)
  have lw1 : w.heap.size + 3 ≤ w1.heap.size := by have := hb1.size; simp at this; omega
  clear hb1 q1
  obtain ⟨cx1_2_0, cx1_2_1, cx1_2_2, cx1_2_3⟩ := x1_2.c4
  obtain ⟨fx1_2_0, fx1_2_1, fx1_2_2, fx1_2_3⟩ := x1_2.f4
  obtain ⟨lx1_2_0, lx1_2_1, lx1_2_2, lx1_2_3⟩ := lts2 x1_2.lt
  go_wp2_with fail
  rw [HT.out]
  refine bodyPost_ret (v := .agg #[.bool b1, .slice A1 n1 c1, .slice A'1 n'1 c'1, .bool x1]) (by simp [results, Tryz.results28, go_sem, *] <;> first | rfl | exact ⟨rfl, rfl⟩) rfl ?_
  have kp := (((((Kp.refl w1).setB (p := ⟨w.heap.size + 1 + 1, 0, none⟩) x1_2.box (by decide) (.bool b1)).setB (p := ⟨w.heap.size + 1 + 1, 1, none⟩) (x1_2.box.set ⟨w.heap.size + 1 + 1, 0, none⟩ (.bool b1)) (by decide) (.slice A1 n1 c1)).setB (p := ⟨w.heap.size + 1 + 1, 2, none⟩) ((x1_2.box.set ⟨w.heap.size + 1 + 1, 0, none⟩ (.bool b1)).set ⟨w.heap.size + 1 + 1, 1, none⟩ (.slice A1 n1 c1)) (by decide) (.slice A'1 n'1 c'1)).setB (p := ⟨w.heap.size + 1 + 1, 3, none⟩) (((x1_2.box.set ⟨w.heap.size + 1 + 1, 0, none⟩ (.bool b1)).set ⟨w.heap.size + 1 + 1, 1, none⟩ (.slice A1 n1 c1)).set ⟨w.heap.size + 1 + 1, 2, none⟩ (.slice A'1 n'1 c'1)) (by decide) (.bool x1))
  exact ⟨b1, A1, n1, c1, A'1, n'1, c'1, x1, rfl, (h1.keep kp).mono (by omega), ((((bw1.setCell (p := ⟨w.heap.size + 1 + 1, 0, none⟩) (by dsimp only; omega) (.bool b1)).setCell (p := ⟨w.heap.size + 1 + 1, 1, none⟩) (by dsimp only; omega) (.slice A1 n1 c1)).setCell (p := ⟨w.heap.size + 1 + 1, 2, none⟩) (by dsimp only; omega) (.slice A'1 n'1 c'1)).setCell (p := ⟨w.heap.size + 1 + 1, 3, none⟩) (by dsimp only; omega) (.bool x1))⟩
set_option maxRecDepth 100000 in
set_option maxHeartbeats 4000000 in
/-- turn.add -/
theorem t_add_ff0 (w : World) (b : Bool) (A : Option Addr) (n c : Nat) (D : Option Addr) (m e : Nat) (t : TN) (k : Nat) (h : TK w b A n c D m e false t k) (b' : Bool) (A' : Option Addr) (n' c' : Nat) (D' : Option Addr) (m' e' : Nat) (t' : TN) (k' : Nat) (h' : TK w b' A' n' c' D' m' e' false t' k') (h0 : 0 < k) (hk : k ≤ 1000000) (h0' : 0 < k') (hk' : k' ≤ 1000000) (hz : ((1 : Int) : Rat) - t.t * t'.t = 0) :
    Calls Tryz.prog 28 #[.agg #[.bool b, .slice A n c, .slice D m e, .bool false], .agg #[.bool b', .slice A' n' c', .slice D' m' e', .bool false]] w (RetT w (tadd t t') (2 * k + 2 * k' + 3)) := by
  rw [show tadd t t' = thalf by unfold tadd tadd1; have hz' : 1 - t.t * t'.t = 0 := hz; simp [← h.2.1, ← h'.2.1, hz']]
  have HZ := Lib.hid (sgn_eq hz)
  clear hz
  go_enter Tryz.func28, Tryz.ntmps28
  go_wp2_with fail
  have p1 : Kp w (((w.alloc (.cells #[.bool b, .slice A n c, .slice D m e, .bool false] 26)).alloc (.cells #[.bool b', .slice A' n' c', .slice D' m' e', .bool false] 26)).alloc (.cells #[.bool false, .slice none 0 0, .slice none 0 0, .bool false] 26)) := ((((Kp.refl w).alloc (.cells #[.bool b, .slice A n c, .slice D m e, .bool false] 26)).alloc (.cells #[.bool b', .slice A' n' c', .slice D' m' e', .bool false] 26)).alloc (.cells #[.bool false, .slice none 0 0, .slice none 0 0, .bool false] 26))
  have bw1 : Below w.heap.size w (((w.alloc (.cells #[.bool b, .slice A n c, .slice D m e, .bool false] 26)).alloc (.cells #[.bool b', .slice A' n' c', .slice D' m' e', .bool false] 26)).alloc (.cells #[.bool false, .slice none 0 0, .slice none 0 0, .bool false] 26)) := ((((brefl w).alloc (by first | omega | (simp <;> omega)) (.cells #[.bool b, .slice A n c, .slice D m e, .bool false] 26)).alloc (by first | omega | (simp <;> omega)) (.cells #[.bool b', .slice A' n' c', .slice D' m' e', .bool false] 26)).alloc (by first | omega | (simp <;> omega)) (.cells #[.bool false, .slice none 0 0, .slice none 0 0, .bool false] 26))
  have x1_0 : Blk (((w.alloc (.cells #[.bool b, .slice A n c, .slice D m e, .bool false] 26)).alloc (.cells #[.bool b', .slice A' n' c', .slice D' m' e', .bool false] 26)).alloc (.cells #[.bool false, .slice none 0 0, .slice none 0 0, .bool false] 26)) (w.heap.size) 26 #[.bool b, .slice A n c, .slice D m e, .bool false] := (((blkAt _ _ _ (by simp)).alloc (.cells #[.bool b', .slice A' n' c', .slice D' m' e', .bool false] 26)).alloc (.cells #[.bool false, .slice none 0 0, .slice none 0 0, .bool false] 26))
  have x1_1 : Blk (((w.alloc (.cells #[.bool b, .slice A n c, .slice D m e, .bool false] 26)).alloc (.cells #[.bool b', .slice A' n' c', .slice D' m' e', .bool false] 26)).alloc (.cells #[.bool false, .slice none 0 0, .slice none 0 0, .bool false] 26)) (w.heap.size + 1) 26 #[.bool b', .slice A' n' c', .slice D' m' e', .bool false] := ((blkAt _ _ _ (by simp)).alloc (.cells #[.bool false, .slice none 0 0, .slice none 0 0, .bool false] 26))
  have x1_2 : Blk (((w.alloc (.cells #[.bool b, .slice A n c, .slice D m e, .bool false] 26)).alloc (.cells #[.bool b', .slice A' n' c', .slice D' m' e', .bool false] 26)).alloc (.cells #[.bool false, .slice none 0 0, .slice none 0 0, .bool false] 26)) (w.heap.size + 1 + 1) 26 #[.bool false, .slice none 0 0, .slice none 0 0, .bool false] := (blkAt _ _ _ (by simp))
  have lw1 : w.heap.size + 3 ≤ (((w.alloc (.cells #[.bool b, .slice A n c, .slice D m e, .bool false] 26)).alloc (.cells #[.bool b', .slice A' n' c', .slice D' m' e', .bool false] 26)).alloc (.cells #[.bool false, .slice none 0 0, .slice none 0 0, .bool false] 26)).heap.size := by simp
  generalize hE1 : (((w.alloc (.cells #[.bool b, .slice A n c, .slice D m e, .bool false] 26)).alloc (.cells #[.bool b', .slice A' n' c', .slice D' m' e', .bool false] 26)).alloc (.cells #[.bool false, .slice none 0 0, .slice none 0 0, .bool false] 26)) = w1 at p1 bw1 lw1 x1_0 x1_1 x1_2 ⊢
  clear hE1
  replace h := h.keep p1
  replace h' := h'.keep p1
  obtain ⟨cx1_0_0, cx1_0_1, cx1_0_2, cx1_0_3⟩ := x1_0.c4
  obtain ⟨lx1_0_0, lx1_0_1, lx1_0_2, lx1_0_3⟩ := lts0 x1_0.lt
  obtain ⟨cx1_1_0, cx1_1_1, cx1_1_2, cx1_1_3⟩ := x1_1.c4
  obtain ⟨lx1_1_0, lx1_1_1, lx1_1_2, lx1_1_3⟩ := lts1 x1_1.lt
  refine wp_region_lin (B := w.heap.size) (fr := fun xf => ⟨#[.agg #[.bool b, .slice A n c, .slice D m e, .bool false], .agg #[.bool b', .slice A' n' c', .slice D' m' e', .bool false], .pointer (some ⟨w.heap.size, 0, none⟩), .pointer (some ⟨w.heap.size + 1, 0, none⟩), .pointer (some ⟨w.heap.size + 1 + 1, 0, none⟩), xf 7, _, .pointer (some ⟨w.heap.size, 3, none⟩), .bool false, .bool false, _, _, _, undef, .bool false, .pointer (some ⟨w.heap.size + 1, 3, none⟩), .bool false, undef, undef, undef, _, .pointer (some ⟨w.heap.size, 3, none⟩), .bool false, .bool false, _, _, _, _, _, undef, .bool false, .pointer (some ⟨w.heap.size, 3, none⟩), .bool false, undef, undef, undef, undef, undef, xf 0, xf 1, xf 2, xf 3, xf 4, xf 5, xf 6, undef, undef, undef, undef, undef, undef, undef, undef, undef, undef, undef, undef], []⟩) (R := fun i => List.getD [VQ (((1 : Int) : Rat)) (1), PEq (.pointer (some ⟨w.heap.size, 0, none⟩)), PEq (.agg #[.bool b, .slice A n c, .slice D m e]), PEq (.pointer (some ⟨w.heap.size + 1, 0, none⟩)), PEq (.agg #[.bool b', .slice A' n' c', .slice D' m' e']), VQ (((t).t) * ((t').t)) ((k) + (k')), VQ ((((1 : Int) : Rat)) - (((t).t) * ((t').t))) ((1) + ((k) + (k')) + 1), PAny, PAny] i (fun _ _ => True)) (es := [⟨7, 8, 24, #[.bool false, .slice none 0 0, .slice none 0 0], CQ ((((1 : Int) : Rat)) - (((t).t) * ((t').t))) ((1) + ((k) + (k')) + 1)⟩]) (ow := [⟨w.heap.size, 9, 0, 26, #[.bool b, .slice A n c, .slice D m e, .bool false], CAny⟩, ⟨w.heap.size + 1, 9, 0, 26, #[.bool b', .slice A' n' c', .slice D' m' e', .bool false], CAny⟩, ⟨w.heap.size + 1 + 1, 9, 0, 26, #[.bool false, .slice none 0 0, .slice none 0 0, .bool false], CAny⟩]) (x0 := fun _ => undef) (by kernel_rfl)
    (each_of ⟨fun _ _ => rfl, fun _ _ => rfl, fun _ _ => rfl, fun _ _ => rfl, fun _ _ => rfl, fun _ _ => rfl, fun _ _ => rfl, fun _ _ => rfl, fun _ _ => rfl, trivial⟩) (each_of (acyc_from _ 0 (by kernel_rfl))) (AllStab.get _ ⟨stQ _ _, stEq _, stEq _, stEq _, stEq _, stQ _ _, stQ _ _, stAny, stAny, trivial⟩)
    (List.forall_mem_cons.2 ⟨scQ _ _, fun _ h => nomatch h⟩) (List.forall_mem_cons.2 ⟨scAny, List.forall_mem_cons.2 ⟨scAny, List.forall_mem_cons.2 ⟨scAny, fun _ h => nomatch h⟩⟩⟩) (List.forall_mem_cons.2 ⟨⟨by simp, by simp⟩, fun _ h => nomatch h⟩) bw1.size
    (List.forall_mem_cons.2 ⟨⟨x1_0, by show w.heap.size ≤ w.heap.size; omega⟩, List.forall_mem_cons.2 ⟨⟨x1_1, by show w.heap.size ≤ w.heap.size + 1; omega⟩, List.forall_mem_cons.2 ⟨⟨x1_2, by show w.heap.size ≤ w.heap.size + 1 + 1; omega⟩, fun _ h => nomatch h⟩⟩⟩) (ownDist (by simp <;> omega))
    (each_of ⟨?_, ?_, ?_, ?_, ?_, ?_, ?_, ?_, ?_, trivial⟩) ?_
  · exact .inl ⟨by simp, by simp, fun xf wq hk hbl hd K hK => by
      (try dsimp only)
      go_simp
      go_at_call 33
      (with_reducible refine (f_of _ (1) ?_ ?_).mono ?_); (first | omega | decide | assumption); (first | omega | decide | assumption); rintro e wr ⟨b3, A3, n3, c3, A'3, n'3, c'3, rfl, h3, hbr⟩
      exact hK.out _ _ ⟨b3, A3, n3, c3, A'3, n'3, c'3, rfl, h3⟩ hbr⟩
  · exact .inl ⟨by simp, by simp, fun xf wq hk hbl hd K hK => by
      (try dsimp only)
      go_simp
      exact hK.out (.pointer (some ⟨w.heap.size, 0, none⟩)) _ rfl (brefl _)⟩
  · exact .inl ⟨by simp, by simp, fun xf wq hk hbl hd K hK => by
      have d1 : xf 1 = .pointer (some ⟨w.heap.size, 0, none⟩) := hd ⟨1, .data⟩ (by simp) rfl
      have y : Blk wq (w.heap.size) 26 #[.bool b, .slice A n c, .slice D m e, .bool false] := hbl _ (List.Mem.head _) (by simp [Region.binds])
      obtain ⟨c0, c1, c2, c3⟩ := y.c4
      (try dsimp only); (try simp only [d1])
      go_simp
      have hz := hK.out (.agg #[.bool b, .slice A n c, .slice D m e]) _ rfl (brefl _)
      simp only [d1] at hz
      exact hz⟩
  · exact .inl ⟨by simp, by simp, fun xf wq hk hbl hd K hK => by
      (try dsimp only)
      go_simp
      exact hK.out (.pointer (some ⟨w.heap.size + 1, 0, none⟩)) _ rfl (brefl _)⟩
  · exact .inl ⟨by simp, by simp, fun xf wq hk hbl hd K hK => by
      have d3 : xf 3 = .pointer (some ⟨w.heap.size + 1, 0, none⟩) := hd ⟨3, .data⟩ (by simp) rfl
      have y : Blk wq (w.heap.size + 1) 26 #[.bool b', .slice A' n' c', .slice D' m' e', .bool false] := hbl _ (List.Mem.tail _ (List.Mem.head _)) (by simp [Region.binds])
      obtain ⟨c0, c1, c2, c3⟩ := y.c4
      (try dsimp only); (try simp only [d3])
      go_simp
      have hz := hK.out (.agg #[.bool b', .slice A' n' c', .slice D' m' e']) _ rfl (brefl _)
      simp only [d3] at hz
      exact hz⟩
  · exact .inl ⟨by simp, by simp, fun xf wq hk hbl hd K hK => by
      have d2 : xf 2 = .agg #[.bool b, .slice A n c, .slice D m e] := hd ⟨2, .data⟩ (by simp) rfl
      have d4 : xf 4 = .agg #[.bool b', .slice A' n' c', .slice D' m' e'] := hd ⟨4, .data⟩ (by simp) rfl
      (try dsimp only); (try simp only [d2, d4])
      go_simp
      go_at_call 39
      (with_reducible refine (f_mul _ b A n c D m e ((t).t) (k) ?_ b' A' n' c' D' m' e' ((t').t) (k') ?_ ?_ ?_ ?_ ?_).mono ?_); (exact (h.keep hk).qz); (exact (h'.keep hk).qz); (first | omega | decide | assumption); (first | omega | decide | assumption); (first | omega | decide | assumption); (first | omega | decide | assumption); rintro e wr ⟨b4, A4, n4, c4, A'4, n'4, c'4, rfl, h4, hbr⟩
      have hz := hK.out _ _ ⟨b4, A4, n4, c4, A'4, n'4, c'4, rfl, h4⟩ hbr
      simp only [d2, d4] at hz
      exact hz⟩
  · exact .inl ⟨by simp, by simp, fun xf wq hk hbl hd K hK => by
      obtain ⟨b3, A3, n3, c3, A'3, n'3, c'3, d0, h3⟩ : VQ (((1 : Int) : Rat)) (1) (xf 0) wq := hd ⟨0, .data⟩ (by simp) rfl
      obtain ⟨b4, A4, n4, c4, A'4, n'4, c'4, d5, h4⟩ : VQ (((t).t) * ((t').t)) ((k) + (k')) (xf 5) wq := hd ⟨5, .data⟩ (by simp) rfl
      (try dsimp only); (try simp only [d0, d5])
      go_simp
      go_at_call 38
      (with_reducible refine (f_sub _ b3 A3 n3 c3 A'3 n'3 c'3 (((1 : Int) : Rat)) (1) ?_ b4 A4 n4 c4 A'4 n'4 c'4 (((t).t) * ((t').t)) ((k) + (k')) ?_ ?_ ?_ ?_ ?_).mono ?_); (exact h3.qz); (exact h4.qz); (first | omega | decide | assumption); (first | omega | decide | assumption); (first | omega | decide | assumption); (first | omega | decide | assumption); rintro e wr ⟨b5, A5, n5, c5, A'5, n'5, c'5, rfl, h5, hbr⟩
      have hz := hK.out _ _ ⟨b5, A5, n5, c5, A'5, n'5, c'5, rfl, h5⟩ hbr
      simp only [d0, d5] at hz
      exact hz⟩
  · exact .inr (.inl ⟨⟨7, 8, 24, #[.bool false, .slice none 0 0, .slice none 0 0], CQ ((((1 : Int) : Rat)) - (((t).t) * ((t').t))) ((1) + ((k) + (k')) + 1)⟩, by simp, rfl, by simp, by simp, by simp, fun _ _ => True.intro, fun xf wq K hK => by
      (try dsimp only)
      go_simp
      exact hK.out⟩)
  · exact .inr (.inr (.inl ⟨⟨7, 8, 24, #[.bool false, .slice none 0 0, .slice none 0 0], CQ ((((1 : Int) : Rat)) - (((t).t) * ((t').t))) ((1) + ((k) + (k')) + 1)⟩, by simp, rfl, by simp, by simp, by simp, by simp, (show KT 24 = false by decide), fun _ _ => True.intro, ⟨⟨7, .data⟩, by simp, rfl, rfl⟩, fun xf wq g hx hblk hd => by
      obtain ⟨b5, A5, n5, c5, A'5, n'5, c'5, d6, h5⟩ : VQ ((((1 : Int) : Rat)) - (((t).t) * ((t').t))) ((1) + ((k) + (k')) + 1) (xf 6) wq := hd ⟨6, .data⟩ (by simp) rfl
      dsimp only at hx hblk
      refine ⟨[.bool b5, .slice A5 n5 c5, .slice A'5 n'5 c'5], fun w' hk => ⟨b5, A5, n5, c5, A'5, n'5, c'5, rfl, h5.keep hk⟩, fun K hK => ?_⟩
      have hc0 : wq.cell? ⟨g, 0, none⟩ = some (.bool false) := hblk.cell 0
      have hc1 : wq.cell? ⟨g, 1, none⟩ = some (.slice none 0 0) := hblk.cell 1
      have hc2 : wq.cell? ⟨g, 2, none⟩ = some (.slice none 0 0) := hblk.cell 2
      have hf0 : wq.frozen? ⟨g, 0, none⟩ = false := hblk.frozen 0
      have hf1 : wq.frozen? ⟨g, 1, none⟩ = false := hblk.frozen 1
      have hf2 : wq.frozen? ⟨g, 2, none⟩ = false := hblk.frozen 2
      (try dsimp only)
      simp only [hx, d6]
      go_simp
      have hz := hK.out undef
      simp only [hx, d6] at hz
      exact hz⟩))
  clear cx1_0_0 cx1_0_1 cx1_0_2 cx1_0_3 lx1_0_0 lx1_0_1 lx1_0_2 lx1_0_3 cx1_1_0 cx1_1_1 cx1_1_2 cx1_1_3 lx1_1_0 lx1_1_1 lx1_1_2 lx1_1_3
  intro y2 w2 kq2 hbl2 lw2 how hrr hfl hds
  replace h := h.keep kq2
  replace h' := h'.keep kq2
  obtain ⟨_, z2_0, ez, _⟩ := how _ (List.Mem.head _)
  obtain rfl := ez (by simp)
  dsimp only at z2_0
  obtain ⟨_, z2_1, ez, _⟩ := how _ (List.Mem.tail _ (List.Mem.head _))
  obtain rfl := ez (by simp)
  dsimp only at z2_1
  obtain ⟨_, z2_2, ez, _⟩ := how _ (List.Mem.tail _ (List.Mem.tail _ (List.Mem.head _)))
  obtain rfl := ez (by simp)
  dsimp only at z2_2
  obtain ⟨g5_2, _, eg5_2, Gg5_2, xg5_2, ⟨b5, A5, n5, c5, A'5, n'5, c'5, rfl, h5⟩⟩ := hfl _ (List.Mem.head _)
  dsimp only at eg5_2 Gg5_2 xg5_2
  have lgg5_2 : g5_2 < w2.heap.size := xg5_2.lt
  (try dsimp only)
  simp only [eg5_2]
  clear hrr hfl how hds eg5_2
  clear x1_0 x1_1 x1_2
  have bw2 : Below w.heap.size w w2 := bw1.trans hbl2
  clear bw1
  obtain ⟨cxg5_2_0, cxg5_2_1, cxg5_2_2⟩ := xg5_2.c3
  obtain ⟨lxg5_2_0, lxg5_2_1, lxg5_2_2, lxg5_2_3⟩ := lts0 xg5_2.lt
  go_wp2_with fail
  (with_reducible refine (f_sign_e _ b5 A5 n5 c5 A'5 n'5 c'5 ((((1 : Int) : Rat)) - (((t).t) * ((t').t))) ((1) + ((k) + (k')) + 1) ?_ (0) ?_ ?_ ?_).mono ?_); (exact h5.qz); (exact HZ.out); (first | omega | decide | assumption); (first | omega | decide | assumption); rintro e w7 ⟨rfl, hb7⟩
  clear cxg5_2_0 cxg5_2_1 cxg5_2_2 lxg5_2_0 lxg5_2_1 lxg5_2_2 lxg5_2_3
  have q7 : Below w2.heap.size w2 w7 := hb7
  replace h := h.belw q7
  replace h' := h'.belw q7
  replace h5 := h5.belw q7
  replace z2_0 := z2_0.below q7 z2_0.lt
  replace z2_1 := z2_1.below q7 z2_1.lt
  replace z2_2 := z2_2.below q7 z2_2.lt
  replace xg5_2 := xg5_2.below q7 xg5_2.lt
  have bw7 : Below w.heap.size w w7 := bw2.trans (q7.mono bw2.size)
  have lw7 : w2.heap.size ≤ w7.heap.size := q7.size
  clear hb7 q7 bw2
  go_wp2_with fail
  (with_reducible refine (t_half _).mono ?_); rintro e w8 ⟨b8, A8, n8, c8, A'8, n'8, c'8, x8, rfl, h8, hb8⟩
  have q8 : Below w7.heap.size w7 w8 := hb8
  replace h := h.belw q8
  replace h' := h'.belw q8
  replace h5 := h5.belw q8
  replace z2_0 := z2_0.below q8 z2_0.lt
  replace z2_1 := z2_1.below q8 z2_1.lt
  replace z2_2 := z2_2.below q8 z2_2.lt
  replace xg5_2 := xg5_2.below q8 xg5_2.lt
  have bw8 : Below w.heap.size w w8 := bw7.trans (q8.mono bw7.size)
  have lw8 : w7.heap.size ≤ w8.heap.size := q8.size
  clear hb8 q8 bw7
  obtain ⟨cz2_2_0, cz2_2_1, cz2_2_2, cz2_2_3⟩ := z2_2.c4
  obtain ⟨fz2_2_0, fz2_2_1, fz2_2_2, fz2_2_3⟩ := z2_2.f4
  obtain ⟨lz2_2_0, lz2_2_1, lz2_2_2, lz2_2_3⟩ := lts2 z2_2.lt
  go_wp2_with fail
  refine bodyPost_ret (v := .agg #[.bool b8, .slice A8 n8 c8, .slice A'8 n'8 c'8, .bool x8]) (by simp [results, Tryz.results28, go_sem, *] <;> first | rfl | exact ⟨rfl, rfl⟩) rfl ?_
  have kp := (((((Kp.refl w8).setB (p := ⟨w.heap.size + 1 + 1, 0, none⟩) z2_2.box (by decide) (.bool b8)).setB (p := ⟨w.heap.size + 1 + 1, 1, none⟩) (z2_2.box.set ⟨w.heap.size + 1 + 1, 0, none⟩ (.bool b8)) (by decide) (.slice A8 n8 c8)).setB (p := ⟨w.heap.size + 1 + 1, 2, none⟩) ((z2_2.box.set ⟨w.heap.size + 1 + 1, 0, none⟩ (.bool b8)).set ⟨w.heap.size + 1 + 1, 1, none⟩ (.slice A8 n8 c8)) (by decide) (.slice A'8 n'8 c'8)).setB (p := ⟨w.heap.size + 1 + 1, 3, none⟩) (((z2_2.box.set ⟨w.heap.size + 1 + 1, 0, none⟩ (.bool b8)).set ⟨w.heap.size + 1 + 1, 1, none⟩ (.slice A8 n8 c8)).set ⟨w.heap.size + 1 + 1, 2, none⟩ (.slice A'8 n'8 c'8)) (by decide) (.bool x8))
  exact ⟨b8, A8, n8, c8, A'8, n'8, c'8, x8, rfl, (h8.keep kp).mono (by omega), ((((bw8.setCell (p := ⟨w.heap.size + 1 + 1, 0, none⟩) (by dsimp only; omega) (.bool b8)).setCell (p := ⟨w.heap.size + 1 + 1, 1, none⟩) (by dsimp only; omega) (.slice A8 n8 c8)).setCell (p := ⟨w.heap.size + 1 + 1, 2, none⟩) (by dsimp only; omega) (.slice A'8 n'8 c'8)).setCell (p := ⟨w.heap.size + 1 + 1, 3, none⟩) (by dsimp only; omega) (.bool x8))⟩
set_option maxRecDepth 100000 in
set_option maxHeartbeats 4000000 in
/-- turn.add -/
theorem t_add_ff1 (w : World) (b : Bool) (A : Option Addr) (n c : Nat) (D : Option Addr) (m e : Nat) (t : TN) (k : Nat) (h : TK w b A n c D m e false t k) (b' : Bool) (A' : Option Addr) (n' c' : Nat) (D' : Option Addr) (m' e' : Nat) (t' : TN) (k' : Nat) (h' : TK w b' A' n' c' D' m' e' false t' k') (h0 : 0 < k) (hk : k ≤ 1000000) (h0' : 0 < k') (hk' : k' ≤ 1000000) (hz : ((1 : Int) : Rat) - t.t * t'.t ≠ 0) :
    Calls Tryz.prog 28 #[.agg #[.bool b, .slice A n c, .slice D m e, .bool false], .agg #[.bool b', .slice A' n' c', .slice D' m' e', .bool false]] w (RetT w (tadd t t') (2 * k + 2 * k' + 3)) := by
  have HT := Lib.hid (show tadd t t' = ⟨(t.t + t'.t) / (((1 : Int) : Rat) - t.t * t'.t), false⟩ by unfold tadd tadd1; have hz' : ¬ (1 - t.t * t'.t = 0) := hz; simp [← h.2.1, ← h'.2.1, hz'])
  obtain ⟨s, hs⟩ : ∃ s, (((1 : Int) : Rat) - t.t * t'.t).num.sign = s := ⟨_, rfl⟩
  have e0 := sgn_ne hs hz
  have HZ := Lib.hid hs
  have HNE := Lib.hid hz
  clear hz hs
  go_enter Tryz.func28, Tryz.ntmps28
  go_wp2_with fail
  have p1 : Kp w (((w.alloc (.cells #[.bool b, .slice A n c, .slice D m e, .bool false] 26)).alloc (.cells #[.bool b', .slice A' n' c', .slice D' m' e', .bool false] 26)).alloc (.cells #[.bool false, .slice none 0 0, .slice none 0 0, .bool false] 26)) := ((((Kp.refl w).alloc (.cells #[.bool b, .slice A n c, .slice D m e, .bool false] 26)).alloc (.cells #[.bool b', .slice A' n' c', .slice D' m' e', .bool false] 26)).alloc (.cells #[.bool false, .slice none 0 0, .slice none 0 0, .bool false] 26))
  have bw1 : Below w.heap.size w (((w.alloc (.cells #[.bool b, .slice A n c, .slice D m e, .bool false] 26)).alloc (.cells #[.bool b', .slice A' n' c', .slice D' m' e', .bool false] 26)).alloc (.cells #[.bool false, .slice none 0 0, .slice none 0 0, .bool false] 26)) := ((((brefl w).alloc (by first | omega | (simp <;> omega)) (.cells #[.bool b, .slice A n c, .slice D m e, .bool false] 26)).alloc (by first | omega | (simp <;> omega)) (.cells #[.bool b', .slice A' n' c', .slice D' m' e', .bool false] 26)).alloc (by first | omega | (simp <;> omega)) (.cells #[.bool false, .slice none 0 0, .slice none 0 0, .bool false] 26))
  have x1_0 : Blk (((w.alloc (.cells #[.bool b, .slice A n c, .slice D m e, .bool false] 26)).alloc (.cells #[.bool b', .slice A' n' c', .slice D' m' e', .bool false] 26)).alloc (.cells #[.bool false, .slice none 0 0, .slice none 0 0, .bool false] 26)) (w.heap.size) 26 #[.bool b, .slice A n c, .slice D m e, .bool false] := (((blkAt _ _ _ (by simp)).alloc (.cells #[.bool b', .slice A' n' c', .slice D' m' e', .bool false] 26)).alloc (.cells #[.bool false, .slice none 0 0, .slice none 0 0, .bool false] 26))
  have x1_1 : Blk (((w.alloc (.cells #[.bool b, .slice A n c, .slice D m e, .bool false] 26)).alloc (.cells #[.bool b', .slice A' n' c', .slice D' m' e', .bool false] 26)).alloc (.cells #[.bool false, .slice none 0 0, .slice none 0 0, .bool false] 26)) (w.heap.size + 1) 26 #[.bool b', .slice A' n' c', .slice D' m' e', .bool false] := ((blkAt _ _ _ (by simp)).alloc (.cells #[.bool false, .slice none 0 0, .slice none 0 0, .bool false] 26))
  have x1_2 : Blk (((w.alloc (.cells #[.bool b, .slice A n c, .slice D m e, .bool false] 26)).alloc (.cells #[.bool b', .slice A' n' c', .slice D' m' e', .bool false] 26)).alloc (.cells #[.bool false, .slice none 0 0, .slice none 0 0, .bool false] 26)) (w.heap.size + 1 + 1) 26 #[.bool false, .slice none 0 0, .slice none 0 0, .bool false] := (blkAt _ _ _ (by simp))
  have lw1 : w.heap.size + 3 ≤ (((w.alloc (.cells #[.bool b, .slice A n c, .slice D m e, .bool false] 26)).alloc (.cells #[.bool b', .slice A' n' c', .slice D' m' e', .bool false] 26)).alloc (.cells #[.bool false, .slice none 0 0, .slice none 0 0, .bool false] 26)).heap.size := by simp
  generalize hE1 : (((w.alloc (.cells #[.bool b, .slice A n c, .slice D m e, .bool false] 26)).alloc (.cells #[.bool b', .slice A' n' c', .slice D' m' e', .bool false] 26)).alloc (.cells #[.bool false, .slice none 0 0, .slice none 0 0, .bool false] 26)) = w1 at p1 bw1 lw1 x1_0 x1_1 x1_2 ⊢
  clear hE1
  replace h := h.keep p1
  replace h' := h'.keep p1
  obtain ⟨cx1_0_0, cx1_0_1, cx1_0_2, cx1_0_3⟩ := x1_0.c4
  obtain ⟨lx1_0_0, lx1_0_1, lx1_0_2, lx1_0_3⟩ := lts0 x1_0.lt
  obtain ⟨cx1_1_0, cx1_1_1, cx1_1_2, cx1_1_3⟩ := x1_1.c4
  obtain ⟨lx1_1_0, lx1_1_1, lx1_1_2, lx1_1_3⟩ := lts1 x1_1.lt
  refine wp_region_lin (B := w.heap.size) (fr := fun xf => ⟨#[.agg #[.bool b, .slice A n c, .slice D m e, .bool false], .agg #[.bool b', .slice A' n' c', .slice D' m' e', .bool false], .pointer (some ⟨w.heap.size, 0, none⟩), .pointer (some ⟨w.heap.size + 1, 0, none⟩), .pointer (some ⟨w.heap.size + 1 + 1, 0, none⟩), xf 7, _, .pointer (some ⟨w.heap.size, 3, none⟩), .bool false, .bool false, _, _, _, undef, .bool false, .pointer (some ⟨w.heap.size + 1, 3, none⟩), .bool false, undef, undef, undef, _, .pointer (some ⟨w.heap.size, 3, none⟩), .bool false, .bool false, _, _, _, _, _, undef, .bool false, .pointer (some ⟨w.heap.size, 3, none⟩), .bool false, undef, undef, undef, undef, undef, xf 0, xf 1, xf 2, xf 3, xf 4, xf 5, xf 6, undef, undef, undef, undef, undef, undef, undef, undef, undef, undef, undef, undef], []⟩) (R := fun i => List.getD [VQ (((1 : Int) : Rat)) (1), PEq (.pointer (some ⟨w.heap.size, 0, none⟩)), PEq (.agg #[.bool b, .slice A n c, .slice D m e]), PEq (.pointer (some ⟨w.heap.size + 1, 0, none⟩)), PEq (.agg #[.bool b', .slice A' n' c', .slice D' m' e']), VQ (((t).t) * ((t').t)) ((k) + (k')), VQ ((((1 : Int) : Rat)) - (((t).t) * ((t').t))) ((1) + ((k) + (k')) + 1), PAny, PAny] i (fun _ _ => True)) (es := [⟨7, 8, 24, #[.bool false, .slice none 0 0, .slice none 0 0], CQ ((((1 : Int) : Rat)) - (((t).t) * ((t').t))) ((1) + ((k) + (k')) + 1)⟩]) (ow := [⟨w.heap.size, 9, 0, 26, #[.bool b, .slice A n c, .slice D m e, .bool false], CAny⟩, ⟨w.heap.size + 1, 9, 0, 26, #[.bool b', .slice A' n' c', .slice D' m' e', .bool false], CAny⟩, ⟨w.heap.size + 1 + 1, 9, 0, 26, #[.bool false, .slice none 0 0, .slice none 0 0, .bool false], CAny⟩]) (x0 := fun _ => undef) (by kernel_rfl)
    (each_of ⟨fun _ _ => rfl, fun _ _ => rfl, fun _ _ => rfl, fun _ _ => rfl, fun _ _ => rfl, fun _ _ => rfl, fun _ _ => rfl, fun _ _ => rfl, fun _ _ => rfl, trivial⟩) (each_of (acyc_from _ 0 (by kernel_rfl))) (AllStab.get _ ⟨stQ _ _, stEq _, stEq _, stEq _, stEq _, stQ _ _, stQ _ _, stAny, stAny, trivial⟩)
    (List.forall_mem_cons.2 ⟨scQ _ _, fun _ h => nomatch h⟩) (List.forall_mem_cons.2 ⟨scAny, List.forall_mem_cons.2 ⟨scAny, List.forall_mem_cons.2 ⟨scAny, fun _ h => nomatch h⟩⟩⟩) (List.forall_mem_cons.2 ⟨⟨by simp, by simp⟩, fun _ h => nomatch h⟩) bw1.size
    (List.forall_mem_cons.2 ⟨⟨x1_0, by show w.heap.size ≤ w.heap.size; omega⟩, List.forall_mem_cons.2 ⟨⟨x1_1, by show w.heap.size ≤ w.heap.size + 1; omega⟩, List.forall_mem_cons.2 ⟨⟨x1_2, by show w.heap.size ≤ w.heap.size + 1 + 1; omega⟩, fun _ h => nomatch h⟩⟩⟩) (ownDist (by simp <;> omega))
    (each_of ⟨?_, ?_, ?_, ?_, ?_, ?_, ?_, ?_, ?_, trivial⟩) ?_
  · exact .inl ⟨by simp, by simp, fun xf wq hk hbl hd K hK => by
      (try dsimp only)
      go_simp
      go_at_call 33
      (with_reducible refine (f_of _ (1) ?_ ?_).mono ?_); (first | omega | decide | assumption); (first | omega | decide | assumption); rintro e wr ⟨b3, A3, n3, c3, A'3, n'3, c'3, rfl, h3, hbr⟩
      exact hK.out _ _ ⟨b3, A3, n3, c3, A'3, n'3, c'3, rfl, h3⟩ hbr⟩
  · exact .inl ⟨by simp, by simp, fun xf wq hk hbl hd K hK => by
      (try dsimp only)
      go_simp
      exact hK.out (.pointer (some ⟨w.heap.size, 0, none⟩)) _ rfl (brefl _)⟩
  · exact .inl ⟨by simp, by simp, fun xf wq hk hbl hd K hK => by
      have d1 : xf 1 = .pointer (some ⟨w.heap.size, 0, none⟩) := hd ⟨1, .data⟩ (by simp) rfl
      have y : Blk wq (w.heap.size) 26 #[.bool b, .slice A n c, .slice D m e, .bool false] := hbl _ (List.Mem.head _) (by simp [Region.binds])
      obtain ⟨c0, c1, c2, c3⟩ := y.c4
      (try dsimp only); (try simp only [d1])
      go_simp
      have hz := hK.out (.agg #[.bool b, .slice A n c, .slice D m e]) _ rfl (brefl _)
      simp only [d1] at hz
      exact hz⟩
  · exact .inl ⟨by simp, by simp, fun xf wq hk hbl hd K hK => by
      (try dsimp only)
      go_simp
      exact hK.out (.pointer (some ⟨w.heap.size + 1, 0, none⟩)) _ rfl (brefl _)⟩
  · exact .inl ⟨by simp, by simp, fun xf wq hk hbl hd K hK => by
      have d3 : xf 3 = .pointer (some ⟨w.heap.size + 1, 0, none⟩) := hd ⟨3, .data⟩ (by simp) rfl
      have y : Blk wq (w.heap.size + 1) 26 #[.bool b', .slice A' n' c', .slice D' m' e', .bool false] := hbl _ (List.Mem.tail _ (List.Mem.head _)) (by simp [Region.binds])
      obtain ⟨c0, c1, c2, c3⟩ := y.c4
      (try dsimp only); (try simp only [d3])
      go_simp
      have hz := hK.out (.agg #[.bool b', .slice A' n' c', .slice D' m' e']) _ rfl (brefl _)
      simp only [d3] at hz
      exact hz⟩
  · exact .inl ⟨by simp, by simp, fun xf wq hk hbl hd K hK => by
      have d2 : xf 2 = .agg #[.bool b, .slice A n c, .slice D m e] := hd ⟨2, .data⟩ (by simp) rfl
      have d4 : xf 4 = .agg #[.bool b', .slice A' n' c', .slice D' m' e'] := hd ⟨4, .data⟩ (by simp) rfl
      (try dsimp only); (try simp only [d2, d4])
      go_simp
      go_at_call 39
      (with_reducible refine (f_mul _ b A n c D m e ((t).t) (k) ?_ b' A' n' c' D' m' e' ((t').t) (k') ?_ ?_ ?_ ?_ ?_).mono ?_); (exact (h.keep hk).qz); (exact (h'.keep hk).qz); (first | omega | decide | assumption); (first | omega | decide | assumption); (first | omega | decide | assumption); (first | omega | decide | assumption); rintro e wr ⟨b4, A4, n4, c4, A'4, n'4, c'4, rfl, h4, hbr⟩
      have hz := hK.out _ _ ⟨b4, A4, n4, c4, A'4, n'4, c'4, rfl, h4⟩ hbr
      simp only [d2, d4] at hz
      exact hz⟩
  · exact .inl ⟨by simp, by simp, fun xf wq hk hbl hd K hK => by
      obtain ⟨b3, A3, n3, c3, A'3, n'3, c'3, d0, h3⟩ : VQ (((1 : Int) : Rat)) (1) (xf 0) wq := hd ⟨0, .data⟩ (by simp) rfl
      obtain ⟨b4, A4, n4, c4, A'4, n'4, c'4, d5, h4⟩ : VQ (((t).t) * ((t').t)) ((k) + (k')) (xf 5) wq := hd ⟨5, .data⟩ (by simp) rfl
      (try dsimp only); (try simp only [d0, d5])
      go_simp
      go_at_call 38
      (with_reducible refine (f_sub _ b3 A3 n3 c3 A'3 n'3 c'3 (((1 : Int) : Rat)) (1) ?_ b4 A4 n4 c4 A'4 n'4 c'4 (((t).t) * ((t').t)) ((k) + (k')) ?_ ?_ ?_ ?_ ?_).mono ?_); (exact h3.qz); (exact h4.qz); (first | omega | decide | assumption); (first | omega | decide | assumption); (first | omega | decide | assumption); (first | omega | decide | assumption); rintro e wr ⟨b5, A5, n5, c5, A'5, n'5, c'5, rfl, h5, hbr⟩
      have hz := hK.out _ _ ⟨b5, A5, n5, c5, A'5, n'5, c'5, rfl, h5⟩ hbr
      simp only [d0, d5] at hz
      exact hz⟩
  · exact .inr (.inl ⟨⟨7, 8, 24, #[.bool false, .slice none 0 0, .slice none 0 0], CQ ((((1 : Int) : Rat)) - (((t).t) * ((t').t))) ((1) + ((k) + (k')) + 1)⟩, by simp, rfl, by simp, by simp, by simp, fun _ _ => True.intro, fun xf wq K hK => by
      (try dsimp only)
      go_simp
      exact hK.out⟩)
  · exact .inr (.inr (.inl ⟨⟨7, 8, 24, #[.bool false, .slice none 0 0, .slice none 0 0], CQ ((((1 : Int) : Rat)) - (((t).t) * ((t').t))) ((1) + ((k) + (k')) + 1)⟩, by simp, rfl, by simp, by simp, by simp, by simp, (show KT 24 = false by decide), fun _ _ => True.intro, ⟨⟨7, .data⟩, by simp, rfl, rfl⟩, fun xf wq g hx hblk hd => by
      obtain ⟨b5, A5, n5, c5, A'5, n'5, c'5, d6, h5⟩ : VQ ((((1 : Int) : Rat)) - (((t).t) * ((t').t))) ((1) + ((k) + (k')) + 1) (xf 6) wq := hd ⟨6, .data⟩ (by simp) rfl
      dsimp only at hx hblk
      refine ⟨[.bool b5, .slice A5 n5 c5, .slice A'5 n'5 c'5], fun w' hk => ⟨b5, A5, n5, c5, A'5, n'5, c'5, rfl, h5.keep hk⟩, fun K hK => ?_⟩
      have hc0 : wq.cell? ⟨g, 0, none⟩ = some (.bool false) := hblk.cell 0
      have hc1 : wq.cell? ⟨g, 1, none⟩ = some (.slice none 0 0) := hblk.cell 1
      have hc2 : wq.cell? ⟨g, 2, none⟩ = some (.slice none 0 0) := hblk.cell 2
      have hf0 : wq.frozen? ⟨g, 0, none⟩ = false := hblk.frozen 0
      have hf1 : wq.frozen? ⟨g, 1, none⟩ = false := hblk.frozen 1
      have hf2 : wq.frozen? ⟨g, 2, none⟩ = false := hblk.frozen 2
      (try dsimp only)
      simp only [hx, d6]
      go_simp
      have hz := hK.out undef
      simp only [hx, d6] at hz
      exact hz⟩))
  clear cx1_0_0 cx1_0_1 cx1_0_2 cx1_0_3 lx1_0_0 lx1_0_1 lx1_0_2 lx1_0_3 cx1_1_0 cx1_1_1 cx1_1_2 cx1_1_3 lx1_1_0 lx1_1_1 lx1_1_2 lx1_1_3
  intro y2 w2 kq2 hbl2 lw2 how hrr hfl hds
  replace h := h.keep kq2
  replace h' := h'.keep kq2
  obtain ⟨_, z2_0, ez, _⟩ := how _ (List.Mem.head _)
  obtain rfl := ez (by simp)
  dsimp only at z2_0
  obtain ⟨_, z2_1, ez, _⟩ := how _ (List.Mem.tail _ (List.Mem.head _))
  obtain rfl := ez (by simp)
  dsimp only at z2_1
  obtain ⟨_, z2_2, ez, _⟩ := how _ (List.Mem.tail _ (List.Mem.tail _ (List.Mem.head _)))
  obtain rfl := ez (by simp)
  dsimp only at z2_2
  obtain ⟨g5_2, _, eg5_2, Gg5_2, xg5_2, ⟨b5, A5, n5, c5, A'5, n'5, c'5, rfl, h5⟩⟩ := hfl _ (List.Mem.head _)
  dsimp only at eg5_2 Gg5_2 xg5_2
  have lgg5_2 : g5_2 < w2.heap.size := xg5_2.lt
  (try dsimp only)
  simp only [eg5_2]
  clear hrr hfl how hds eg5_2
  clear x1_0 x1_1 x1_2
  have bw2 : Below w.heap.size w w2 := bw1.trans hbl2
  clear bw1
  obtain ⟨cxg5_2_0, cxg5_2_1, cxg5_2_2⟩ := xg5_2.c3
  obtain ⟨lxg5_2_0, lxg5_2_1, lxg5_2_2, lxg5_2_3⟩ := lts0 xg5_2.lt
  go_wp2_with fail
  (with_reducible refine (f_sign_e _ b5 A5 n5 c5 A'5 n'5 c'5 ((((1 : Int) : Rat)) - (((t).t) * ((t').t))) ((1) + ((k) + (k')) + 1) ?_ (s) ?_ ?_ ?_).mono ?_); (exact h5.qz); (exact HZ.out); (first | omega | decide | assumption); (first | omega | decide | assumption); rintro e w7 ⟨rfl, hb7⟩
  clear cxg5_2_0 cxg5_2_1 cxg5_2_2 lxg5_2_0 lxg5_2_1 lxg5_2_2 lxg5_2_3
  have q7 : Below w2.heap.size w2 w7 := hb7
  replace h := h.belw q7
  replace h' := h'.belw q7
  replace h5 := h5.belw q7
  replace z2_0 := z2_0.below q7 z2_0.lt
  replace z2_1 := z2_1.below q7 z2_1.lt
  replace z2_2 := z2_2.below q7 z2_2.lt
  replace xg5_2 := xg5_2.below q7 xg5_2.lt
  have bw7 : Below w.heap.size w w7 := bw2.trans (q7.mono bw2.size)
  have lw7 : w2.heap.size ≤ w7.heap.size := q7.size
  clear hb7 q7 bw2
  obtain ⟨cz2_0_0, cz2_0_1, cz2_0_2, cz2_0_3⟩ := z2_0.c4
  obtain ⟨lz2_0_0, lz2_0_1, lz2_0_2, lz2_0_3⟩ := lts0 z2_0.lt
  obtain ⟨cz2_1_0, cz2_1_1, cz2_1_2, cz2_1_3⟩ := z2_1.c4
  obtain ⟨lz2_1_0, lz2_1_1, lz2_1_2, lz2_1_3⟩ := lts1 z2_1.lt
  obtain ⟨cz2_2_0, cz2_2_1, cz2_2_2, cz2_2_3⟩ := z2_2.c4
  obtain ⟨fz2_2_0, fz2_2_1, fz2_2_2, fz2_2_3⟩ := z2_2.f4
  obtain ⟨lz2_2_0, lz2_2_1, lz2_2_2, lz2_2_3⟩ := lts2 z2_2.lt
  obtain ⟨cxg5_2_0, cxg5_2_1, cxg5_2_2⟩ := xg5_2.c3
  obtain ⟨lxg5_2_0, lxg5_2_1, lxg5_2_2, lxg5_2_3⟩ := lts0 xg5_2.lt
  go_wp2_with fail
  have nfz2_0_0 : ¬ w.heap.size = w.heap.size + 1 + 1 := by omega
  have nez2_0_0 : ¬ w.heap.size = w.heap.size + 2 := by omega
  have nfz2_1_0 : ¬ w.heap.size + 1 = w.heap.size + 1 + 1 := by omega
  have nez2_1_0 : ¬ w.heap.size = w.heap.size + 1 := by omega
  have nfxg5_2_0 : ¬ g5_2 = w.heap.size + 1 + 1 := by omega
  have nexg5_2_0 : ¬ g5_2 = w.heap.size + 2 := by omega
  go_region_held3 (fun w' => SeesX w7.heap.size (w.heap.size + 1 + 1) w7 w') (first | with_reducible exact SeesX.of (Nat.le_refl _) (by assumption) | with_reducible exact SeesX.of (Nat.le_refl _) (brefl _).drew | with_reducible exact (SeesX.set (SeesX.set (SeesX.set (SeesX.set (SeesX.of (Nat.le_refl _) (by assumption)))))) | with_reducible exact (SeesX.set (SeesX.set (SeesX.set (SeesX.of (Nat.le_refl _) (by assumption))))) | with_reducible exact (SeesX.set (SeesX.set (SeesX.of (Nat.le_refl _) (by assumption)))) | with_reducible exact (SeesX.set (SeesX.of (Nat.le_refl _) (by assumption))) | exact SeesX.of (Nat.le_refl _) (below_drewN (brefl _) 1) | exact SeesX.of (Nat.le_refl _) (below_drewN (by assumption) _))
    (first
      | (go_at_call 40; (with_reducible refine (f_add _ b A n c D m e ((t).t) (k) ?_ b' A' n' c' D' m' e' ((t').t) (k') ?_ ?_ ?_ ?_ ?_).mono ?_); (exact h.qz); (exact h'.qz); (first | omega | decide | assumption); (first | omega | decide | assumption); (first | omega | decide | assumption); (first | omega | decide | assumption); rintro e w8 ⟨b8, A8, n8, c8, A'8, n'8, c'8, rfl, h8, hb8⟩; replace hb8 := bnext (below_drewN (brefl _) 1) hb8; have q8 : Below w7.heap.size w7 w8 := bnext (brefl w7) hb8; replace h := h.belw hb8; replace h' := h'.belw hb8; replace h5 := h5.belw hb8)
      | (go_at_call 35; (with_reducible refine (t_over _ b8 A8 n8 c8 A'8 n'8 c'8 (((t).t) + ((t').t)) ((k) + (k') + 1) ?_ b5 A5 n5 c5 A'5 n'5 c'5 ((((1 : Int) : Rat)) - (((t).t) * ((t').t))) ((1) + ((k) + (k')) + 1) ?_ ?_ ?_ ?_ ?_ ?_).mono ?_); (exact h8.qz); (exact h5.qz); (first | omega | decide | assumption); (first | omega | decide | assumption); (first | omega | decide | assumption); (first | omega | decide | assumption); (exact HNE.out); rintro e w9 ⟨b9, A9, n9, c9, A'9, n'9, c'9, rfl, h9, hb9⟩; have q9 : Below w7.heap.size w7 w9 := bnext q8 hb9; replace h := h.belw hb9; replace h' := h'.belw hb9; replace h5 := h5.belw hb9; replace h8 := h8.belw hb9; have z2_2 : Blk w9 (w.heap.size + 1 + 1) 26 #[.bool false, .slice none 0 0, .slice none 0 0, .bool false] := z2_2.below q9 z2_2.lt; obtain ⟨cz2_2_0, cz2_2_1, cz2_2_2, cz2_2_3⟩ := z2_2.c4; obtain ⟨fz2_2_0, fz2_2_1, fz2_2_2, fz2_2_3⟩ := z2_2.f4))
  have bw9 : Below w.heap.size w w9 := bw7.trans (q9.mono bw7.size)
  clear cz2_0_0 cz2_0_1 cz2_0_2 cz2_0_3 lz2_0_0 lz2_0_1 lz2_0_2 lz2_0_3 cz2_1_0 cz2_1_1 cz2_1_2 cz2_1_3 lz2_1_0 lz2_1_1 lz2_1_2 lz2_1_3 cz2_2_0 fz2_2_0 cz2_2_1 fz2_2_1 cz2_2_2 fz2_2_2 cz2_2_3 fz2_2_3 lz2_2_0 lz2_2_1 lz2_2_2 lz2_2_3 cxg5_2_0 cxg5_2_1 cxg5_2_2 lxg5_2_0 lxg5_2_1 lxg5_2_2 lxg5_2_3
  replace z2_0 := z2_0.below q9 z2_0.lt
  replace z2_1 := z2_1.below q9 z2_1.lt
  replace xg5_2 := xg5_2.below q9 xg5_2.lt
  have lw9 : w7.heap.size ≤ w9.heap.size := q9.size
  obtain ⟨cz2_2_0, cz2_2_1, cz2_2_2, cz2_2_3⟩ := z2_2.c4
  obtain ⟨fz2_2_0, fz2_2_1, fz2_2_2, fz2_2_3⟩ := z2_2.f4
  go_wp2_with fail
  rw [HT.out]
  refine bodyPost_ret (v := .agg #[.bool b9, .slice A9 n9 c9, .slice A'9 n'9 c'9, .bool false]) (by simp [results, Tryz.results28, go_sem, *] <;> first | rfl | exact ⟨rfl, rfl⟩) rfl ?_
  have kp := (((((Kp.refl w9).setB (p := ⟨w.heap.size + 1 + 1, 0, none⟩) z2_2.box (by decide) (.bool b9)).setB (p := ⟨w.heap.size + 1 + 1, 1, none⟩) (z2_2.box.set ⟨w.heap.size + 1 + 1, 0, none⟩ (.bool b9)) (by decide) (.slice A9 n9 c9)).setB (p := ⟨w.heap.size + 1 + 1, 2, none⟩) ((z2_2.box.set ⟨w.heap.size + 1 + 1, 0, none⟩ (.bool b9)).set ⟨w.heap.size + 1 + 1, 1, none⟩ (.slice A9 n9 c9)) (by decide) (.slice A'9 n'9 c'9)).setB (p := ⟨w.heap.size + 1 + 1, 3, none⟩) (((z2_2.box.set ⟨w.heap.size + 1 + 1, 0, none⟩ (.bool b9)).set ⟨w.heap.size + 1 + 1, 1, none⟩ (.slice A9 n9 c9)).set ⟨w.heap.size + 1 + 1, 2, none⟩ (.slice A'9 n'9 c'9)) (by decide) (.bool false))
  exact ⟨b9, A9, n9, c9, A'9, n'9, c'9, false, rfl, (tv_mk (h9.keep kp)).mono (by omega), ((((bw9.setCell (p := ⟨w.heap.size + 1 + 1, 0, none⟩) (by dsimp only; omega) (.bool b9)).setCell (p := ⟨w.heap.size + 1 + 1, 1, none⟩) (by dsimp only; omega) (.slice A9 n9 c9)).setCell (p := ⟨w.heap.size + 1 + 1, 2, none⟩) (by dsimp only; omega) (.slice A'9 n'9 c'9)).setCell (p := ⟨w.heap.size + 1 + 1, 3, none⟩) (by dsimp only; omega) (.bool false))⟩
theorem t_add (w : World) (b : Bool) (A : Option Addr) (n c : Nat) (D : Option Addr) (m e : Nat) (x : Bool) (t : TN) (k : Nat) (h : TK w b A n c D m e x t k) (b' : Bool) (A' : Option Addr) (n' c' : Nat) (D' : Option Addr) (m' e' : Nat) (x' : Bool) (t' : TN) (k' : Nat) (h' : TK w b' A' n' c' D' m' e' x' t' k') (h0 : 0 < k) (hk : k ≤ 1000000) (h0' : 0 < k') (hk' : k' ≤ 1000000) : Calls Tryz.prog 28 #[.agg #[.bool b, .slice A n c, .slice D m e, .bool x], .agg #[.bool b', .slice A' n' c', .slice D' m' e', .bool x']] w (RetT w (tadd t t') (2 * k + 2 * k' + 3)) := by
  cases x <;> cases x'
  · by_cases hz : ((1 : Int) : Rat) - t.t * t'.t = 0
    · exact t_add_ff0 w b A n c D m e t k h b' A' n' c' D' m' e' t' k' h' h0 hk h0' hk' hz
    · exact t_add_ff1 w b A n c D m e t k h b' A' n' c' D' m' e' t' k' h' h0 hk h0' hk' hz
  · exact t_add_ft w b A n c D m e t k h b' A' n' c' D' m' e' t' k' h' h0 hk h0' hk'
  · exact t_add_tf w b A n c D m e t k h b' A' n' c' D' m' e' t' k' h' h0 hk h0' hk'
  · exact t_add_tt w b A n c D m e t k h b' A' n' c' D' m' e' t' k' h' h0 hk h0' hk'
end Go.Proofs.YtmneloabphplmaaGreat

/- Walks: the first error of some turns. -/
namespace Go.Proofs.YtmneloabphplmaaGreat
open Go Go.RowKit Bn
attribute [local go_sem ↓] Go.wp_at_zero Go.wp_at_succ
/-- Turns in a row, all accepted. -/
def Ts (w : World) (g n k : Nat) : Prop := g < w.heap.size ∧ ∀ i, i < n → ∃ b A m c D m' e x t, w.cell? ⟨g, i * 4, none⟩ = some (.bool b) ∧ w.cell? ⟨g, i * 4 + 1, none⟩ = some (.slice A m c) ∧ w.cell? ⟨g, i * 4 + 2, none⟩ = some (.slice D m' e) ∧ w.cell? ⟨g, i * 4 + 3, none⟩ = some (.bool x) ∧ TK w b A m c D m' e x t k
theorem Ts.belw {w w' : World} {g n k : Nat} (h : Ts w g n k) (hb : Below w.heap.size w w') : Ts w' g n k := by
  obtain ⟨hg, h⟩ := h
  have hc := (bcell hb).1
  refine ⟨Nat.lt_of_lt_of_le hg hb.size, fun i hi => ?_⟩
  obtain ⟨b, A, m, c, D, m', e, x, t, h1, h2, h3, h4, h5⟩ := h i hi
  exact ⟨b, A, m, c, D, m', e, x, t, (hc _ _ hg).trans h1, (hc _ _ hg).trans h2, (hc _ _ hg).trans h3, (hc _ _ hg).trans h4, h5.belw hb⟩
theorem ts2 {w : World} {g k : Nat} {T : TypeId} {b : Bool} {A : Option Addr} {m c : Nat} {D : Option Addr} {m' e : Nat} {x : Bool} {t : TN} {b1 : Bool} {A1 : Option Addr} {m1 c1 : Nat} {D1 : Option Addr} {m1' e1 : Nat} {x1 : Bool} {t1 : TN}
    (hb : Blk w g T #[.bool b, .slice A m c, .slice D m' e, .bool x, .bool b1, .slice A1 m1 c1, .slice D1 m1' e1, .bool x1]) (h : TK w b A m c D m' e x t k) (h1 : TK w b1 A1 m1 c1 D1 m1' e1 x1 t1 k) : Ts w g 2 k := by
  refine ⟨hb.lt, fun i hi => ?_⟩
  match i, hi with
  | 0, _ => exact ⟨_, _, _, _, _, _, _, _, t, hb.cell 0, hb.cell 1, hb.cell 2, hb.cell 3, h⟩
  | 1, _ => exact ⟨_, _, _, _, _, _, _, _, t1, hb.cell 4, hb.cell 5, hb.cell 6, hb.cell 7, h1⟩
theorem ts3 {w : World} {g k : Nat} {T : TypeId} {b : Bool} {A : Option Addr} {m c : Nat} {D : Option Addr} {m' e : Nat} {x : Bool} {t : TN} {b1 : Bool} {A1 : Option Addr} {m1 c1 : Nat} {D1 : Option Addr} {m1' e1 : Nat} {x1 : Bool} {t1 : TN} {b2 : Bool} {A2 : Option Addr} {m2 c2 : Nat} {D2 : Option Addr} {m2' e2 : Nat} {x2 : Bool} {t2 : TN}
    (hb : Blk w g T #[.bool b, .slice A m c, .slice D m' e, .bool x, .bool b1, .slice A1 m1 c1, .slice D1 m1' e1, .bool x1, .bool b2, .slice A2 m2 c2, .slice D2 m2' e2, .bool x2]) (h : TK w b A m c D m' e x t k) (h1 : TK w b1 A1 m1 c1 D1 m1' e1 x1 t1 k) (h2 : TK w b2 A2 m2 c2 D2 m2' e2 x2 t2 k) : Ts w g 3 k := by
  refine ⟨hb.lt, fun i hi => ?_⟩
  match i, hi with
  | 0, _ => exact ⟨_, _, _, _, _, _, _, _, t, hb.cell 0, hb.cell 1, hb.cell 2, hb.cell 3, h⟩
  | 1, _ => exact ⟨_, _, _, _, _, _, _, _, t1, hb.cell 4, hb.cell 5, hb.cell 6, hb.cell 7, h1⟩
  | 2, _ => exact ⟨_, _, _, _, _, _, _, _, t2, hb.cell 8, hb.cell 9, hb.cell 10, hb.cell 11, h2⟩
set_option maxRecDepth 100000 in
set_option maxHeartbeats 2000000 in
theorem t_checkAll (w : World) (g n k : Nat) (h : Ts w g n k) (hn : n ≤ 1000) (h0 : 0 < k) (hk : k ≤ 1000000) :
    Calls Tryz.prog 25 #[.slice (some ⟨g, 0, none⟩) n n] w (RetV w .nilIface) := by
  go_enter Tryz.func25, Tryz.ntmps25
  go_wp2_with fail
  go_loopw [8] (fun iv wr => ∃ i : Nat, i ≤ n ∧ iv = .int .i64 (i : Nat) ∧ Below w.heap.size w wr) (fun iv _ => n - (intOf iv).toNat)
  case atStart => exact ⟨0, Nat.zero_le _, rfl, brefl w⟩
  case round =>
    obtain ⟨i, hi, rfl, hb⟩ := hrel
    by_cases hlt : i < n
    · have hw := h.belw hb
      obtain ⟨b, A, m, c, D, m', e, x, t, c0, c1, c2, c3, h5⟩ := hw.2 i hlt
      have hgl := hw.1
      have H := Lib.hid h
      clear h hw
      go_wp2_with fail
      (with_reducible refine (t_check _ b A m c D m' e x t k ?_ ?_ ?_).mono ?_); (exact h5.belw ((Below.refl _ _).alloc (Nat.le_refl _) _)); (exact h0); (exact hk); rintro e w1 ⟨rfl, hb1⟩
      go_wp2_with fail
      go_roundw
      case rel => exact ⟨i + 1, by omega, by go_num, hb.trans (((Below.refl _ _).alloc (Nat.le_refl _) _).trans (hb1.mono (by simp)) |>.mono hb.size)⟩
      case measure => simp [intOf]; omega
    · have H := Lib.hid h
      clear h
      go_wp2_with fail
      go_ret
      exact ⟨rfl, hb⟩
end Go.Proofs.YtmneloabphplmaaGreat
